/- Own work. -/
import Derived.Test.YtooiookccchmeaaGreatFwMr13a
import Derived.Test.YtooiookccchmeaaGreatFwB4
set_option linter.unusedVariables false
set_option linter.unusedSimpArgs false
open List renaming replicate → fc
open Option renaming bind_some → aq
namespace Go.Fw.L19
open Go Go.Fw
set_option maxRecDepth 100000
variable {N:Nat} {cl:az} {R:Type} {K:KE R}
def Ko (k0:V3→Option R) (k1:aE→V3→Int→Option R) (x0:aE) (x1:V3):Option R:=
ad ((x0.length:Int)==(0:Int)) (k0 ([]:List UInt8)) (ad ((x0.length:Int)==(1:Int)) (if 0≤(0:Int)∧(0:Int) < (x0.length:Int) then
k0 (x0.getD (0:Int).toNat [])
else none) (ad (decide ((x1.length:Int) > (0:Int))) (let v1110:Int:=(IntKind.i64.wrap ((x0.length:Int) - (1:Int)))
if v1110=0 then none else
ad (decide ((x1.length:Int)≥(IntKind.i64.wrap (Int.tdiv (9223372036854775807:Int) v1110)))) (none /- operation makeInterface -/) (k1 x0 x1 (IntKind.i64.wrap ((0:Int)+(IntKind.i64.wrap ((x1.length:Int) * (IntKind.i64.wrap ((x0.length:Int) - (1:Int))))))))) (k1 x0 x1 (0:Int))))
theorem arH (x0 x1):exec cl N Bw [(0,.v U1 x0),(1,.v .str x1)] K=(Ko (fun y0=>K .ret (I9 y0)) (fun y0 y1 y2=>exec cl N Bv (oY y0 y1 y2) K) x0 x1):=by
 delta Bw
 generalize Bv=q
 revert q
 refine id ?_
 intro q
 kernel_rfl
def Kk (k0:aE→V3→Int→aE→Int→Int→Option R) (x0:aE) (x1:V3) (x2:Int):Option R:=
k0 x0 x1 x2 x0 (x0.length:Int) (0:Int)
theorem arD (x0 x1 x2):exec cl N QM (oY x0 x1 x2) K=(Kk (fun y0 y1 y2 y3 y4 y5=>K .normal (lU y0 y1 y2 y3 y4 y5)) x0 x1 x2):=by
 kernel_rfl
theorem UH (x0 x1 x2 x3 x4 x5):aj [0,1,5,39,40,41] (lU x0 x1 x2 x3 x4 x5)=(lU x0 x1 x2 x3 x4 x5):=by kernel_rfl
def Kl (k0:aE→V3→Int→aE→Int→Int→Option R) (k1:aE→V3→Int→aE→Int→Int→Option R) (x0:aE) (x1:V3) (x2:Int) (x3:aE) (x4 x5:Int):Option R:=
ad (decide (x5 < x4)) (if 0≤x5∧x5 < (x3.length:Int) then
ad (decide (((x3.getD x5.toNat []).length:Int) > (IntKind.i64.wrap ((9223372036854775807:Int) - x2)))) (none /- operation makeInterface -/) (k0 x0 x1 (IntKind.i64.wrap (x2+((x3.getD x5.toNat []).length:Int))) x3 x4 (IntKind.i64.wrap (x5+(1:Int))))
else none) (k1 x0 x1 x2 x3 x4 x5)
theorem arE (x0 x1 x2 x3 x4 x5):exec cl N HH (lU x0 x1 x2 x3 x4 x5) K=(Kl (fun y0 y1 y2 y3 y4 y5=>K .normal (lU y0 y1 y2 y3 y4 y5)) (fun y0 y1 y2 y3 y4 y5=>K (.exit 1) (lU y0 y1 y2 y3 y4 y5)) x0 x1 x2 x3 x4 x5):=by
 kernel_rfl
def KZ {R:Type} (k0:aE→V3→Int→aE→Int→Int→Option R):Nat→aE→V3→Int→aE→Int→Int→Option R
 | 0,_,_,_,_,_,_=>none
 | m+1,x0,x1,x2,x3,x4,x5=>(Kl (KZ k0 m) k0 x0 x1 x2 x3 x4 x5)
theorem afo:∀ (m) (x0 x1 x2 x3 x4 x5),iter [0,1,5,39,40,41] (fun env K=>exec cl N HH env K) K m (lU x0 x1 x2 x3 x4 x5)=KZ (fun y0 y1 y2 y3 y4 y5=>K (.exit 1) (lU y0 y1 y2 y3 y4 y5)) m x0 x1 x2 x3 x4 x5:=by
 intro m
 induction m with
 | zero=>intros; rfl
 | succ m ih=>
   intro x0 x1 x2 x3 x4 x5
   simp only [b6,arE,b8,b7,b9,UH,ih]
   rfl
theorem adD (x0 x1 x2 x3 x4 x5):aj [0,1,5] (lU x0 x1 x2 x3 x4 x5)=(oY x0 x1 x2):=by kernel_rfl
def Km (N:Nat) (k0:aE→V3→Int→Option R) (x0:aE) (x1:V3) (x2:Int) (x3:aE) (x4 x5:Int):Option R:=
KZ (fun y0 y1 y2 y3 y4 y5=>k0 y0 y1 y2) N x0 x1 x2 x3 x4 x5
theorem arF (x0 x1 x2 x3 x4 x5):exec cl N HI (lU x0 x1 x2 x3 x4 x5) K=(Km N (fun y0 y1 y2=>K (.exit 1) (oY y0 y1 y2)) x0 x1 x2 x3 x4 x5):=by
 simp only [HI,aT,b5,UH,afo,adD]
 rfl
theorem adE (x0 x1 x2):aj [0,1,5] (oY x0 x1 x2)=(oY x0 x1 x2):=by kernel_rfl
def Kn (x0:aE) (x1:V3) (x2:Int):Option R:=
none /- lent:sb -/
theorem arG (x0 x1 x2):exec cl N HJ (oY x0 x1 x2) K=(Kn x0 x1 x2):=by
 delta HJ
 generalize QN=q
 revert q
 refine id ?_
 intro q
 kernel_rfl
def Kp (N:Nat) (k0:V3→Option R) (x0:aE) (x1:V3):Option R:=
(Ko k0 (Kk (Km N Kn)) x0 x1)
theorem arI (x0 x1):exec cl N Bw [(0,.v U1 x0),(1,.v .str x1)] K=(Kp N (fun y0=>K .ret (I9 y0)) x0 x1):=by
 simp only [bQ,bS,bR,bT,arH,Bv,QP,arD,QO,aT,cj,arF,cd,cg,cc,adE,arG]
 rfl
theorem aj3 (y0):ag d99 .ret (I9 y0)=some [.v .str y0]:=by kernel_rfl
def CN (N:Nat) (x0:aE) (x1:V3) (k:V3→Option R):Option R:=
(Kp N k x0 x1)
theorem Zb (x0 x1) (k:List E→Option R):exec cl N HG [(0,.v U1 x0),(1,.v .str x1)] (fun e env=>(ag d99 e env).bind k)=CN N x0 x1 (fun r0=>k [.v .str r0]):=by
 simp only [HG,arI,aj3,aq]
 rfl
def BS (S:aE→V3→Option V7):aO:=dP 99 U1 .str S fun b=> [.v .str b]
def fB (N:Nat) (x0:aE) (x1:V3):Option V7:=CN N x0 x1 (fun (r0:V3)=>some (r0))
def xF (k0:aE→Option R) (x0:aE):Option R:=
k0 x0
theorem aqu (x0):exec cl N PY [(0,.v U1 x0)] K=(xF (fun y0=>K .normal [(0,.v U1 y0)]) x0):=by
 kernel_rfl
def xG (k0:aE→aE→Int→Int→Option R) (x0:aE):Option R:=
k0 x0 x0 (x0.length:Int) (0:Int)
theorem aqv (x0):exec cl N PZ [(0,.v U1 x0)] K=(xG (fun y0 y1 y2 y3=>K .normal (lV y0 y1 y2 y3)) x0):=by
 kernel_rfl
theorem Ux (x0 x1 x2 x3):aj [0,7,8,9] (lV x0 x1 x2 x3)=(lV x0 x1 x2 x3):=by kernel_rfl
def xH (c7:V0→bY→Option (Bool)) (dp:Int→Option (Bool)) (k0:V3→Int→Option R) (k1:aE→aE→Int→Int→Option R) (k2:aE→aE→Int→Int→Option R) (x0 x1:aE) (x2 x3:Int):Option R:=
ad (decide (x3 < x2)) (if 0≤x3∧x3 < (x1.length:Int) then
ad ((x1.getD x3.toNat [])==([]:List UInt8)) (k0 ([]:List UInt8) (7:Int)) ((c7 ((x1.getD x3.toNat []).map fun b=>(b.toNat:Int)) (fun (x1125:V4)=>((dp x1125.1).bind fun b1126=>some [.v .bool b1126]).bind (jQ .bool))).bind fun r1127=>
ad r1127 (k0 ([]:List UInt8) (2:Int)) (k1 x0 x1 x2 (IntKind.i64.wrap (x3+(1:Int)))))
else none) (k2 x0 x1 x2 x3)
theorem aqw (c7) (dp) (h96:(rK c7).holds cl) (h97:(rL dp).holds cl) (x0 x1 x2 x3):exec cl N G3 (lV x0 x1 x2 x3) K=(xH c7 dp (fun y0 y1=>K .ret (Ja y0 y1)) (fun y0 y1 y2 y3=>K .normal (lV y0 y1 y2 y3)) (fun y0 y1 y2 y3=>K (.exit 0) (lV y0 y1 y2 y3)) x0 x1 x2 x3):=by
 rw [←aN h96]
 rw [←aN h97]
 kernel_rfl
def qo {R:Type} (c7:V0→bY→Option (Bool)) (dp:Int→Option (Bool)) (k0:V3→Int→Option R) (k1:aE→aE→Int→Int→Option R):Nat→aE→aE→Int→Int→Option R
 | 0,_,_,_,_=>none
 | m+1,x0,x1,x2,x3=>(xH c7 dp k0 (qo c7 dp k0 k1 m) k1 x0 x1 x2 x3)
theorem afe (c7) (dp) (h96:(rK c7).holds cl) (h97:(rL dp).holds cl):∀ (m) (x0 x1 x2 x3),iter [0,7,8,9] (fun env K=>exec cl N G3 env K) K m (lV x0 x1 x2 x3)=qo c7 dp (fun y0 y1=>K .ret (Ja y0 y1)) (fun y0 y1 y2 y3=>K (.exit 0) (lV y0 y1 y2 y3)) m x0 x1 x2 x3:=by
 intro m
 induction m with
 | zero=>intros; rfl
 | succ m ih=>
   intro x0 x1 x2 x3
   simp only [b6,aqw c7 dp h96 h97,b8,b7,b9,Ux,ih]
   rfl
theorem ac5 (x0 x1):aj [0,2,3] (Ja x0 x1)=(rW x0 x1):=by kernel_rfl
theorem ac6 (x0 x1 x2 x3):aj [0,2,3] (lV x0 x1 x2 x3)=(uR x0):=by kernel_rfl
def xI (N:Nat) (c7:V0→bY→Option (Bool)) (dp:Int→Option (Bool)) (k0:V3→Int→Option R) (k1:aE→Option R) (x0 x1:aE) (x2 x3:Int):Option R:=
qo c7 dp k0 (fun y0 y1 y2 y3=>k1 y0) N x0 x1 x2 x3
theorem aqx (c7) (dp) (h96:(rK c7).holds cl) (h97:(rL dp).holds cl) (x0 x1 x2 x3):exec cl N G4 (lV x0 x1 x2 x3) K=(xI N c7 dp (fun y0 y1=>K .ret (rW y0 y1)) (fun y0=>K (.exit 0) (uR y0)) x0 x1 x2 x3):=by
 simp only [G4,aT,b5,Ux,afe c7 dp h96 h97,ac5,ac6]
 rfl
theorem ac7 (x0 x1):aj [0,2,3] (rW x0 x1)=(rW x0 x1):=by kernel_rfl
theorem ac8 (x0):aj [0,2,3] (uR x0)=(uR x0):=by kernel_rfl
def xJ (fB:aE→V3→Option V7) (k0:V3→Int→Option R) (k1:V3→Int→Option R) (x0:aE):Option R:=
(fB x0 ([32]:List UInt8)).bind fun r1129=>
ad (decide ((r1129.length:Int) > (120:Int))) (k0 ([]:List UInt8) (3:Int)) (k1 r1129 (0:Int))
theorem aqy (fB) (h99:(BS fB).holds cl) (x0):exec cl N P2 (uR x0) K=(xJ fB (fun y0 y1=>K .ret (Iu y0 y1)) (fun y0 y1=>K .ret [(2,.v .str y0),(3,.v U2 y1)]) x0):=by
 rw [←aN h99]
 kernel_rfl
def xK (N:Nat) (c7:V0→bY→Option (Bool)) (dp:Int→Option (Bool)) (fB:aE→V3→Option V7) (k0:V3→Int→Option R) (k1:V3→Int→Option R) (k2:V3→Int→Option R) (x0:aE):Option R:=
(xF (xG (xI N c7 dp k0 ((xJ fB k1 k2)))) x0)
theorem aqz (c7) (dp) (fB) (h96:(rK c7).holds cl) (h97:(rL dp).holds cl) (h99:(BS fB).holds cl) (x0):exec cl N G5 [(0,.v U1 x0)] K=(xK N c7 dp fB (fun y0 y1=>K .ret (rW y0 y1)) (fun y0 y1=>K .ret (Iu y0 y1)) (fun y0 y1=>K .ret [(2,.v .str y0),(3,.v U2 y1)]) x0):=by
 simp only [G5,bQ,bS,bR,bT,aqu,P3,P1,aqv,P0,aT,cj,aqx c7 dp h96 h97,cd,cg,cc,ac7,ac8,aqy fB h99]
 rfl
theorem ajA (y0 y1):ag d71 .ret (rW y0 y1)=some [.v .str y0,.v U2 y1]:=by kernel_rfl
theorem ajB (y0 y1):ag d71 .ret (Iu y0 y1)=some [.v .str y0,.v U2 y1]:=by kernel_rfl
theorem ajC (y0 y1):ag d71 .ret [(2,.v .str y0),(3,.v U2 y1)]=some [.v .str y0,.v U2 y1]:=by kernel_rfl
def sM (N:Nat) (c7:V0→bY→Option (Bool)) (dp:Int→Option (Bool)) (fB:aE→V3→Option V7) (x0:aE) (k:V3→Int→Option R):Option R:=
(xK N c7 dp fB k k k x0)
theorem YX (c7) (dp) (fB) (h96:(rK c7).holds cl) (h97:(rL dp).holds cl) (h99:(BS fB).holds cl) (x0) (k:List E→Option R):exec cl N GZ [(0,.v U1 x0)] (fun e env=>(ag d71 e env).bind k)=sM N c7 dp fB x0 (fun r0 r1=>k [.v .str r0,.v U2 r1]):=by
 simp only [GZ,aqz c7 dp fB h96 h97 h99,ajA,ajB,ajC,aq]
 rfl
def Ii (S:aE→Option zy):aO:=cE 71 U1 S fun b=> [.v .str b.1,.v U2 b.2]
def ig (N:Nat) (x0:aE):Option zy:=sM N (c7 N) (dp N) (fB N) x0 (fun (r0:V3) (r1:Int)=>some (r0,r1))
def JS (eo:ae→Option (Int)) (ig:aE→Option zy) (ep:V3→Option V7) (k0:Int→Option R) (k1:Int→Option R) (x0:ae) (x1:V3):Option R:=
(eo x0).bind fun r1134=>
ad (r1134 != (0:Int)) (k0 r1134) (ad (x1==([]:List UInt8)) (k0 (7:Int)) (ad (decide ((x1.length:Int) > (16:Int))) (k0 (3:Int)) ((ig [x1]).bind fun r1138=>
ad (r1138.2 != (0:Int)) (k1 (2:Int)) ((ep x1).bind fun r1140=>
ad (r1140 != x1) (k1 (2:Int)) (k1 (0:Int))))))
theorem ao2 (eo) (ig) (ep) (h70:(uO eo).holds cl) (h71:(Ii ig).holds cl) (h72:(uP ep).holds cl) (x0 x1):exec cl N OR (gy x0 x1) K=(JS eo ig ep (fun y0=>K .ret (BX y0)) (fun y0=>K .ret [(4,.v U2 y0)]) x0 x1):=by
 rw [←aN h70]
 rw [←aN h71]
 rw [←aN h72]
 kernel_rfl
theorem aiW (y0):ag d40 .ret (BX y0)=some [.v U2 y0]:=by kernel_rfl
theorem aiX (y0):ag d40 .ret [(4,.v U2 y0)]=some [.v U2 y0]:=by kernel_rfl
def CB (eo:ae→Option (Int)) (ig:aE→Option zy) (ep:V3→Option V7) (x0:ae) (x1:V3) (k:Int→Option R):Option R:=
(JS eo ig ep k k x0 x1)
theorem YF (eo) (ig) (ep) (h70:(uO eo).holds cl) (h71:(Ii ig).holds cl) (h72:(uP ep).holds cl) (x0 x1) (k:List E→Option R):exec cl N Ga (gy x0 x1) (fun e env=>(ag d40 e env).bind k)=CB eo ig ep x0 x1 (fun r0=>k [.v U2 r0]):=by
 simp only [Ga,ao2 eo ig ep h70 h71 h72,aiW,aiX,aq]
 rfl
def rF (S:ae→V3→Option (Int)):aO:=dP 40 ar .str S fun b=> [.v U2 b]
def dz (N:Nat) (x0:ae) (x1:V3):Option (Int):=CB (eo N) (ig N) (ep N) x0 x1 (fun (r0:Int)=>some (r0))
def J8 (k0:aA→Option R) (k1:aA→Option R) (x0:aI) (x1:Int):Option R:=
ad (decide (x1 < (0:Int))) (k0 []) (if 0≤x1∧x1 < (x0.1.2.1.length:Int) then
k1 ((x0.1.2.1.getD x1.toNat ([],([],((0:Int),((0:Int),()))))).2.1)
else none)
theorem aqG (x0 x1):exec cl N P8 [(0,.at bF x0),(1,.v U2 x1)] K=(J8 (fun y0=>K .ret (Rb y0)) (fun y0=>K .ret [(4,.v bp y0)]) x0 x1):=by
 kernel_rfl
theorem ajE (y0):ag d73 .ret (Rb y0)=some [.v bp y0]:=by kernel_rfl
theorem ajF (y0):ag d73 .ret [(4,.v bp y0)]=some [.v bp y0]:=by kernel_rfl
def sO (x0:aI) (x1:Int) (k:aA→Option R):Option R:=
(J8 k k x0 x1)
theorem Ks (x0 x1) (k:List E→Option R):exec cl N G9 [(0,.at bF x0),(1,.v U2 x1)] (fun e env=>(ag d73 e env).bind k)=sO x0 x1 (fun r0=>k [.v bp r0]):=by
 simp only [G9,aqG,ajE,ajF,aq]
 rfl
def jl (S:aI→Int→Option kV):aO:={A:=aI×Int×Unit,B:=aA,f:=73,enc:=fun a=> [.at bF a.1,.v U2 a.2.1],dec:=(bc (oN bF) (bc (bL U2) ck)),S:=fun a=>S a.1 a.2.1,av:=fun b=> [.v bp b],ok:=(BT (T:=bF) (gn (T:=U2) (fun es b h=>jn h)))}
def bB (N:Nat) (x0:aI) (x1:Int):Option kV:=sO x0 x1 (fun (r0:aA)=>some (r0))
def Kc (k0:Bool→Option R) (x0:aR):Option R:=
ad (x0.1==(1:Int)) (k0 true) (k0 (x0.1==(2:Int)))
theorem aqW (x0):exec cl N Qk [(0,.v aC x0)] K=(Kc (fun y0=>K .ret [(2,.v .bool y0)]) x0):=by
 kernel_rfl
theorem ajN (y0):ag d87 .ret [(2,.v .bool y0)]=some [.v .bool y0]:=by kernel_rfl
def sR (x0:aR) (k:Bool→Option R):Option R:=
(Kc k x0)
theorem Kv (x0) (k:List E→Option R):exec cl N Hj [(0,.v aC x0)] (fun e env=>(ag d87 e env).bind k)=sR x0 (fun r0=>k [.v .bool r0]):=by
 simp only [Hj,aqW,ajN,aq]
 rfl
def mK (S:aR→Option (Bool)):aO:=cE 87 aC S fun b=> [.v .bool b]
def cU (N:Nat) (x0:aR):Option (Bool):=sR x0 (fun (r0:Bool)=>some (r0))
def J1 (k0:Int→aA→aA→ae→Option R) (x0:ae) (x1:Int) (x2 x3:aA):Option R:=
k0 x1 x2 x3 x0
theorem apX (x0 x1 x2 x3):exec cl N Pv (Iv x0 x1 x2 x3) K=(J1 (fun y0 y1 y2 y3=>K .normal [(1,.v U2 y0),(2,.v bp y1),(3,.v bp y2),(4,.loc ar .no y3)]) x0 x1 x2 x3):=by
 kernel_rfl
def J2 (k0:Bool→Option R) (k1:Int→aA→aA→ae→Option R) (x0:Int) (x1 x2:aA) (x3:ae):Option R:=
ad (decide (x0 < (0:Int))) (k0 false) (ad (decide (x0≥(x3.2.1.length:Int))) (k0 false) (k1 x0 x1 x2 x3))
theorem apY (x0 x1 x2 x3):exec cl N Pw [(1,.v U2 x0),(2,.v bp x1),(3,.v bp x2),(4,.loc ar .no x3)] K=(J2 (fun y0=>K .ret (Iw y0)) (fun y0 y1 y2 y3=>K .normal (Rc y0 y1 y2 y3)) x0 x1 x2 x3):=by
 kernel_rfl
def J3 (cU:aR→Option (Bool)) (k0:Int→aA→ae→Bool→Option R) (x0:Int) (x1 x2:aA) (x3:ae):Option R:=
ad (decide ((x2.length:Int) > (0:Int))) (if 0≤(0:Int)∧(0:Int) < (x2.length:Int) then
(cU (x2.getD (0:Int).toNat ((0:Int),((0:Int),([],()))))).bind fun r1213=>
k0 x0 x1 x3 r1213
else none) (k0 x0 x1 x3 false)
theorem apZ (cU) (h87:(mK cU).holds cl) (x0 x1 x2 x3):exec cl N Px (Rc x0 x1 x2 x3) K=(J3 cU (fun y0 y1 y2 y3=>K .normal [(1,.v U2 y0),(2,.v bp y1),(4,.loc ar .no y2),(9,.v .bool y3)]) x0 x1 x2 x3):=by
 rw [←aN h87]
 kernel_rfl
def J4 (cU:aR→Option (Bool)) (k0:Bool→Option R) (x0:Int) (x1:aA) (x2:ae) (x3:Bool):Option R:=
if 0≤x0∧x0 < (x2.2.1.length:Int) then
ad ((x2.2.1.getD x0.toNat ([],([],((0:Int),((0:Int),()))))).2.2.2.1==(0:Int)) (k0 true) (ad ((x2.2.1.getD x0.toNat ([],([],((0:Int),((0:Int),()))))).2.2.2.1==(1:Int)) (k0 x3) (ad ((x2.2.1.getD x0.toNat ([],([],((0:Int),((0:Int),()))))).2.2.2.1==(2:Int)) (ad x3 (k0 ((x1.length:Int)==(0:Int))) (k0 false)) (ad ((x2.2.1.getD x0.toNat ([],([],((0:Int),((0:Int),()))))).2.2.2.1==(3:Int)) (ad x3 (ad (decide ((x1.length:Int) > (0:Int))) (let v1220:Int:=(IntKind.i64.wrap ((x1.length:Int) - (1:Int)))
if 0≤v1220∧v1220 < (x1.length:Int) then
(cU (x1.getD v1220.toNat ((0:Int),((0:Int),([],()))))).bind fun r1221=>
k0 r1221
else none) (k0 false)) (k0 false)) (ad ((x2.2.1.getD x0.toNat ([],([],((0:Int),((0:Int),()))))).2.2.2.1==(4:Int)) (k0 (!x3)) (k0 false)))))
else none
theorem ap0 (cU) (h87:(mK cU).holds cl) (x0 x1 x2 x3):exec cl N Py [(1,.v U2 x0),(2,.v bp x1),(4,.loc ar .no x2),(9,.v .bool x3)] K=(J4 cU (fun y0=>K .ret [(8,.v .bool y0)]) x0 x1 x2 x3):=by
 rw [←aN h87]
 kernel_rfl
def J5 (cU:aR→Option (Bool)) (k0:Bool→Option R) (k1:Bool→Option R) (x0:ae) (x1:Int) (x2 x3:aA):Option R:=
(J1 (J2 k0 (J3 cU (J4 cU k1))) x0 x1 x2 x3)
theorem ap1 (cU) (h87:(mK cU).holds cl) (x0 x1 x2 x3):exec cl N GM (Iv x0 x1 x2 x3) K=(J5 cU (fun y0=>K .ret (Iw y0)) (fun y0=>K .ret [(8,.v .bool y0)]) x0 x1 x2 x3):=by
 simp only [GM,bQ,bS,bR,bT,apX,PA,apY,Pz,apZ cU h87,ap0 cU h87]
 rfl
theorem ajp (y0):ag d60 .ret (Iw y0)=some [.v .bool y0]:=by kernel_rfl
theorem ajq (y0):ag d60 .ret [(8,.v .bool y0)]=some [.v .bool y0]:=by kernel_rfl
def sF (cU:aR→Option (Bool)) (x0:ae) (x1:Int) (x2 x3:aA) (k:Bool→Option R):Option R:=
(J5 cU k k x0 x1 x2 x3)
theorem Kr (cU) (h87:(mK cU).holds cl) (x0 x1 x2 x3) (k:List E→Option R):exec cl N GL (Iv x0 x1 x2 x3) (fun e env=>(ag d60 e env).bind k)=sF cU x0 x1 x2 x3 (fun r0=>k [.v .bool r0]):=by
 simp only [GL,ap1 cU h87,ajp,ajq,aq]
 rfl
def jk (S:ae→Int→aA→aA→Option (Bool)):aO:=Xs 60 ar U2 bp bp S fun b=> [.v .bool b]
def bA (N:Nat) (x0:ae) (x1:Int) (x2:aA) (x3:aA):Option (Bool):=sF (cU N) x0 x1 x2 x3 (fun (r0:Bool)=>some (r0))
def Ka (k0:Bool→Option R) (x0 x1:V3):Option R:=
ad (decide ((x0.length:Int)≥(x1.length:Int))) (if 0≤(0:Int)∧(0:Int)≤(x1.length:Int)∧(x1.length:Int)≤(x0.length:Int) then
k0 (((x0.drop (0:Int).toNat).take ((x1.length:Int).toNat - (0:Int).toNat))==x1)
else none) (k0 false)
theorem aqU (x0 x1):exec cl N Qi (BY x0 x1) K=(Ka (fun y0=>K .ret [(4,.v .bool y0)]) x0 x1):=by
 kernel_rfl
theorem ajK (y0):ag d83 .ret [(4,.v .bool y0)]=some [.v .bool y0]:=by kernel_rfl
def sQ (x0 x1:V3) (k:Bool→Option R):Option R:=
(Ka k x0 x1)
theorem Ku (x0 x1) (k:List E→Option R):exec cl N Hh (BY x0 x1) (fun e env=>(ag d83 e env).bind k)=sQ x0 x1 (fun r0=>k [.v .bool r0]):=by
 simp only [Hh,aqU,ajK,aq]
 rfl
def oK (S:V3→V3→Option (Bool)):aO:=dP 83 .str .str S fun b=> [.v .bool b]
def eS (N:Nat) (x0:V3) (x1:V3):Option (Bool):=sQ x0 x1 (fun (r0:Bool)=>some (r0))
def JX (eS:V3→V3→Option (Bool)) (k0:Bool→Option R) (x0 x1:V3):Option R:=
(eS x0 x1).bind fun r1232=>
k0 r1232
theorem apN (eS) (h83:(oK eS).holds cl) (x0 x1):exec cl N Pn (BY x0 x1) K=(JX eS (fun y0=>K .ret [(4,.v .bool y0)]) x0 x1):=by
 rw [←aN h83]
 kernel_rfl
theorem ajf (y0):ag d54 .ret [(4,.v .bool y0)]=some [.v .bool y0]:=by kernel_rfl
def sD (eS:V3→V3→Option (Bool)) (x0 x1:V3) (k:Bool→Option R):Option R:=
(JX eS k x0 x1)
theorem Kq (eS) (h83:(oK eS).holds cl) (x0 x1) (k:List E→Option R):exec cl N GF (BY x0 x1) (fun e env=>(ag d54 e env).bind k)=sD eS x0 x1 (fun r0=>k [.v .bool r0]):=by
 simp only [GF,apN eS h83,ajf,aq]
 rfl
def gm (S:V3→V3→Option (Bool)):aO:=dP 54 .str .str S fun b=> [.v .bool b]
def aS (N:Nat) (x0:V3) (x1:V3):Option (Bool):=sD (eS N) x0 x1 (fun (r0:Bool)=>some (r0))
def xV (k0:aI→a6→bZ→Option R) (x0:aI) (x1:a6):Option R:=
k0 x0 x1 []
theorem aqL (x0 x1):exec cl N Bh [(0,.at bF x0),(1,.v aY x1)] K=(xV (fun y0 y1 y2=>exec cl N Bg [(0,.at bF y0),(3,.loc aY .no y1),(5,.own true 73 aY .no y2)] K) x0 x1):=by
 delta Bh
 generalize Bg=q
 revert q
 refine id ?_
 intro q
 kernel_rfl
def xR (k0:aI→a6→bZ→cA→Int→Int→Option R) (x0:aI) (x1:a6) (x2:bZ):Option R:=
k0 x0 x1 x2 x0.1.2.1 (x0.1.2.1.length:Int) (0:Int)
theorem aqH (x0 x1 x2):exec cl N P9 [(0,.at bF x0),(3,.loc aY .no x1),(5,.own true 73 aY .no x2)] K=(xR (fun y0 y1 y2 y3 y4 y5=>K .normal (la y0 y1 y2 y3 y4 y5)) x0 x1 x2):=by
 kernel_rfl
theorem Uz (x0 x1 x2 x3 x4 x5):aj [0,3,5,12,13,14] (la x0 x1 x2 x3 x4 x5)=(la x0 x1 x2 x3 x4 x5):=by kernel_rfl
def xS (aS:V3→V3→Option (Bool)) (bA:ae→Int→aA→aA→Option (Bool)) (bB:aI→Int→Option kV) (k0:aI→a6→bZ→cA→Int→Int→Option R) (k1:aI→a6→bZ→cA→Int→Int→Option R) (x0:aI) (x1:a6) (x2:bZ) (x3:cA) (x4 x5:Int):Option R:=
ad (decide (x5 < x4)) (if 0≤x5∧x5 < (x3.length:Int) then
if 0≤x1.2.2.1∧x1.2.2.1≤(x0.2.1.length:Int)∧(x0.2.1.length:Int)≤(x0.2.1.length:Int) then
(aS ((x0.2.1.drop x1.2.2.1.toNat).take ((x0.2.1.length:Int).toNat - x1.2.2.1.toNat)) ((x3.getD x5.toNat ([],([],((0:Int),((0:Int),()))))).1)).bind fun r1247=>
ad r1247 (ad (decide (x1.2.1 < (0:Int))) (let v1250:a6:=(x1.2.1,x5,(IntKind.i64.wrap (x1.2.2.1+(((x3.getD x5.toNat ([],([],((0:Int),((0:Int),()))))).1).length:Int))),())
if x2.length+[v1250].length≤5864062014805 then
k0 x0 x1 (x2++[v1250]) x3 x4 (IntKind.i64.wrap (x5+(1:Int)))
else none) ((bB x0 x1.1).bind fun r1252=>
(bA x0.1 x1.2.1 r1252 ((x3.getD x5.toNat ([],([],((0:Int),((0:Int),()))))).2.1)).bind fun r1253=>
ad r1253 (let v1255:a6:=(x1.2.1,x5,(IntKind.i64.wrap (x1.2.2.1+(((x3.getD x5.toNat ([],([],((0:Int),((0:Int),()))))).1).length:Int))),())
if x2.length+[v1255].length≤5864062014805 then
k0 x0 x1 (x2++[v1255]) x3 x4 (IntKind.i64.wrap (x5+(1:Int)))
else none) (k0 x0 x1 x2 x3 x4 (IntKind.i64.wrap (x5+(1:Int)))))) (k0 x0 x1 x2 x3 x4 (IntKind.i64.wrap (x5+(1:Int))))
else none
else none) (k1 x0 x1 x2 x3 x4 x5)
theorem aqI (aS) (bA) (bB) (h54:(gm aS).holds cl) (h60:(jk bA).holds cl) (h73:(jl bB).holds cl) (x0 x1 x2 x3 x4 x5):exec cl N Hb (la x0 x1 x2 x3 x4 x5) K=(xS aS bA bB (fun y0 y1 y2 y3 y4 y5=>K .normal (la y0 y1 y2 y3 y4 y5)) (fun y0 y1 y2 y3 y4 y5=>K (.exit 0) (la y0 y1 y2 y3 y4 y5)) x0 x1 x2 x3 x4 x5):=by
 rw [←aN h54]
 rw [←aN h60]
 rw [←aN h73]
 kernel_rfl
def qp {R:Type} (aS:V3→V3→Option (Bool)) (bA:ae→Int→aA→aA→Option (Bool)) (bB:aI→Int→Option kV) (k0:aI→a6→bZ→cA→Int→Int→Option R):Nat→aI→a6→bZ→cA→Int→Int→Option R
 | 0,_,_,_,_,_,_=>none
 | m+1,x0,x1,x2,x3,x4,x5=>(xS aS bA bB (qp aS bA bB k0 m) k0 x0 x1 x2 x3 x4 x5)
theorem afg (aS) (bA) (bB) (h54:(gm aS).holds cl) (h60:(jk bA).holds cl) (h73:(jl bB).holds cl):∀ (m) (x0 x1 x2 x3 x4 x5),iter [0,3,5,12,13,14] (fun env K=>exec cl N Hb env K) K m (la x0 x1 x2 x3 x4 x5)=qp aS bA bB (fun y0 y1 y2 y3 y4 y5=>K (.exit 0) (la y0 y1 y2 y3 y4 y5)) m x0 x1 x2 x3 x4 x5:=by
 intro m
 induction m with
 | zero=>intros; rfl
 | succ m ih=>
   intro x0 x1 x2 x3 x4 x5
   simp only [b6,aqI aS bA bB h54 h60 h73,b8,b7,b9,Uz,ih]
   rfl
theorem adb (x0 x1 x2 x3 x4 x5):aj [5] (la x0 x1 x2 x3 x4 x5)=(uS x2):=by kernel_rfl
def xT (N:Nat) (aS:V3→V3→Option (Bool)) (bA:ae→Int→aA→aA→Option (Bool)) (bB:aI→Int→Option kV) (k0:bZ→Option R) (x0:aI) (x1:a6) (x2:bZ) (x3:cA) (x4 x5:Int):Option R:=
qp aS bA bB (fun y0 y1 y2 y3 y4 y5=>k0 y2) N x0 x1 x2 x3 x4 x5
theorem aqJ (aS) (bA) (bB) (h54:(gm aS).holds cl) (h60:(jk bA).holds cl) (h73:(jl bB).holds cl) (x0 x1 x2 x3 x4 x5):exec cl N Hc (la x0 x1 x2 x3 x4 x5) K=(xT N aS bA bB (fun y0=>K (.exit 0) (uS y0)) x0 x1 x2 x3 x4 x5):=by
 simp only [Hc,aT,b5,Uz,afg aS bA bB h54 h60 h73,adb]
 rfl
theorem ade (x0):aj [5] (uS x0)=(uS x0):=by kernel_rfl
def xU (k0:bZ→Option R) (x0:bZ):Option R:=
k0 x0
theorem aqK (x0):exec cl N Qc (uS x0) K=(xU (fun y0=>K .ret (Iy y0)) x0):=by
 kernel_rfl
def xW (N:Nat) (aS:V3→V3→Option (Bool)) (bA:ae→Int→aA→aA→Option (Bool)) (bB:aI→Int→Option kV) (k0:bZ→Option R) (x0:aI) (x1:a6):Option R:=
(xV (xR (xT N aS bA bB ((xU k0)))) x0 x1)
theorem aqM (aS) (bA) (bB) (h54:(gm aS).holds cl) (h60:(jk bA).holds cl) (h73:(jl bB).holds cl) (x0 x1):exec cl N Bh [(0,.at bF x0),(1,.v aY x1)] K=(xW N aS bA bB (fun y0=>K .ret (Iy y0)) x0 x1):=by
 simp only [bQ,bS,bR,bT,aqL,Bg,Qb,aqH,Qa,aT,cj,aqJ aS bA bB h54 h60 h73,cd,cg,cc,ade,aqK]
 rfl
theorem ajG (y0):ag d74 .ret (Iy y0)=some [.own true 73 aY .no y0]:=by kernel_rfl
def nQ (N:Nat) (aS:V3→V3→Option (Bool)) (bA:ae→Int→aA→aA→Option (Bool)) (bB:aI→Int→Option kV) (x0:aI) (x1:a6) (k:bZ→Option R):Option R:=
(xW N aS bA bB k x0 x1)
theorem Kt (aS) (bA) (bB) (h54:(gm aS).holds cl) (h60:(jk bA).holds cl) (h73:(jl bB).holds cl) (x0 x1) (k:List E→Option R):exec cl N Ha [(0,.at bF x0),(1,.v aY x1)] (fun e env=>(ag d74 e env).bind k)=nQ N aS bA bB x0 x1 (fun r0=>k [.own true 73 aY .no r0]):=by
 simp only [Ha,aqM aS bA bB h54 h60 h73,ajG,aq]
 rfl
def kB (S:aI→a6→Option nj):aO:={A:=aI×a6×Unit,B:=bZ,f:=74,enc:=fun a=> [.at bF a.1,.v aY a.2.1],dec:=(bc (oN bF) (bc (bL aY) ck)),S:=fun a=>S a.1 a.2.1,av:=fun b=> [.own true 73 aY .no b],ok:=(BT (T:=bF) (gn (T:=aY) (fun es b h=>jn h)))}
def cx (N:Nat) (x0:aI) (x1:a6):Option nj:=nQ N (aS N) (bA N) (bB N) x0 x1 (fun (r0:bZ)=>some (r0))
def xf (bA:ae→Int→aA→aA→Option (Bool)) (bB:aI→Int→Option kV) (k0:aI→Int→Option R) (k1:aI→a6→Int→Option R) (x0:aI) (x1:a6):Option R:=
ad (x1.2.2.1==(x0.2.1.length:Int)) (ad (decide (x1.2.1≥(0:Int))) ((bB x0 x1.1).bind fun r1268=>
(bA x0.1 x1.2.1 r1268 []).bind fun r1269=>
ad r1269 (k0 x0 (1:Int)) (k0 x0 (0:Int))) (k0 x0 (0:Int))) (let v1270:Int×Bool:=iw (fun a b:a6=>((a.1==b.1)&&((a.2.1==b.2.1)&&((a.2.2.1==b.2.2.1)&&true)))) (0:Int) x0.2.2.1 x1
ad v1270.2 (k0 x0 v1270.1) (k1 x0 x1 (0:Int)))
theorem ao7 (bA) (bB) (h60:(jk bA).holds cl) (h73:(jl bB).holds cl) (x0 x1):exec cl N AS (rM x0 x1) K=(xf bA bB (fun y0 y1=>K .ret (Iz y0 y1)) (fun y0 y1 y2=>exec cl N AR (oO y0 y1 y2) K) x0 x1):=by
 rw [←aN h60]
 rw [←aN h73]
 delta AS
 generalize AR=q
 revert q
 refine id ?_
 intro q
 kernel_rfl
def xb (cx:aI→a6→Option nj) (k0:aI→a6→Int→bZ→Int→Int→Option R) (x0:aI) (x1:a6) (x2:Int):Option R:=
(cx x0 x1).bind fun r1271=>
k0 x0 x1 x2 r1271 (r1271.length:Int) (0:Int)
theorem ao3 (cx) (h74:(kB cx).holds cl) (x0 x1 x2):exec cl N OS (oO x0 x1 x2) K=(xb cx (fun y0 y1 y2 y3 y4 y5=>K .normal (lb y0 y1 y2 y3 y4 y5)) x0 x1 x2):=by
 rw [←aN h74]
 kernel_rfl
theorem Um (x0 x1 x2 x3 x4 x5):aj [0,3,7,47,48,49] (lb x0 x1 x2 x3 x4 x5)=(lb x0 x1 x2 x3 x4 x5):=by kernel_rfl
def xc (aW:aI→a6→Option gK) (k0:aI→a6→Int→bZ→Int→Int→Option R) (k1:aI→a6→Int→bZ→Int→Int→Option R) (x0:aI) (x1:a6) (x2:Int) (x3:bZ) (x4 x5:Int):Option R:=
ad (decide (x5 < x4)) (if 0≤x5∧x5 < (x3.length:Int) then
if x5.toNat < x3.length then
(aW x0 (x3.getD x5.toNat ((0:Int),((0:Int),((0:Int),()))))).bind fun r1274=>
let v1275:Int:=(IntKind.i64.wrap (x2+r1274.2))
k0 r1274.1 x1 (if (201:Int) < v1275 then (201:Int) else v1275) x3 x4 (IntKind.i64.wrap (x5+(1:Int)))
else none
else none) (k1 x0 x1 x2 x3 x4 x5)
theorem ao4 (aW) (h41:(gx aW).holds cl) (x0 x1 x2 x3 x4 x5):exec cl N Gc (lb x0 x1 x2 x3 x4 x5) K=(xc aW (fun y0 y1 y2 y3 y4 y5=>K .normal (lb y0 y1 y2 y3 y4 y5)) (fun y0 y1 y2 y3 y4 y5=>K (.exit 0) (lb y0 y1 y2 y3 y4 y5)) x0 x1 x2 x3 x4 x5):=by
 rw [←aN h41]
 kernel_rfl
def tg {R:Type} (aW:aI→a6→Option gK) (k0:aI→a6→Int→bZ→Int→Int→Option R):Nat→aI→a6→Int→bZ→Int→Int→Option R
 | 0,_,_,_,_,_,_=>none
 | m+1,x0,x1,x2,x3,x4,x5=>(xc aW (tg aW k0 m) k0 x0 x1 x2 x3 x4 x5)
theorem ae2 (aW) (h41:(gx aW).holds cl):∀ (m) (x0 x1 x2 x3 x4 x5),iter [0,3,7,47,48,49] (fun env K=>exec cl N Gc env K) K m (lb x0 x1 x2 x3 x4 x5)=tg aW (fun y0 y1 y2 y3 y4 y5=>K (.exit 0) (lb y0 y1 y2 y3 y4 y5)) m x0 x1 x2 x3 x4 x5:=by
 intro m
 induction m with
 | zero=>intros; rfl
 | succ m ih=>
   intro x0 x1 x2 x3 x4 x5
   simp only [b6,ao4 aW h41,b8,b7,b9,Um,ih]
   rfl
theorem aco (x0 x1 x2 x3 x4 x5):aj [0,3,7] (lb x0 x1 x2 x3 x4 x5)=(oO x0 x1 x2):=by kernel_rfl
def xd (N:Nat) (aW:aI→a6→Option gK) (k0:aI→a6→Int→Option R) (x0:aI) (x1:a6) (x2:Int) (x3:bZ) (x4 x5:Int):Option R:=
tg aW (fun y0 y1 y2 y3 y4 y5=>k0 y0 y1 y2) N x0 x1 x2 x3 x4 x5
theorem ao5 (aW) (h41:(gx aW).holds cl) (x0 x1 x2 x3 x4 x5):exec cl N Ge (lb x0 x1 x2 x3 x4 x5) K=(xd N aW (fun y0 y1 y2=>K (.exit 0) (oO y0 y1 y2)) x0 x1 x2 x3 x4 x5):=by
 simp only [Ge,aT,b5,Um,ae2 aW h41,aco]
 rfl
theorem acp (x0 x1 x2):aj [0,3,7] (oO x0 x1 x2)=(oO x0 x1 x2):=by kernel_rfl
def xe (k0:aI→Int→Option R) (x0:aI) (x1:a6) (x2:Int):Option R:=
k0 (x0.1,(x0.2.1,((iW (fun a b:a6=>((a.1==b.1)&&((a.2.1==b.2.1)&&((a.2.2.1==b.2.2.1)&&true)))) x0.2.2.1 x1 x2),x0.2.2.2))) x2
theorem ao6 (x0 x1 x2):exec cl N OV (oO x0 x1 x2) K=(xe (fun y0 y1=>K .ret (IA y0 y1)) x0 x1 x2):=by
 kernel_rfl
def xg (N:Nat) (aW:aI→a6→Option gK) (bA:ae→Int→aA→aA→Option (Bool)) (bB:aI→Int→Option kV) (cx:aI→a6→Option nj) (k0:aI→Int→Option R) (k1:aI→Int→Option R) (x0:aI) (x1:a6):Option R:=
(xf bA bB k0 (xb cx (xd N aW ((xe k1)))) x0 x1)
theorem ao8 (aW) (bA) (bB) (cx) (h41:(gx aW).holds cl) (h60:(jk bA).holds cl) (h73:(jl bB).holds cl) (h74:(kB cx).holds cl) (x0 x1):exec cl N AS (rM x0 x1) K=(xg N aW bA bB cx (fun y0 y1=>K .ret (Iz y0 y1)) (fun y0 y1=>K .ret (IA y0 y1)) x0 x1):=by
 simp only [bQ,bS,bR,bT,ao7 bA bB h60 h73,AR,OU,ao3 cx h74,OT,aT,cj,ao5 aW h41,cd,cg,cc,acp,ao6]
 rfl
theorem aiY (y0 y1):ag d41 .ret (Iz y0 y1)=some [.loc bF (.pair .no (.pair .no (.pair .mp .no))) y0,.v U2 y1]:=by kernel_rfl
theorem aiZ (y0 y1):ag d41 .ret (IA y0 y1)=some [.loc bF (.pair .no (.pair .no (.pair .mp .no))) y0,.v U2 y1]:=by kernel_rfl
def ss (N:Nat) (aW:aI→a6→Option gK) (bA:ae→Int→aA→aA→Option (Bool)) (bB:aI→Int→Option kV) (cx:aI→a6→Option nj) (x0:aI) (x1:a6) (k:aI→Int→Option R):Option R:=
(xg N aW bA bB cx k k x0 x1)
theorem YG (aW) (bA) (bB) (cx) (h41:(gx aW).holds cl) (h60:(jk bA).holds cl) (h73:(jl bB).holds cl) (h74:(kB cx).holds cl) (x0 x1) (k:List E→Option R):exec cl N Gb (rM x0 x1) (fun e env=>(ag d41 e env).bind k)=ss N aW bA bB cx x0 x1 (fun r0 r1=>k [.loc bF (.pair .no (.pair .no (.pair .mp .no))) r0,.v U2 r1]):=by
 simp only [Gb,ao8 aW bA bB cx h41 h60 h73 h74,aiY,aiZ,aq]
 rfl
def ng (N:Nat):Nat→aI→a6→Option gK
 | 0,_,_=>none
 | m+1,x0,x1=>ss N (ng N m) (bA N) (bB N) (cx N) x0 x1 (fun (r0:aI) (r1:Int)=>some (r0,r1))
def aW (N:Nat) (x0:aI) (x1:a6):Option gK:=ng N 250 x0 x1
def nG (k0:aI→V8→Option R) (k1:aI→a6→V8→Option R) (x0:aI) (x1:a6):Option R:=
ad (x1.2.2.1==(x0.2.1.length:Int)) (k0 x0 [[]]) (k1 x0 x1 [])
theorem apc (x0 x1):exec cl N AU (rM x0 x1) K=(nG (fun y0 y1=>K .ret (IB y0 y1)) (fun y0 y1 y2=>exec cl N AT (Re y0 y1 y2) K) x0 x1):=by
 delta AU
 generalize AT=q
 revert q
 refine id ?_
 intro q
 kernel_rfl
def nD (cx:aI→a6→Option nj) (k0:aI→V8→bZ→Int→Int→Option R) (x0:aI) (x1:a6) (x2:V8):Option R:=
(cx x0 x1).bind fun r1293=>
k0 x0 x2 r1293 (r1293.length:Int) (0:Int)
theorem ao9 (cx) (h74:(kB cx).holds cl) (x0 x1 x2):exec cl N OW (Re x0 x1 x2) K=(nD cx (fun y0 y1 y2 y3 y4=>K .normal (fJ y0 y1 y2 y3 y4)) x0 x1 x2):=by
 rw [←aN h74]
 kernel_rfl
theorem KK (x0 x1 x2 x3 x4):aj [0,5,21,22,23] (fJ x0 x1 x2 x3 x4)=(fJ x0 x1 x2 x3 x4):=by kernel_rfl
def nM (k0:aI→V8→bZ→Int→Int→Option R) (k1:aI→V8→bZ→Int→Int→Option R) (x0:aI) (x1:V8) (x2:bZ) (x3 x4:Int):Option R:=
ad (decide (x4 < x3)) (k0 x0 x1 x2 x3 x4) (k1 x0 x1 x2 x3 x4)
theorem api (x0 x1 x2 x3 x4):exec cl N uD (fJ x0 x1 x2 x3 x4) K=(nM (fun y0 y1 y2 y3 y4=>exec cl N AW (fJ y0 y1 y2 y3 y4) K) (fun y0 y1 y2 y3 y4=>K (.exit 0) (fJ y0 y1 y2 y3 y4)) x0 x1 x2 x3 x4):=by
 delta uD
 generalize AW=q
 revert q
 refine id ?_
 intro q
 kernel_rfl
def nJ (aW:aI→a6→Option gK) (bP:aI→a6→Option jW) (k0:aI→V8→a6→bZ→Int→Int→Option R) (k1:aI→V8→a6→bZ→Int→Int→V8→Int→Int→Option R) (x0:aI) (x1:V8) (x2:bZ) (x3 x4:Int):Option R:=
if 0≤x4∧x4 < (x2.length:Int) then
if x4.toNat < x2.length then
let v1295:a6:=(x2.getD x4.toNat ((0:Int),((0:Int),((0:Int),()))))
(aW x0 v1295).bind fun r1296=>
ad (r1296.2==(0:Int)) (k0 r1296.1 x1 v1295 x2 x3 x4) ((bP r1296.1 v1295).bind fun r1298=>
k1 r1298.1 x1 v1295 x2 x3 x4 r1298.2 (r1298.2.length:Int) (0:Int))
else none
else none
theorem apf (aW) (bP) (h41:(gx aW).holds cl) (h42:(kA bP).holds cl) (x0 x1 x2 x3 x4):exec cl N Gi (fJ x0 x1 x2 x3 x4) K=(nJ aW bP (fun y0 y1 y2 y3 y4 y5=>K (.exit 1) (Rf y0 y1 y2 y3 y4 y5)) (fun y0 y1 y2 y3 y4 y5 y6 y7 y8=>exec cl N AV (ld y0 y1 y2 y3 y4 y5 y6 y7 y8) K) x0 x1 x2 x3 x4):=by
 rw [←aN h41]
 rw [←aN h42]
 delta Gi
 generalize AV=q
 revert q
 refine id ?_
 intro q
 kernel_rfl
theorem Un (x0 x1 x2 x3 x4 x5 x6 x7 x8):aj [0,5,7,21,22,23,33,34,35] (ld x0 x1 x2 x3 x4 x5 x6 x7 x8)=(ld x0 x1 x2 x3 x4 x5 x6 x7 x8):=by kernel_rfl
def nE (k0:aI→V8→a6→bZ→Int→Int→V8→Int→Int→Option R) (k1:aI→V8→a6→bZ→Int→Int→V8→Int→Int→Option R) (x0:aI) (x1:V8) (x2:a6) (x3:bZ) (x4 x5:Int) (x6:V8) (x7 x8:Int):Option R:=
ad (decide (x8 < x7)) (if 0≤x8∧x8 < (x6.length:Int) then
if x8.toNat < x6.length then
if [x2.2.1].length+(x6.getD x8.toNat []).length≤17592186044416 then
if x1.length+[([x2.2.1]++(x6.getD x8.toNat []))].length≤5864062014805 then
k0 x0 (x1++[([x2.2.1]++(x6.getD x8.toNat []))]) x2 x3 x4 x5 x6 x7 (IntKind.i64.wrap (x8+(1:Int)))
else none
else none
else none
else none) (k1 x0 x1 x2 x3 x4 x5 x6 x7 x8)
theorem apa (x0 x1 x2 x3 x4 x5 x6 x7 x8):exec cl N Gg (ld x0 x1 x2 x3 x4 x5 x6 x7 x8) K=(nE (fun y0 y1 y2 y3 y4 y5 y6 y7 y8=>K .normal (ld y0 y1 y2 y3 y4 y5 y6 y7 y8)) (fun y0 y1 y2 y3 y4 y5 y6 y7 y8=>K (.exit 2) (ld y0 y1 y2 y3 y4 y5 y6 y7 y8)) x0 x1 x2 x3 x4 x5 x6 x7 x8):=by
 kernel_rfl
def th {R:Type} (k0:aI→V8→a6→bZ→Int→Int→V8→Int→Int→Option R):Nat→aI→V8→a6→bZ→Int→Int→V8→Int→Int→Option R
 | 0,_,_,_,_,_,_,_,_,_=>none
 | m+1,x0,x1,x2,x3,x4,x5,x6,x7,x8=>(nE (th k0 m) k0 x0 x1 x2 x3 x4 x5 x6 x7 x8)
theorem ae3:∀ (m) (x0 x1 x2 x3 x4 x5 x6 x7 x8),iter [0,5,7,21,22,23,33,34,35] (fun env K=>exec cl N Gg env K) K m (ld x0 x1 x2 x3 x4 x5 x6 x7 x8)=th (fun y0 y1 y2 y3 y4 y5 y6 y7 y8=>K (.exit 2) (ld y0 y1 y2 y3 y4 y5 y6 y7 y8)) m x0 x1 x2 x3 x4 x5 x6 x7 x8:=by
 intro m
 induction m with
 | zero=>intros; rfl
 | succ m ih=>
   intro x0 x1 x2 x3 x4 x5 x6 x7 x8
   simp only [b6,apa,b8,b7,b9,Un,ih]
   rfl
theorem acq (x0 x1 x2 x3 x4 x5 x6 x7 x8):aj [0,5,21,22,23] (ld x0 x1 x2 x3 x4 x5 x6 x7 x8)=(fJ x0 x1 x3 x4 x5):=by kernel_rfl
def nI (N:Nat) (k0:aI→V8→bZ→Int→Int→Option R) (x0:aI) (x1:V8) (x2:a6) (x3:bZ) (x4 x5:Int) (x6:V8) (x7 x8:Int):Option R:=
th (fun y0 y1 y2 y3 y4 y5 y6 y7 y8=>k0 y0 y1 y3 y4 y5) N x0 x1 x2 x3 x4 x5 x6 x7 x8
theorem ape (x0 x1 x2 x3 x4 x5 x6 x7 x8):exec cl N Gh (ld x0 x1 x2 x3 x4 x5 x6 x7 x8) K=(nI N (fun y0 y1 y2 y3 y4=>K (.exit 2) (fJ y0 y1 y2 y3 y4)) x0 x1 x2 x3 x4 x5 x6 x7 x8):=by
 simp only [Gh,aT,b5,Un,ae3,acq]
 rfl
theorem acr (x0 x1 x2 x3 x4 x5):aj [0,5,21,22,23] (Rf x0 x1 x2 x3 x4 x5)=(fJ x0 x1 x3 x4 x5):=by kernel_rfl
def nK (N:Nat) (aW:aI→a6→Option gK) (bP:aI→a6→Option jW) (k0:aI→V8→bZ→Int→Int→Option R) (x0:aI) (x1:V8) (x2:bZ) (x3 x4:Int):Option R:=
(nJ aW bP (fun y0 y1 y2 y3 y4 y5=>(k0 y0 y1 y3 y4 y5)) (nI N k0) x0 x1 x2 x3 x4)
theorem apg (aW) (bP) (h41:(gx aW).holds cl) (h42:(kA bP).holds cl) (x0 x1 x2 x3 x4):exec cl N Gj (fJ x0 x1 x2 x3 x4) K=(nK N aW bP (fun y0 y1 y2 y3 y4=>K .normal (fJ y0 y1 y2 y3 y4)) x0 x1 x2 x3 x4):=by
 simp only [Gj,aT,cj,bQ,bS,bR,bT,apf aW bP h41 h42,AV,ape,cd,cg,cc,KK,acr]
 rfl
def nL (k0:aI→V8→bZ→Int→Int→Option R) (x0:aI) (x1:V8) (x2:bZ) (x3 x4:Int):Option R:=
k0 x0 x1 x2 x3 (IntKind.i64.wrap (x4+(1:Int)))
theorem aph (x0 x1 x2 x3 x4):exec cl N O0 (fJ x0 x1 x2 x3 x4) K=(nL (fun y0 y1 y2 y3 y4=>K .normal (fJ y0 y1 y2 y3 y4)) x0 x1 x2 x3 x4):=by
 kernel_rfl
def nN (N:Nat) (aW:aI→a6→Option gK) (bP:aI→a6→Option jW) (k0:aI→V8→bZ→Int→Int→Option R) (k1:aI→V8→bZ→Int→Int→Option R) (x0:aI) (x1:V8) (x2:bZ) (x3 x4:Int):Option R:=
(nM (nK N aW bP (nL k0)) k1 x0 x1 x2 x3 x4)
theorem apj (aW) (bP) (h41:(gx aW).holds cl) (h42:(kA bP).holds cl) (x0 x1 x2 x3 x4):exec cl N uD (fJ x0 x1 x2 x3 x4) K=(nN N aW bP (fun y0 y1 y2 y3 y4=>K .normal (fJ y0 y1 y2 y3 y4)) (fun y0 y1 y2 y3 y4=>K (.exit 0) (fJ y0 y1 y2 y3 y4)) x0 x1 x2 x3 x4):=by
 simp only [bQ,bS,bR,bT,api,AW,apg aW bP h41 h42,aph]
 rfl
def nR {R:Type} (N:Nat) (aW:aI→a6→Option gK) (bP:aI→a6→Option jW) (k0:aI→V8→bZ→Int→Int→Option R):Nat→aI→V8→bZ→Int→Int→Option R
 | 0,_,_,_,_,_=>none
 | m+1,x0,x1,x2,x3,x4=>(nN N aW bP (nR N aW bP k0 m) k0 x0 x1 x2 x3 x4)
theorem ae4 (aW) (bP) (h41:(gx aW).holds cl) (h42:(kA bP).holds cl):∀ (m) (x0 x1 x2 x3 x4),iter [0,5,21,22,23] (fun env K=>exec cl N uD env K) K m (fJ x0 x1 x2 x3 x4)=nR N aW bP (fun y0 y1 y2 y3 y4=>K (.exit 0) (fJ y0 y1 y2 y3 y4)) m x0 x1 x2 x3 x4:=by
 intro m
 induction m with
 | zero=>intros; rfl
 | succ m ih=>
   intro x0 x1 x2 x3 x4
   simp only [b6,apj aW bP h41 h42,b8,b7,b9,KK,ih]
   rfl
theorem acs (x0 x1 x2 x3 x4):aj [0,5] (fJ x0 x1 x2 x3 x4)=(uT x0 x1):=by kernel_rfl
def nO (N:Nat) (aW:aI→a6→Option gK) (bP:aI→a6→Option jW) (k0:aI→V8→Option R) (x0:aI) (x1:V8) (x2:bZ) (x3 x4:Int):Option R:=
nR N aW bP (fun y0 y1 y2 y3 y4=>k0 y0 y1) N x0 x1 x2 x3 x4
theorem apk (aW) (bP) (h41:(gx aW).holds cl) (h42:(kA bP).holds cl) (x0 x1 x2 x3 x4):exec cl N Gk (fJ x0 x1 x2 x3 x4) K=(nO N aW bP (fun y0 y1=>K (.exit 0) (uT y0 y1)) x0 x1 x2 x3 x4):=by
 simp only [Gk,aT,b5,KK,ae4 aW bP h41 h42,acs]
 rfl
theorem acu (x0 x1):aj [0,5] (uT x0 x1)=(uT x0 x1):=by kernel_rfl
def nF (k0:aI→V8→Option R) (x0:aI) (x1:V8):Option R:=
k0 x0 x1
theorem apb (x0 x1):exec cl N OZ (uT x0 x1) K=(nF (fun y0 y1=>K .ret (IC y0 y1)) x0 x1):=by
 kernel_rfl
def nH (N:Nat) (aW:aI→a6→Option gK) (bP:aI→a6→Option jW) (cx:aI→a6→Option nj) (k0:aI→V8→Option R) (k1:aI→V8→Option R) (x0:aI) (x1:a6):Option R:=
(nG k0 (nD cx (nO N aW bP ((nF k1)))) x0 x1)
theorem apd (aW) (bP) (cx) (h41:(gx aW).holds cl) (h42:(kA bP).holds cl) (h74:(kB cx).holds cl) (x0 x1):exec cl N AU (rM x0 x1) K=(nH N aW bP cx (fun y0 y1=>K .ret (IB y0 y1)) (fun y0 y1=>K .ret (IC y0 y1)) x0 x1):=by
 simp only [bQ,bS,bR,bT,apc,AT,OY,ao9 cx h74,OX,aT,cj,apk aW bP h41 h42,cd,cg,cc,acu,apb]
 rfl
theorem ai0 (y0 y1):ag d42 .ret (IB y0 y1)=some [.loc bF (.pair .no (.pair .no (.pair .mp .no))) y0,.own true 27 U5 .no y1]:=by kernel_rfl
theorem ai1 (y0 y1):ag d42 .ret (IC y0 y1)=some [.loc bF (.pair .no (.pair .no (.pair .mp .no))) y0,.own true 27 U5 .no y1]:=by kernel_rfl
def mQ (N:Nat) (aW:aI→a6→Option gK) (bP:aI→a6→Option jW) (cx:aI→a6→Option nj) (x0:aI) (x1:a6) (k:aI→V8→Option R):Option R:=
(nH N aW bP cx k k x0 x1)
theorem YH (aW) (bP) (cx) (h41:(gx aW).holds cl) (h42:(kA bP).holds cl) (h74:(kB cx).holds cl) (x0 x1) (k:List E→Option R):exec cl N Gf (rM x0 x1) (fun e env=>(ag d42 e env).bind k)=mQ N aW bP cx x0 x1 (fun r0 r1=>k [.loc bF (.pair .no (.pair .no (.pair .mp .no))) r0,.own true 27 U5 .no r1]):=by
 simp only [Gf,apd aW bP cx h41 h42 h74,ai0,ai1,aq]
 rfl
def nh (N:Nat):Nat→aI→a6→Option jW
 | 0,_,_=>none
 | m+1,x0,x1=>mQ N (aW N) (nh N m) (cx N) x0 x1 (fun (r0:aI) (r1:V8)=>some (r0,r1))
def bP (N:Nat) (x0:aI) (x1:a6):Option jW:=nh N 250 x0 x1
def w8 (k0:V0→ae→Int→Option R) (x0:ae) (x1:V0):Option R:=
k0 x1 x0 (0:Int)
theorem ao0 (x0 x1):exec cl N AQ (kD x0 x1) K=(w8 (fun y0 y1 y2=>exec cl N AP [(1,.v U5 y0),(2,.loc ar .no y1),(5,.v U2 y2)] K) x0 x1):=by
 delta AQ
 generalize AP=q
 revert q
 refine id ?_
 intro q
 kernel_rfl
def w0 (k0:ae→Int→V0→Int→Int→Option R) (x0:V0) (x1:ae) (x2:Int):Option R:=
k0 x1 x2 x0 (x0.length:Int) (0:Int)
theorem aoW (x0 x1 x2):exec cl N ON [(1,.v U5 x0),(2,.loc ar .no x1),(5,.v U2 x2)] K=(w0 (fun y0 y1 y2 y3 y4=>K .normal (lf y0 y1 y2 y3 y4)) x0 x1 x2):=by
 kernel_rfl
theorem Ul (x0 x1 x2 x3 x4):aj [2,5,8,9,10] (lf x0 x1 x2 x3 x4)=(lf x0 x1 x2 x3 x4):=by kernel_rfl
def w3 (k0:ae→Int→V0→Int→Int→Option R) (k1:ae→Int→V0→Int→Int→Option R) (x0:ae) (x1:Int) (x2:V0) (x3 x4:Int):Option R:=
ad (decide (x4 < x3)) (if 0≤x4∧x4 < (x2.length:Int) then
if 0≤(x2.getD x4.toNat (0:Int))∧(x2.getD x4.toNat (0:Int)) < (x0.2.1.length:Int) then
k0 x0 (IntKind.i64.wrap (x1+(x0.2.1.getD (x2.getD x4.toNat (0:Int)).toNat ([],([],((0:Int),((0:Int),()))))).2.2.1)) x2 x3 (IntKind.i64.wrap (x4+(1:Int)))
else none
else none) (k1 x0 x1 x2 x3 x4)
theorem aoX (x0 x1 x2 x3 x4):exec cl N F8 (lf x0 x1 x2 x3 x4) K=(w3 (fun y0 y1 y2 y3 y4=>K .normal (lf y0 y1 y2 y3 y4)) (fun y0 y1 y2 y3 y4=>K (.exit 0) (lf y0 y1 y2 y3 y4)) x0 x1 x2 x3 x4):=by
 kernel_rfl
def tf {R:Type} (k0:ae→Int→V0→Int→Int→Option R):Nat→ae→Int→V0→Int→Int→Option R
 | 0,_,_,_,_,_=>none
 | m+1,x0,x1,x2,x3,x4=>(w3 (tf k0 m) k0 x0 x1 x2 x3 x4)
theorem ae1:∀ (m) (x0 x1 x2 x3 x4),iter [2,5,8,9,10] (fun env K=>exec cl N F8 env K) K m (lf x0 x1 x2 x3 x4)=tf (fun y0 y1 y2 y3 y4=>K (.exit 0) (lf y0 y1 y2 y3 y4)) m x0 x1 x2 x3 x4:=by
 intro m
 induction m with
 | zero=>intros; rfl
 | succ m ih=>
   intro x0 x1 x2 x3 x4
   simp only [b6,aoX,b8,b7,b9,Ul,ih]
   rfl
theorem acm (x0 x1 x2 x3 x4):aj [5] (lf x0 x1 x2 x3 x4)=[(5,.v U2 x1)]:=by kernel_rfl
def w4 (N:Nat) (k0:Int→Option R) (x0:ae) (x1:Int) (x2:V0) (x3 x4:Int):Option R:=
tf (fun y0 y1 y2 y3 y4=>k0 y1) N x0 x1 x2 x3 x4
theorem aoY (x0 x1 x2 x3 x4):exec cl N F9 (lf x0 x1 x2 x3 x4) K=(w4 N (fun y0=>K (.exit 0) [(5,.v U2 y0)]) x0 x1 x2 x3 x4):=by
 simp only [F9,aT,b5,Ul,ae1,acm]
 rfl
theorem acn (x0):aj [5] [(5,.v U2 x0)]=[(5,.v U2 x0)]:=by kernel_rfl
def w7 (k0:Int→Option R) (x0:Int):Option R:=
k0 x0
theorem aoZ (x0):exec cl N OQ [(5,.v U2 x0)] K=(w7 (fun y0=>K .ret [(4,.v U2 y0)]) x0):=by
 kernel_rfl
def w9 (N:Nat) (k0:Int→Option R) (x0:ae) (x1:V0):Option R:=
(w8 (w0 (w4 N ((w7 k0)))) x0 x1)
theorem ao1 (x0 x1):exec cl N AQ (kD x0 x1) K=(w9 N (fun y0=>K .ret [(4,.v U2 y0)]) x0 x1):=by
 simp only [bQ,bS,bR,bT,ao0,AP,OP,aoW,OO,aT,cj,aoY,cd,cg,cc,acn,aoZ]
 rfl
theorem aiV (y0):ag d38 .ret [(4,.v U2 y0)]=some [.v U2 y0]:=by kernel_rfl
def sr (N:Nat) (x0:ae) (x1:V0) (k:Int→Option R):Option R:=
(w9 N k x0 x1)
theorem YE (x0 x1) (k:List E→Option R):exec cl N F7 (kD x0 x1) (fun e env=>(ag d38 e env).bind k)=sr N x0 x1 (fun r0=>k [.v U2 r0]):=by
 simp only [F7,ao1,aiV,aq]
 rfl
def uN (S:ae→V0→Option (Int)):aO:=dP 38 ar U5 S fun b=> [.v U2 b]
def ef (N:Nat) (x0:ae) (x1:V0):Option (Int):=sr N x0 x1 (fun (r0:Int)=>some (r0))
def J9 (k0:Bool→Option R) (x0:Int):Option R:=
k0 (x0 != x0)
theorem aqN (x0):exec cl N Qd [(0,.v U2 x0)] K=(J9 (fun y0=>K .ret [(2,.v .bool y0)]) x0):=by
 kernel_rfl
theorem ajH (y0):ag d77 .ret [(2,.v .bool y0)]=some [.v .bool y0]:=by kernel_rfl
def CI (x0:Int) (k:Bool→Option R):Option R:=
(J9 k x0)
theorem YZ (x0) (k:List E→Option R):exec cl N Hd [(0,.v U2 x0)] (fun e env=>(ag d77 e env).bind k)=CI x0 (fun r0=>k [.v .bool r0]):=by
 simp only [Hd,aqN,ajH,aq]
 rfl
def Ij (S:Int→Option (Bool)):aO:=cE 77 U2 S fun b=> [.v .bool b]
def gI (N:Nat) (x0:Int):Option (Bool):=CI x0 (fun (r0:Bool)=>some (r0))
def JU (gI:Int→Option (Bool)) (k0:Int→Option R) (k1:Int→Option R) (k2:Int→Option R) (x0 x1:Int):Option R:=
(gI x0).bind fun r1316=>
(gI x1).bind fun r1317=>
ad r1316 (ad r1317 (k0 (0:Int)) (k0 (-1:Int))) (ad r1317 (k1 (1:Int)) (ad (decide (x0 < x1)) (k1 (-1:Int)) (ad (decide (x0 > x1)) (k2 (1:Int)) (k2 (0:Int)))))
theorem apt (gI) (h77:(Ij gI).holds cl) (x0 x1):exec cl N O6 (B0 x0 x1) K=(JU gI (fun y0=>K .ret [(0,.dead),(1,.dead),(4,.v U2 y0),(6,.dead)]) (fun y0=>K .ret (lJ y0)) (fun y0=>K .ret [(4,.v U2 y0)]) x0 x1):=by
 rw [←aN h77]
 kernel_rfl
theorem ai5 (y0):ag d46 .ret [(0,.dead),(1,.dead),(4,.v U2 y0),(6,.dead)]=some [.v U2 y0]:=by kernel_rfl
theorem ai6 (y0):ag d46 .ret (lJ y0)=some [.v U2 y0]:=by kernel_rfl
theorem ai7 (y0):ag d46 .ret [(4,.v U2 y0)]=some [.v U2 y0]:=by kernel_rfl
def CD (gI:Int→Option (Bool)) (x0 x1:Int) (k:Int→Option R):Option R:=
(JU gI k k k x0 x1)
theorem YK (gI) (h77:(Ij gI).holds cl) (x0 x1) (k:List E→Option R):exec cl N Gs (B0 x0 x1) (fun e env=>(ag d46 e env).bind k)=CD gI x0 x1 (fun r0=>k [.v U2 r0]):=by
 simp only [Gs,apt gI h77,ai5,ai6,ai7,aq]
 rfl
def nx (S:Int→Int→Option (Int)):aO:=dP 46 U2 U2 S fun b=> [.v U2 b]
def ct (N:Nat) (x0:Int) (x1:Int):Option (Int):=CD (gI N) x0 x1 (fun (r0:Int)=>some (r0))
def xi (k0:V0→V0→Option R) (x0 x1:V0):Option R:=
k0 x0 x1
theorem apu (x0 x1):exec cl N O7 (kE x0 x1) K=(xi (fun y0 y1=>K .normal (kE y0 y1)) x0 x1):=by
 kernel_rfl
def xj (k0:V0→V0→V0→Int→Int→Option R) (x0 x1:V0):Option R:=
k0 x0 x1 x0 (x0.length:Int) (0:Int)
theorem apv (x0 x1):exec cl N O8 (kE x0 x1) K=(xj (fun y0 y1 y2 y3 y4=>K .normal (lg y0 y1 y2 y3 y4)) x0 x1):=by
 kernel_rfl
theorem Up (x0 x1 x2 x3 x4):aj [0,1,9,10,11] (lg x0 x1 x2 x3 x4)=(lg x0 x1 x2 x3 x4):=by kernel_rfl
def xk (ct:Int→Int→Option (Int)) (k0:Int→Option R) (k1:V0→V0→V0→Int→Int→Option R) (k2:V0→V0→V0→Int→Int→Option R) (x0 x1 x2:V0) (x3 x4:Int):Option R:=
ad (decide (x4 < x3)) (if 0≤x4∧x4 < (x2.length:Int) then
ad (decide (x4≥(x1.length:Int))) (k0 (1:Int)) (if 0≤x4∧x4 < (x1.length:Int) then
(ct (x2.getD x4.toNat (0:Int)) (x1.getD x4.toNat (0:Int))).bind fun r1329=>
ad (r1329 != (0:Int)) (k0 r1329) (k1 x0 x1 x2 x3 (IntKind.i64.wrap (x4+(1:Int))))
else none)
else none) (k2 x0 x1 x2 x3 x4)
theorem apw (ct) (h46:(nx ct).holds cl) (x0 x1 x2 x3 x4):exec cl N Gu (lg x0 x1 x2 x3 x4) K=(xk ct (fun y0=>K .ret (ID y0)) (fun y0 y1 y2 y3 y4=>K .normal (lg y0 y1 y2 y3 y4)) (fun y0 y1 y2 y3 y4=>K (.exit 0) (lg y0 y1 y2 y3 y4)) x0 x1 x2 x3 x4):=by
 rw [←aN h46]
 kernel_rfl
def ti {R:Type} (ct:Int→Int→Option (Int)) (k0:Int→Option R) (k1:V0→V0→V0→Int→Int→Option R):Nat→V0→V0→V0→Int→Int→Option R
 | 0,_,_,_,_,_=>none
 | m+1,x0,x1,x2,x3,x4=>(xk ct k0 (ti ct k0 k1 m) k1 x0 x1 x2 x3 x4)
theorem ae6 (ct) (h46:(nx ct).holds cl):∀ (m) (x0 x1 x2 x3 x4),iter [0,1,9,10,11] (fun env K=>exec cl N Gu env K) K m (lg x0 x1 x2 x3 x4)=ti ct (fun y0=>K .ret (ID y0)) (fun y0 y1 y2 y3 y4=>K (.exit 0) (lg y0 y1 y2 y3 y4)) m x0 x1 x2 x3 x4:=by
 intro m
 induction m with
 | zero=>intros; rfl
 | succ m ih=>
   intro x0 x1 x2 x3 x4
   simp only [b6,apw ct h46,b8,b7,b9,Up,ih]
   rfl
theorem acz (x0):aj [0,1,4] (ID x0)=(lJ x0):=by kernel_rfl
theorem acA (x0 x1 x2 x3 x4):aj [0,1,4] (lg x0 x1 x2 x3 x4)=(mL x0 x1):=by kernel_rfl
def xl (N:Nat) (ct:Int→Int→Option (Int)) (k0:Int→Option R) (k1:V0→V0→Option R) (x0 x1 x2:V0) (x3 x4:Int):Option R:=
ti ct k0 (fun y0 y1 y2 y3 y4=>k1 y0 y1) N x0 x1 x2 x3 x4
theorem apx (ct) (h46:(nx ct).holds cl) (x0 x1 x2 x3 x4):exec cl N Gv (lg x0 x1 x2 x3 x4) K=(xl N ct (fun y0=>K .ret (lJ y0)) (fun y0 y1=>K (.exit 0) (mL y0 y1)) x0 x1 x2 x3 x4):=by
 simp only [Gv,aT,b5,Up,ae6 ct h46,acz,acA]
 rfl
theorem acB (x0):aj [0,1,4] (lJ x0)=(lJ x0):=by kernel_rfl
theorem acC (x0 x1):aj [0,1,4] (mL x0 x1)=(mL x0 x1):=by kernel_rfl
def xm (k0:Int→Option R) (x0 x1:V0):Option R:=
ad (decide ((x0.length:Int) < (x1.length:Int))) (k0 (-1:Int)) (k0 (0:Int))
theorem apy (x0 x1):exec cl N Pb (mL x0 x1) K=(xm (fun y0=>K .ret [(4,.v U2 y0)]) x0 x1):=by
 kernel_rfl
def xn (N:Nat) (ct:Int→Int→Option (Int)) (k0:Int→Option R) (k1:Int→Option R) (x0 x1:V0):Option R:=
(xi (xj (xl N ct k0 ((xm k1)))) x0 x1)
theorem apz (ct) (h46:(nx ct).holds cl) (x0 x1):exec cl N Gw (kE x0 x1) K=(xn N ct (fun y0=>K .ret (lJ y0)) (fun y0=>K .ret [(4,.v U2 y0)]) x0 x1):=by
 simp only [Gw,bQ,bS,bR,bT,apu,Pc,Pa,apv,O9,aT,cj,apx ct h46,cd,cg,cc,acB,acC,apy]
 rfl
theorem ai8 (y0):ag d47 .ret (lJ y0)=some [.v U2 y0]:=by kernel_rfl
theorem ai9 (y0):ag d47 .ret [(4,.v U2 y0)]=some [.v U2 y0]:=by kernel_rfl
def sB (N:Nat) (ct:Int→Int→Option (Int)) (x0 x1:V0) (k:Int→Option R):Option R:=
(xn N ct k k x0 x1)
theorem YL (ct) (h46:(nx ct).holds cl) (x0 x1) (k:List E→Option R):exec cl N Gt (kE x0 x1) (fun e env=>(ag d47 e env).bind k)=sB N ct x0 x1 (fun r0=>k [.v U2 r0]):=by
 simp only [Gt,apz ct h46,ai8,ai9,aq]
 rfl
def Ie (S:V0→V0→Option (Int)):aO:=dP 47 U5 U5 S fun b=> [.v U2 b]
def ib (N:Nat) (x0:V0) (x1:V0):Option (Int):=sB N (ct N) x0 x1 (fun (r0:Int)=>some (r0))
def sz (k0:V0→Int→Option R) (x0:V0):Option R:=
k0 x0 (0:Int)
theorem apr (x0):exec cl N AY [(0,.v U5 x0)] K=(sz (fun y0 y1=>exec cl N AX [(0,.v U5 y0),(3,.v U2 y1)] K) x0):=by
 delta AY
 generalize AX=q
 revert q
 refine id ?_
 intro q
 kernel_rfl
def su (k0:Int→V0→Int→Int→Option R) (x0:V0) (x1:Int):Option R:=
k0 x1 x0 (x0.length:Int) (0:Int)
theorem apm (x0 x1):exec cl N O2 [(0,.v U5 x0),(3,.v U2 x1)] K=(su (fun y0 y1 y2 y3=>K .normal (lj y0 y1 y2 y3)) x0 x1):=by
 kernel_rfl
theorem Uo (x0 x1 x2 x3):aj [3,6,7,8] (lj x0 x1 x2 x3)=(lj x0 x1 x2 x3):=by kernel_rfl
def sv (k0:Int→Option R) (k1:Int→V0→Int→Int→Option R) (k2:Int→V0→Int→Int→Option R) (x0:Int) (x1:V0) (x2 x3:Int):Option R:=
ad (decide (x3 < x2)) (if 0≤x3∧x3 < (x1.length:Int) then
ad ((x1.getD x3.toNat (0:Int)) != x0) (k0 (x1.getD x3.toNat (0:Int))) (k1 x0 x1 x2 (IntKind.i64.wrap (x3+(1:Int))))
else none) (k2 x0 x1 x2 x3)
theorem apn (x0 x1 x2 x3):exec cl N Gp (lj x0 x1 x2 x3) K=(sv (fun y0=>K .ret (IE y0)) (fun y0 y1 y2 y3=>K .normal (lj y0 y1 y2 y3)) (fun y0 y1 y2 y3=>K (.exit 0) (lj y0 y1 y2 y3)) x0 x1 x2 x3):=by
 kernel_rfl
def mT {R:Type} (k0:Int→Option R) (k1:Int→V0→Int→Int→Option R):Nat→Int→V0→Int→Int→Option R
 | 0,_,_,_,_=>none
 | m+1,x0,x1,x2,x3=>(sv k0 (mT k0 k1 m) k1 x0 x1 x2 x3)
theorem ae5:∀ (m) (x0 x1 x2 x3),iter [3,6,7,8] (fun env K=>exec cl N Gp env K) K m (lj x0 x1 x2 x3)=mT (fun y0=>K .ret (IE y0)) (fun y0 y1 y2 y3=>K (.exit 0) (lj y0 y1 y2 y3)) m x0 x1 x2 x3:=by
 intro m
 induction m with
 | zero=>intros; rfl
 | succ m ih=>
   intro x0 x1 x2 x3
   simp only [b6,apn,b8,b7,b9,Uo,ih]
   rfl
theorem acv (x0):aj [2,3] (IE x0)=(j7 x0):=by kernel_rfl
theorem acw (x0 x1 x2 x3):aj [2,3] (lj x0 x1 x2 x3)=(iS x0):=by kernel_rfl
def sw (N:Nat) (k0:Int→Option R) (k1:Int→Option R) (x0:Int) (x1:V0) (x2 x3:Int):Option R:=
mT k0 (fun y0 y1 y2 y3=>k1 y0) N x0 x1 x2 x3
theorem apo (x0 x1 x2 x3):exec cl N Gq (lj x0 x1 x2 x3) K=(sw N (fun y0=>K .ret (j7 y0)) (fun y0=>K (.exit 0) (iS y0)) x0 x1 x2 x3):=by
 simp only [Gq,aT,b5,Uo,ae5,acv,acw]
 rfl
theorem acx (x0):aj [2,3] (j7 x0)=(j7 x0):=by kernel_rfl
theorem acy (x0):aj [2,3] (iS x0)=(iS x0):=by kernel_rfl
def sx (k0:Int→Option R) (x0:Int):Option R:=
k0 x0
theorem apq (x0):exec cl N O5 (iS x0) K=(sx (fun y0=>K .ret [(2,.v U2 y0)]) x0):=by
 kernel_rfl
def sA (N:Nat) (k0:Int→Option R) (k1:Int→Option R) (x0:V0):Option R:=
(sz (su (sw N k0 ((sx k1)))) x0)
theorem aps (x0):exec cl N AY [(0,.v U5 x0)] K=(sA N (fun y0=>K .ret (j7 y0)) (fun y0=>K .ret [(2,.v U2 y0)]) x0):=by
 simp only [bQ,bS,bR,bT,apr,AX,O4,apm,O3,aT,cj,apo,cd,cg,cc,acx,acy,apq]
 rfl
theorem ai3 (y0):ag d45 .ret (j7 y0)=some [.v U2 y0]:=by kernel_rfl
theorem ai4 (y0):ag d45 .ret [(2,.v U2 y0)]=some [.v U2 y0]:=by kernel_rfl
def pS (N:Nat) (x0:V0) (k:Int→Option R):Option R:=
(sA N k k x0)
theorem YJ (x0) (k:List E→Option R):exec cl N Gn [(0,.v U5 x0)] (fun e env=>(ag d45 e env).bind k)=pS N x0 (fun r0=>k [.v U2 r0]):=by
 simp only [Gn,aps,ai3,ai4,aq]
 rfl
def Ic (S:V0→Option (Int)):aO:=cE 45 U5 S fun b=> [.v U2 b]
def ia (N:Nat) (x0:V0):Option (Int):=pS N x0 (fun (r0:Int)=>some (r0))
def JT (ef:ae→V0→Option (Int)) (ia:V0→Option (Int)) (ct:Int→Int→Option (Int)) (ib:V0→V0→Option (Int)) (k0:Int→Option R) (x0 x1:V0) (x2:ae):Option R:=
(ef x2 x0).bind fun r1341=>
(ef x2 x1).bind fun r1342=>
(ct r1341 r1342).bind fun r1343=>
(ib x0 x1).bind fun r1344=>
(ia [r1343,r1344]).bind fun r1345=>
k0 r1345
theorem apl (ef) (ia) (ct) (ib) (h38:(uN ef).holds cl) (h45:(Ic ia).holds cl) (h46:(nx ct).holds cl) (h47:(Ie ib).holds cl) (x0 x1 x2):exec cl N O1 [(0,.v U5 x0),(1,.v U5 x1),(2,.at ar x2)] K=(JT ef ia ct ib (fun y0=>K .ret [(5,.v U2 y0)]) x0 x1 x2):=by
 rw [←aN h38]
 rw [←aN h45]
 rw [←aN h46]
 rw [←aN h47]
 kernel_rfl
theorem ai2 (y0):ag d44 .ret [(5,.v U2 y0)]=some [.v U2 y0]:=by kernel_rfl
def CC (ef:ae→V0→Option (Int)) (ia:V0→Option (Int)) (ct:Int→Int→Option (Int)) (ib:V0→V0→Option (Int)) (x0 x1:V0) (x2:ae) (k:Int→Option R):Option R:=
(JT ef ia ct ib k x0 x1 x2)
theorem YI (ef) (ia) (ct) (ib) (h38:(uN ef).holds cl) (h45:(Ic ia).holds cl) (h46:(nx ct).holds cl) (h47:(Ie ib).holds cl) (x0 x1 x2) (k:List E→Option R):exec cl N Gm [(0,.v U5 x0),(1,.v U5 x1),(2,.at ar x2)] (fun e env=>(ag d44 e env).bind k)=CC ef ia ct ib x0 x1 x2 (fun r0=>k [.v U2 r0]):=by
 simp only [Gm,apl ef ia ct ib h38 h45 h46 h47,ai2,aq]
 rfl
def Ib (S:V0→V0→ae→Option (Int)):aO:={A:=V0×V0×ae×Unit,B:=Int,f:=44,enc:=fun a=> [.v U5 a.1,.v U5 a.2.1,.at ar a.2.2.1],dec:=(bc (bL U5) (bc (bL U5) (bc (oN ar) ck))),S:=fun a=>S a.1 a.2.1 a.2.2.1,av:=fun b=> [.v U2 b],ok:=(gn (T:=U5) (gn (T:=U5) (BT (T:=ar) (fun es b h=>jn h))))}
def gu (N:Nat) (x0:V0) (x1:V0) (x2:ae):Option (Int):=CC (ef N) (ia N) (ct N) (ib N) x0 x1 x2 (fun (r0:Int)=>some (r0))
def JO (dz:ae→V3→Option (Int)) (aW:aI→a6→Option gK) (bP:aI→a6→Option jW) (eL:zD→V8→Option DR) (gu:V0→V0→ae→Option (Int)) (k0:V8→Int→Option R) (k1:V8→Int→Option R) (k2:Int→V8→Option R) (x0:ae) (x1:V3):Option R:=
(dz x0 x1).bind fun r1349=>
ad (r1349 != (0:Int)) (k0 [] r1349) (let v1351:a6:=((-1:Int),(-1:Int),(0:Int),())
(aW (x0,x1,[],()) v1351).bind fun r1352=>
ad (r1352.2==(0:Int)) (k1 [] (9:Int)) (ad (decide (r1352.2 > (200:Int))) (k1 [] (3:Int)) ((bP r1352.1 v1351).bind fun r1355=>
(eL (fun (x1356:(V0×DQ))=>((gu x1356.1 x1356.2.1 x0).bind fun b1357=>some [.v U2 b1357]).bind (jQ U2)) r1355.2).bind fun r1358=>
k2 (0:Int) r1358)))
theorem anZ (dz) (aW) (bP) (eL) (gu) (h40:(rF dz).holds cl) (h41:(gx aW).holds cl) (h42:(kA bP).holds cl) (h43:(jM eL).holds cl) (h44:(Ib gu).holds cl) (x0 x1):exec cl N N4 (gy x0 x1) K=(JO dz aW bP eL gu (fun y0 y1=>K .ret (Rg y0 y1)) (fun y0 y1=>K .ret (Rh y0 y1)) (fun y0 y1=>K .ret (Ri y0 y1)) x0 x1):=by
 rw [←aN h40]
 rw [←aN h41]
 rw [←aN h42]
 rw [←aN h43]
 rw [←aN h44]
 kernel_rfl
theorem aiC (y0 y1):ag d16 .ret (Rg y0 y1)=some [.own true 27 U5 .no y0,.v U2 y1]:=by kernel_rfl
theorem aiD (y0 y1):ag d16 .ret (Rh y0 y1)=some [.own true 27 U5 .no y0,.v U2 y1]:=by kernel_rfl
theorem aiE (y0 y1):ag d16 .ret (Ri y0 y1)=some [.own true 27 U5 .no y1,.v U2 y0]:=by kernel_rfl
def g16 (dz:ae→V3→Option (Int)) (aW:aI→a6→Option gK) (bP:aI→a6→Option jW) (eL:zD→V8→Option DR) (gu:V0→V0→ae→Option (Int)) (x0:ae) (x1:V3) (k:V8→Int→Option R):Option R:=
(JO dz aW bP eL gu k k (fun y0 y1=>k y1 y0) x0 x1)
theorem Yt (dz) (aW) (bP) (eL) (gu) (h40:(rF dz).holds cl) (h41:(gx aW).holds cl) (h42:(kA bP).holds cl) (h43:(jM eL).holds cl) (h44:(Ib gu).holds cl) (x0 x1) (k:List E→Option R):exec cl N Fx (gy x0 x1) (fun e env=>(ag d16 e env).bind k)=g16 dz aW bP eL gu x0 x1 (fun r0 r1=>k [.own true 27 U5 .no r0,.v U2 r1]):=by
 simp only [Fx,anZ dz aW bP eL gu h40 h41 h42 h43 h44,aiC,aiD,aiE,aq]
 rfl
def oJ (S:ae→V3→Option ni):aO:=dP 16 ar .str S fun b=> [.own true 27 U5 .no b.1,.v U2 b.2]
def cG (N:Nat) (x0:ae) (x1:V3):Option ni:=g16 (dz N) (aW N) (bP N) (eL N) (gu N) x0 x1 (fun (r0:V8) (r1:Int)=>some (r0,r1))
def JC (cG:ae→V3→Option ni) (ef:ae→V0→Option (Int)) (k0:V0→Int→Int→Option R) (k1:V0→Int→Int→Option R) (x0:ae) (x1:V3):Option R:=
(cG x0 x1).bind fun r1366=>
ad (r1366.2 != (0:Int)) (k0 [] (0:Int) r1366.2) (if 0≤(0:Int)∧(0:Int) < (r1366.1.length:Int) then
if ((0:Int).toNat) < r1366.1.length then
if 0≤(0:Int)∧(0:Int) < (r1366.1.length:Int) then
if ((0:Int).toNat) < r1366.1.length then
(ef x0 (r1366.1.getD ((0:Int).toNat) [])).bind fun r1370=>
k1 (r1366.1.getD ((0:Int).toNat) []) r1370 (0:Int)
else none
else none
else none
else none)
theorem am8 (cG) (ef) (h16:(oJ cG).holds cl) (h38:(uN ef).holds cl) (x0 x1):exec cl N Nq (gy x0 x1) K=(JC cG ef (fun y0 y1 y2=>K .ret (Rj y0 y1 y2)) (fun y0 y1 y2=>K .ret [(4,.v U5 y0),(5,.v U2 y1),(6,.v U2 y2)]) x0 x1):=by
 rw [←aN h16]
 rw [←aN h38]
 kernel_rfl
theorem aib (y0 y1 y2):ag d13 .ret (Rj y0 y1 y2)=some [.v U5 y0,.v U2 y1,.v U2 y2]:=by kernel_rfl
theorem aic (y0 y1 y2):ag d13 .ret [(4,.v U5 y0),(5,.v U2 y1),(6,.v U2 y2)]=some [.v U5 y0,.v U2 y1,.v U2 y2]:=by kernel_rfl
def g13 (cG:ae→V3→Option ni) (ef:ae→V0→Option (Int)) (x0:ae) (x1:V3) (k:V0→Int→Int→Option R):Option R:=
(JC cG ef k k x0 x1)
theorem X7 (cG) (ef) (h16:(oJ cG).holds cl) (h38:(uN ef).holds cl) (x0 x1) (k:List E→Option R):exec cl N EM (gy x0 x1) (fun e env=>(ag d13 e env).bind k)=g13 cG ef x0 x1 (fun r0 r1 r2=>k [.v U5 r0,.v U2 r1,.v U2 r2]):=by
 simp only [EM,am8 cG ef h16 h38,aib,aic,aq]
 rfl
def HT (S:ae→V3→Option zB):aO:=dP 13 ar .str S fun b=> [.v U5 b.1,.v U2 b.2.1,.v U2 b.2.2]
def gF (N:Nat) (x0:ae) (x1:V3):Option zB:=g13 (cG N) (ef N) x0 x1 (fun (r0:V0) (r1:Int) (r2:Int)=>some (r0,r1,r2))
def xD (k0:V0→ae→V3→Option R) (x0:ae) (x1:V0):Option R:=
k0 x1 x0 ([]:List UInt8)
theorem apT (x0 x1):exec cl N A4 (kD x0 x1) K=(xD (fun y0 y1 y2=>exec cl N A3 [(1,.v U5 y0),(2,.loc ar .no y1),(6,.sb 123 5 y2)] K) x0 x1):=by
 delta A4
 generalize A3=q
 revert q
 refine id ?_
 intro q
 kernel_rfl
def xz (k0:ae→V3→V0→Int→Int→Option R) (x0:V0) (x1:ae) (x2:V3):Option R:=
k0 x1 x2 x0 (x0.length:Int) (0:Int)
theorem apP (x0 x1 x2):exec cl N Pp [(1,.v U5 x0),(2,.loc ar .no x1),(6,.sb 123 5 x2)] K=(xz (fun y0 y1 y2 y3 y4=>K .normal (ll y0 y1 y2 y3 y4)) x0 x1 x2):=by
 kernel_rfl
theorem Us (x0 x1 x2 x3 x4):aj [2,6,9,10,11] (ll x0 x1 x2 x3 x4)=(ll x0 x1 x2 x3 x4):=by kernel_rfl
def xA (cD:V3→V3→Option V7) (k0:V3→Bool→Option R) (k1:ae→V3→V0→Int→Int→Option R) (k2:ae→V3→V0→Int→Int→Option R) (x0:ae) (x1:V3) (x2:V0) (x3 x4:Int):Option R:=
ad (decide (x4 < x3)) (if 0≤x4∧x4 < (x2.length:Int) then
ad (decide ((x2.getD x4.toNat (0:Int)) < (0:Int))) (k0 ([]:List UInt8) false) (ad (decide ((x2.getD x4.toNat (0:Int))≥(x0.2.1.length:Int))) (k0 ([]:List UInt8) false) (if 0≤(x2.getD x4.toNat (0:Int))∧(x2.getD x4.toNat (0:Int)) < (x0.2.1.length:Int) then
(cD x1 ((x0.2.1.getD (x2.getD x4.toNat (0:Int)).toNat ([],([],((0:Int),((0:Int),()))))).1)).bind fun r1384=>
k1 x0 r1384 x2 x3 (IntKind.i64.wrap (x4+(1:Int)))
else none))
else none) (k2 x0 x1 x2 x3 x4)
theorem apQ (cD) (h84:(im cD).holds cl) (x0 x1 x2 x3 x4):exec cl N GI (ll x0 x1 x2 x3 x4) K=(xA cD (fun y0 y1=>K .ret (IF y0 y1)) (fun y0 y1 y2 y3 y4=>K .normal (ll y0 y1 y2 y3 y4)) (fun y0 y1 y2 y3 y4=>K (.exit 0) (ll y0 y1 y2 y3 y4)) x0 x1 x2 x3 x4):=by
 rw [←aN h84]
 kernel_rfl
def tj {R:Type} (cD:V3→V3→Option V7) (k0:V3→Bool→Option R) (k1:ae→V3→V0→Int→Int→Option R):Nat→ae→V3→V0→Int→Int→Option R
 | 0,_,_,_,_,_=>none
 | m+1,x0,x1,x2,x3,x4=>(xA cD k0 (tj cD k0 k1 m) k1 x0 x1 x2 x3 x4)
theorem ae9 (cD) (h84:(im cD).holds cl):∀ (m) (x0 x1 x2 x3 x4),iter [2,6,9,10,11] (fun env K=>exec cl N GI env K) K m (ll x0 x1 x2 x3 x4)=tj cD (fun y0 y1=>K .ret (IF y0 y1)) (fun y0 y1 y2 y3 y4=>K (.exit 0) (ll y0 y1 y2 y3 y4)) m x0 x1 x2 x3 x4:=by
 intro m
 induction m with
 | zero=>intros; rfl
 | succ m ih=>
   intro x0 x1 x2 x3 x4
   simp only [b6,apQ cD h84,b8,b7,b9,Us,ih]
   rfl
theorem acJ (x0 x1):aj [4,5,6] (IF x0 x1)=(rN x0 x1):=by kernel_rfl
theorem acK (x0 x1 x2 x3 x4):aj [4,5,6] (ll x0 x1 x2 x3 x4)=(uU x1):=by kernel_rfl
def xB (N:Nat) (cD:V3→V3→Option V7) (k0:V3→Bool→Option R) (k1:V3→Option R) (x0:ae) (x1:V3) (x2:V0) (x3 x4:Int):Option R:=
tj cD k0 (fun y0 y1 y2 y3 y4=>k1 y1) N x0 x1 x2 x3 x4
theorem apR (cD) (h84:(im cD).holds cl) (x0 x1 x2 x3 x4):exec cl N GJ (ll x0 x1 x2 x3 x4) K=(xB N cD (fun y0 y1=>K .ret (rN y0 y1)) (fun y0=>K (.exit 0) (uU y0)) x0 x1 x2 x3 x4):=by
 simp only [GJ,aT,b5,Us,ae9 cD h84,acJ,acK]
 rfl
theorem acL (x0 x1):aj [4,5,6] (rN x0 x1)=(rN x0 x1):=by kernel_rfl
theorem acM (x0):aj [4,5,6] (uU x0)=(uU x0):=by kernel_rfl
def xC (dW:V3→Option V7) (k0:V3→Bool→Option R) (x0:V3):Option R:=
(dW x0).bind fun r1386=>
k0 r1386 true
theorem apS (dW) (h85:(jm dW).holds cl) (x0):exec cl N Ps (uU x0) K=(xC dW (fun y0 y1=>K .ret [(4,.v .str y0),(5,.v .bool y1)]) x0):=by
 rw [←aN h85]
 kernel_rfl
def xE (N:Nat) (cD:V3→V3→Option V7) (dW:V3→Option V7) (k0:V3→Bool→Option R) (k1:V3→Bool→Option R) (x0:ae) (x1:V0):Option R:=
(xD (xz (xB N cD k0 ((xC dW k1)))) x0 x1)
theorem apU (cD) (dW) (h84:(im cD).holds cl) (h85:(jm dW).holds cl) (x0 x1):exec cl N A4 (kD x0 x1) K=(xE N cD dW (fun y0 y1=>K .ret (rN y0 y1)) (fun y0 y1=>K .ret [(4,.v .str y0),(5,.v .bool y1)]) x0 x1):=by
 simp only [bQ,bS,bR,bT,apT,A3,Pr,apP,Pq,aT,cj,apR cD h84,cd,cg,cc,acL,acM,apS dW h85]
 rfl
theorem aji (y0 y1):ag d57 .ret (rN y0 y1)=some [.v .str y0,.v .bool y1]:=by kernel_rfl
theorem ajj (y0 y1):ag d57 .ret [(4,.v .str y0),(5,.v .bool y1)]=some [.v .str y0,.v .bool y1]:=by kernel_rfl
def sE (N:Nat) (cD:V3→V3→Option V7) (dW:V3→Option V7) (x0:ae) (x1:V0) (k:V3→Bool→Option R):Option R:=
(xE N cD dW k k x0 x1)
theorem YR (cD) (dW) (h84:(im cD).holds cl) (h85:(jm dW).holds cl) (x0 x1) (k:List E→Option R):exec cl N GH (kD x0 x1) (fun e env=>(ag d57 e env).bind k)=sE N cD dW x0 x1 (fun r0 r1=>k [.v .str r0,.v .bool r1]):=by
 simp only [GH,apU cD dW h84 h85,aji,ajj,aq]
 rfl
def Ig (S:ae→V0→Option zA):aO:=dP 57 ar U5 S fun b=> [.v .str b.1,.v .bool b.2]
def ic (N:Nat) (x0:ae) (x1:V0):Option zA:=sE N (cD N) (dW N) x0 x1 (fun (r0:V3) (r1:Bool)=>some (r0,r1))
def JY (ic:ae→V0→Option zA) (eo:ae→Option (Int)) (k0:Int→Option R) (k1:Int→Option R) (x0:ae) (x1:V0):Option R:=
(eo x0).bind fun r1388=>
ad (r1388 != (0:Int)) (k0 r1388) (ad (decide ((x1.length:Int) > (16:Int))) (k0 (3:Int)) ((ic x0 x1).bind fun r1391=>
ad (!r1391.2) (k1 (6:Int)) (k1 (0:Int))))
theorem apO (ic) (eo) (h57:(Ig ic).holds cl) (h70:(uO eo).holds cl) (x0 x1):exec cl N Po (kD x0 x1) K=(JY ic eo (fun y0=>K .ret [(1,.dead),(2,.dead),(4,.v U2 y0)]) (fun y0=>K .ret [(4,.v U2 y0)]) x0 x1):=by
 rw [←aN h57]
 rw [←aN h70]
 kernel_rfl
theorem ajg (y0):ag d55 .ret [(1,.dead),(2,.dead),(4,.v U2 y0)]=some [.v U2 y0]:=by kernel_rfl
theorem ajh (y0):ag d55 .ret [(4,.v U2 y0)]=some [.v U2 y0]:=by kernel_rfl
def CF (ic:ae→V0→Option zA) (eo:ae→Option (Int)) (x0:ae) (x1:V0) (k:Int→Option R):Option R:=
(JY ic eo k k x0 x1)
theorem YQ (ic) (eo) (h57:(Ig ic).holds cl) (h70:(uO eo).holds cl) (x0 x1) (k:List E→Option R):exec cl N GG (kD x0 x1) (fun e env=>(ag d55 e env).bind k)=CF ic eo x0 x1 (fun r0=>k [.v U2 r0]):=by
 simp only [GG,apO ic eo h57 h70,ajg,ajh,aq]
 rfl
def BP (S:ae→V0→Option (Int)):aO:=dP 55 ar U5 S fun b=> [.v U2 b]
def fy (N:Nat) (x0:ae) (x1:V0):Option (Int):=CF (ic N) (eo N) x0 x1 (fun (r0:Int)=>some (r0))
def pM (fy:ae→V0→Option (Int)) (k0:V0→Int→Option R) (k1:V0→ae→V0→Int→Option R) (x0:ae) (x1:V0):Option R:=
(fy x0 x1).bind fun r1399=>
ad (r1399 != (0:Int)) (k0 [] r1399) (k1 x1 x0 [] (0:Int))
theorem aoC (fy) (h55:(BP fy).holds cl) (x0 x1):exec cl N AK (kD x0 x1) K=(pM fy (fun y0 y1=>K .ret (IH y0 y1)) (fun y0 y1 y2 y3=>exec cl N AJ (Rk y0 y1 y2 y3) K) x0 x1):=by
 rw [←aN h55]
 delta AK
 generalize AJ=q
 revert q
 refine id ?_
 intro q
 kernel_rfl
def pF (k0:ae→V0→Int→V0→Int→Int→Option R) (x0:V0) (x1:ae) (x2:V0) (x3:Int):Option R:=
k0 x1 x2 x3 x0 (x0.length:Int) (0:Int)
theorem aov (x0 x1 x2 x3):exec cl N Om (Rk x0 x1 x2 x3) K=(pF (fun y0 y1 y2 y3 y4 y5=>K .normal (gL y0 y1 y2 y3 y4 y5)) x0 x1 x2 x3):=by
 kernel_rfl
theorem KJ (x0 x1 x2 x3 x4 x5):aj [2,7,8,17,18,19] (gL x0 x1 x2 x3 x4 x5)=(gL x0 x1 x2 x3 x4 x5):=by kernel_rfl
def pI (k0:ae→V0→Int→V0→Int→Int→Option R) (k1:ae→V0→Int→V0→Int→Int→Option R) (x0:ae) (x1:V0) (x2:Int) (x3:V0) (x4 x5:Int):Option R:=
ad (decide (x5 < x4)) (k0 x0 x1 x2 x3 x4 x5) (k1 x0 x1 x2 x3 x4 x5)
theorem aoy (x0 x1 x2 x3 x4 x5):exec cl N uC (gL x0 x1 x2 x3 x4 x5) K=(pI (fun y0 y1 y2 y3 y4 y5=>exec cl N AH (gL y0 y1 y2 y3 y4 y5) K) (fun y0 y1 y2 y3 y4 y5=>K (.exit 0) (gL y0 y1 y2 y3 y4 y5)) x0 x1 x2 x3 x4 x5):=by
 delta uC
 generalize AH=q
 revert q
 refine id ?_
 intro q
 kernel_rfl
def pG (k0:ae→V0→Int→Int→V0→Int→Int→Option R) (x0:ae) (x1:V0) (x2:Int) (x3:V0) (x4 x5:Int):Option R:=
if 0≤x5∧x5 < (x3.length:Int) then
k0 x0 x1 x2 (x3.getD x5.toNat (0:Int)) x3 x4 x5
else none
theorem aow (x0 x1 x2 x3 x4 x5):exec cl N On (gL x0 x1 x2 x3 x4 x5) K=(pG (fun y0 y1 y2 y3 y4 y5 y6=>K .normal (oQ y0 y1 y2 y3 y4 y5 y6)) x0 x1 x2 x3 x4 x5):=by
 kernel_rfl
def pO (k0:ae→V0→Int→Int→V0→Int→Int→Int→Int→Option R) (x0:ae) (x1:V0) (x2 x3:Int) (x4:V0) (x5 x6:Int):Option R:=
if 0≤x3∧x3 < (x0.2.1.length:Int) then
k0 x0 x1 x2 x3 x4 x5 x6 (((x0.2.1.getD x3.toNat ([],([],((0:Int),((0:Int),()))))).2.1).length:Int) (0:Int)
else none
theorem aoE (x0 x1 x2 x3 x4 x5 x6):exec cl N Ow (oQ x0 x1 x2 x3 x4 x5 x6) K=(pO (fun y0 y1 y2 y3 y4 y5 y6 y7 y8=>K .normal (ln y0 y1 y2 y3 y4 y5 y6 y7 y8)) x0 x1 x2 x3 x4 x5 x6):=by
 kernel_rfl
theorem Ui (x0 x1 x2 x3 x4 x5 x6 x7 x8):aj [2,7,8,10,17,18,19,29,30] (ln x0 x1 x2 x3 x4 x5 x6 x7 x8)=(ln x0 x1 x2 x3 x4 x5 x6 x7 x8):=by kernel_rfl
def pP (k0:ae→V0→Int→Int→V0→Int→Int→Int→Int→Option R) (k1:ae→V0→Int→Int→V0→Int→Int→Int→Int→Option R) (x0:ae) (x1:V0) (x2 x3:Int) (x4:V0) (x5 x6 x7 x8:Int):Option R:=
ad (decide (x8 < x7)) (if x1.length+[x2].length≤17592186044416 then
k0 x0 (x1++[x2]) x2 x3 x4 x5 x6 x7 (IntKind.i64.wrap (x8+(1:Int)))
else none) (k1 x0 x1 x2 x3 x4 x5 x6 x7 x8)
theorem aoF (x0 x1 x2 x3 x4 x5 x6 x7 x8):exec cl N FX (ln x0 x1 x2 x3 x4 x5 x6 x7 x8) K=(pP (fun y0 y1 y2 y3 y4 y5 y6 y7 y8=>K .normal (ln y0 y1 y2 y3 y4 y5 y6 y7 y8)) (fun y0 y1 y2 y3 y4 y5 y6 y7 y8=>K (.exit 2) (ln y0 y1 y2 y3 y4 y5 y6 y7 y8)) x0 x1 x2 x3 x4 x5 x6 x7 x8):=by
 kernel_rfl
def td {R:Type} (k0:ae→V0→Int→Int→V0→Int→Int→Int→Int→Option R):Nat→ae→V0→Int→Int→V0→Int→Int→Int→Int→Option R
 | 0,_,_,_,_,_,_,_,_,_=>none
 | m+1,x0,x1,x2,x3,x4,x5,x6,x7,x8=>(pP (td k0 m) k0 x0 x1 x2 x3 x4 x5 x6 x7 x8)
theorem aeX:∀ (m) (x0 x1 x2 x3 x4 x5 x6 x7 x8),iter [2,7,8,10,17,18,19,29,30] (fun env K=>exec cl N FX env K) K m (ln x0 x1 x2 x3 x4 x5 x6 x7 x8)=td (fun y0 y1 y2 y3 y4 y5 y6 y7 y8=>K (.exit 2) (ln y0 y1 y2 y3 y4 y5 y6 y7 y8)) m x0 x1 x2 x3 x4 x5 x6 x7 x8:=by
 intro m
 induction m with
 | zero=>intros; rfl
 | succ m ih=>
   intro x0 x1 x2 x3 x4 x5 x6 x7 x8
   simp only [b6,aoF,b8,b7,b9,Ui,ih]
   rfl
theorem ab8 (x0 x1 x2 x3 x4 x5 x6 x7 x8):aj [2,7,8,10,17,18,19] (ln x0 x1 x2 x3 x4 x5 x6 x7 x8)=(oQ x0 x1 x2 x3 x4 x5 x6):=by kernel_rfl
def pQ (N:Nat) (k0:ae→V0→Int→Int→V0→Int→Int→Option R) (x0:ae) (x1:V0) (x2 x3:Int) (x4:V0) (x5 x6 x7 x8:Int):Option R:=
td (fun y0 y1 y2 y3 y4 y5 y6 y7 y8=>k0 y0 y1 y2 y3 y4 y5 y6) N x0 x1 x2 x3 x4 x5 x6 x7 x8
theorem aoG (x0 x1 x2 x3 x4 x5 x6 x7 x8):exec cl N FY (ln x0 x1 x2 x3 x4 x5 x6 x7 x8) K=(pQ N (fun y0 y1 y2 y3 y4 y5 y6=>K (.exit 2) (oQ y0 y1 y2 y3 y4 y5 y6)) x0 x1 x2 x3 x4 x5 x6 x7 x8):=by
 simp only [FY,aT,b5,Ui,aeX,ab8]
 rfl
theorem ab9 (x0 x1 x2 x3 x4 x5 x6):aj [2,7,8,10,17,18,19] (oQ x0 x1 x2 x3 x4 x5 x6)=(oQ x0 x1 x2 x3 x4 x5 x6):=by kernel_rfl
def pR (k0:ae→V0→Int→V0→Int→Int→Option R) (x0:ae) (x1:V0) (x2 x3:Int) (x4:V0) (x5 x6:Int):Option R:=
if 0≤x3∧x3 < (x0.2.1.length:Int) then
k0 x0 x1 (IntKind.i64.wrap (x2+(((x0.2.1.getD x3.toNat ([],([],((0:Int),((0:Int),()))))).1).length:Int))) x4 x5 x6
else none
theorem aoH (x0 x1 x2 x3 x4 x5 x6):exec cl N Oz (oQ x0 x1 x2 x3 x4 x5 x6) K=(pR (fun y0 y1 y2 y3 y4 y5=>K .normal (gL y0 y1 y2 y3 y4 y5)) x0 x1 x2 x3 x4 x5 x6):=by
 kernel_rfl
def pH (k0:ae→V0→Int→V0→Int→Int→Option R) (x0:ae) (x1:V0) (x2:Int) (x3:V0) (x4 x5:Int):Option R:=
k0 x0 x1 x2 x3 x4 (IntKind.i64.wrap (x5+(1:Int)))
theorem aox (x0 x1 x2 x3 x4 x5):exec cl N Oq (gL x0 x1 x2 x3 x4 x5) K=(pH (fun y0 y1 y2 y3 y4 y5=>K .normal (gL y0 y1 y2 y3 y4 y5)) x0 x1 x2 x3 x4 x5):=by
 kernel_rfl
def pJ (N:Nat) (k0:ae→V0→Int→V0→Int→Int→Option R) (k1:ae→V0→Int→V0→Int→Int→Option R) (x0:ae) (x1:V0) (x2:Int) (x3:V0) (x4 x5:Int):Option R:=
(pI (pG (pO (pQ N ((pR ((pH k0))))))) k1 x0 x1 x2 x3 x4 x5)
theorem aoz (x0 x1 x2 x3 x4 x5):exec cl N uC (gL x0 x1 x2 x3 x4 x5) K=(pJ N (fun y0 y1 y2 y3 y4 y5=>K .normal (gL y0 y1 y2 y3 y4 y5)) (fun y0 y1 y2 y3 y4 y5=>K (.exit 0) (gL y0 y1 y2 y3 y4 y5)) x0 x1 x2 x3 x4 x5):=by
 simp only [bQ,bS,bR,bT,aoy,AH,Oo,aT,cj,OC,aow,OA,Oy,aoE,Ox,aoG,cd,cg,cc,ab9,aoH,KJ,aox]
 rfl
def qk {R:Type} (N:Nat) (k0:ae→V0→Int→V0→Int→Int→Option R):Nat→ae→V0→Int→V0→Int→Int→Option R
 | 0,_,_,_,_,_,_=>none
 | m+1,x0,x1,x2,x3,x4,x5=>(pJ N (qk N k0 m) k0 x0 x1 x2 x3 x4 x5)
theorem aeW:∀ (m) (x0 x1 x2 x3 x4 x5),iter [2,7,8,17,18,19] (fun env K=>exec cl N uC env K) K m (gL x0 x1 x2 x3 x4 x5)=qk N (fun y0 y1 y2 y3 y4 y5=>K (.exit 0) (gL y0 y1 y2 y3 y4 y5)) m x0 x1 x2 x3 x4 x5:=by
 intro m
 induction m with
 | zero=>intros; rfl
 | succ m ih=>
   intro x0 x1 x2 x3 x4 x5
   simp only [b6,aoz,b8,b7,b9,KJ,ih]
   rfl
theorem aca (x0 x1 x2 x3 x4 x5):aj [7] (gL x0 x1 x2 x3 x4 x5)=(lp x1):=by kernel_rfl
def pK (N:Nat) (k0:V0→Option R) (x0:ae) (x1:V0) (x2:Int) (x3:V0) (x4 x5:Int):Option R:=
qk N (fun y0 y1 y2 y3 y4 y5=>k0 y1) N x0 x1 x2 x3 x4 x5
theorem aoA (x0 x1 x2 x3 x4 x5):exec cl N FW (gL x0 x1 x2 x3 x4 x5) K=(pK N (fun y0=>K (.exit 0) (lp y0)) x0 x1 x2 x3 x4 x5):=by
 simp only [FW,aT,b5,KJ,aeW,aca]
 rfl
theorem acb (x0):aj [7] (lp x0)=(lp x0):=by kernel_rfl
def pL (k0:Int→V0→Option R) (x0:V0):Option R:=
k0 (0:Int) x0
theorem aoB (x0):exec cl N Ov (lp x0) K=(pL (fun y0 y1=>K .ret (II y0 y1)) x0):=by
 kernel_rfl
def pN (N:Nat) (fy:ae→V0→Option (Int)) (k0:V0→Int→Option R) (k1:Int→V0→Option R) (x0:ae) (x1:V0):Option R:=
(pM fy k0 (pF (pK N ((pL k1)))) x0 x1)
theorem aoD (fy) (h55:(BP fy).holds cl) (x0 x1):exec cl N AK (kD x0 x1) K=(pN N fy (fun y0 y1=>K .ret (IH y0 y1)) (fun y0 y1=>K .ret (II y0 y1)) x0 x1):=by
 simp only [bQ,bS,bR,bT,aoC fy h55,AJ,Ou,aov,Ot,aT,cj,aoA,cd,cg,cc,acb,aoB]
 rfl
theorem aiM (y0 y1):ag d24 .ret (IH y0 y1)=some [.own true 3 U2 .no y0,.v U2 y1]:=by kernel_rfl
theorem aiN (y0 y1):ag d24 .ret (II y0 y1)=some [.own true 3 U2 .no y1,.v U2 y0]:=by kernel_rfl
def g24 (N:Nat) (fy:ae→V0→Option (Int)) (x0:ae) (x1:V0) (k:V0→Int→Option R):Option R:=
(pN N fy k (fun y0 y1=>k y1 y0) x0 x1)
theorem Yz (fy) (h55:(BP fy).holds cl) (x0 x1) (k:List E→Option R):exec cl N FV (kD x0 x1) (fun e env=>(ag d24 e env).bind k)=g24 N fy x0 x1 (fun r0 r1=>k [.own true 3 U2 .no r0,.v U2 r1]):=by
 simp only [FV,aoD fy h55,aiM,aiN,aq]
 rfl
def H8 (S:ae→V0→Option V9):aO:=dP 24 ar U5 S fun b=> [.own true 3 U2 .no b.1,.v U2 b.2]
def gH (N:Nat) (x0:ae) (x1:V0):Option V9:=g24 N (fy N) x0 x1 (fun (r0:V0) (r1:Int)=>some (r0,r1))
def pc (dz:ae→V3→Option (Int)) (k0:Int→Int→Option R) (k1:V3→ae→V2→Int→Option R) (x0:ae) (x1:V3):Option R:=
(dz x0 x1).bind fun r1419=>
ad (r1419 != (0:Int)) (k0 (0:Int) r1419) (let v1421:Int:=(IntKind.i64.wrap ((x1.length:Int)+(1:Int)))
if 0≤v1421∧v1421≤v1421∧v1421≤((140737488355328:Nat):Int) then
if 0≤(0:Int)∧(0:Int) < ((fc v1421.toNat false).length:Int) then
if ((0:Int).toNat) < (fc v1421.toNat false).length then
k1 x1 x0 ((fc v1421.toNat false).set ((0:Int).toNat) true) (0:Int)
else none
else none
else none)
theorem aoa (dz) (h40:(rF dz).holds cl) (x0 x1):exec cl N Az (gy x0 x1) K=(pc dz (fun y0 y1=>K .ret (rO y0 y1)) (fun y0 y1 y2 y3=>exec cl N Ay (BZ y0 y1 y2 y3) K) x0 x1):=by
 rw [←aN h40]
 delta Az
 generalize Ay=q
 revert q
 refine id ?_
 intro q
 kernel_rfl
def o9 (k0:V3→ae→V2→Int→Int→Int→Option R) (x0:V3) (x1:ae) (x2:V2) (x3:Int):Option R:=
k0 x0 x1 x2 x3 (x2.length:Int) (0:Int)
theorem an7 (x0 x1 x2 x3):exec cl N Oa (BZ x0 x1 x2 x3) K=(o9 (fun y0 y1 y2 y3 y4 y5=>K .normal (fK y0 y1 y2 y3 y4 y5)) x0 x1 x2 x3):=by
 kernel_rfl
theorem KH (x0 x1 x2 x3 x4 x5):aj [1,2,7,8,25,26,27] (fK x0 x1 x2 x3 x4 x5)=(fK x0 x1 x2 x3 x4 x5):=by kernel_rfl
def pk (k0:V3→ae→V2→Int→Int→Int→Option R) (k1:V3→ae→V2→Int→Int→Int→Option R) (x0:V3) (x1:ae) (x2:V2) (x3 x4 x5:Int):Option R:=
ad (decide (x5 < x4)) (k0 x0 x1 x2 x3 x4 x5) (k1 x0 x1 x2 x3 x4 x5)
theorem aog (x0 x1 x2 x3 x4 x5):exec cl N uA (fK x0 x1 x2 x3 x4 x5) K=(pk (fun y0 y1 y2 y3 y4 y5=>exec cl N AB (fK y0 y1 y2 y3 y4 y5) K) (fun y0 y1 y2 y3 y4 y5=>K (.exit 0) (fK y0 y1 y2 y3 y4 y5)) x0 x1 x2 x3 x4 x5):=by
 delta uA
 generalize AB=q
 revert q
 refine id ?_
 intro q
 kernel_rfl
def pg (k0:V3→ae→V2→Int→Int→Int→Int→Option R) (k1:V3→ae→V2→Int→Int→Int→Int→cA→Int→Int→Option R) (x0:V3) (x1:ae) (x2:V2) (x3 x4 x5:Int):Option R:=
if 0≤x5∧x5 < (x2.length:Int) then
if x5.toNat < x2.length then
ad (!(x2.getD x5.toNat false)) (k0 x0 x1 x2 x3 x5 x4 x5) (k1 x0 x1 x2 x5 x5 x4 x5 x1.2.1 (x1.2.1.length:Int) (0:Int))
else none
else none
theorem aod (x0 x1 x2 x3 x4 x5):exec cl N FL (fK x0 x1 x2 x3 x4 x5) K=(pg (fun y0 y1 y2 y3 y4 y5 y6=>K (.exit 1) (Rl y0 y1 y2 y3 y4 y5 y6)) (fun y0 y1 y2 y3 y4 y5 y6 y7 y8 y9=>exec cl N AA (lq y0 y1 y2 y3 y4 y5 y6 y7 y8 y9) K) x0 x1 x2 x3 x4 x5):=by
 delta FL
 generalize AA=q
 revert q
 refine id ?_
 intro q
 kernel_rfl
theorem Ug (x0 x1 x2 x3 x4 x5 x6 x7 x8 x9):aj [1,2,7,8,9,25,26,27,36,37,38] (lq x0 x1 x2 x3 x4 x5 x6 x7 x8 x9)=(lq x0 x1 x2 x3 x4 x5 x6 x7 x8 x9):=by kernel_rfl
def pa (aS:V3→V3→Option (Bool)) (k0:V3→ae→V2→Int→Int→Int→Int→cA→Int→Int→Option R) (k1:V3→ae→V2→Int→Int→Int→Int→cA→Int→Int→Option R) (x0:V3) (x1:ae) (x2:V2) (x3 x4 x5 x6:Int) (x7:cA) (x8 x9:Int):Option R:=
ad (decide (x9 < x8)) (if 0≤x9∧x9 < (x7.length:Int) then
if 0≤x4∧x4≤(x0.length:Int)∧(x0.length:Int)≤(x0.length:Int) then
(aS ((x0.drop x4.toNat).take ((x0.length:Int).toNat - x4.toNat)) ((x7.getD x9.toNat ([],([],((0:Int),((0:Int),()))))).1)).bind fun r1426=>
ad r1426 (let v1427:Int:=(IntKind.i64.wrap (x4+(((x7.getD x9.toNat ([],([],((0:Int),((0:Int),()))))).1).length:Int)))
if 0≤v1427∧v1427 < (x2.length:Int) then
if v1427.toNat < x2.length then
k0 x0 x1 (x2.set v1427.toNat true) x3 x4 x5 x6 x7 x8 (IntKind.i64.wrap (x9+(1:Int)))
else none
else none) (k0 x0 x1 x2 x3 x4 x5 x6 x7 x8 (IntKind.i64.wrap (x9+(1:Int))))
else none
else none) (k1 x0 x1 x2 x3 x4 x5 x6 x7 x8 x9)
theorem an8 (aS) (h54:(gm aS).holds cl) (x0 x1 x2 x3 x4 x5 x6 x7 x8 x9):exec cl N FJ (lq x0 x1 x2 x3 x4 x5 x6 x7 x8 x9) K=(pa aS (fun y0 y1 y2 y3 y4 y5 y6 y7 y8 y9=>K .normal (lq y0 y1 y2 y3 y4 y5 y6 y7 y8 y9)) (fun y0 y1 y2 y3 y4 y5 y6 y7 y8 y9=>K (.exit 2) (lq y0 y1 y2 y3 y4 y5 y6 y7 y8 y9)) x0 x1 x2 x3 x4 x5 x6 x7 x8 x9):=by
 rw [←aN h54]
 kernel_rfl
def ta {R:Type} (aS:V3→V3→Option (Bool)) (k0:V3→ae→V2→Int→Int→Int→Int→cA→Int→Int→Option R):Nat→V3→ae→V2→Int→Int→Int→Int→cA→Int→Int→Option R
 | 0,_,_,_,_,_,_,_,_,_,_=>none
 | m+1,x0,x1,x2,x3,x4,x5,x6,x7,x8,x9=>(pa aS (ta aS k0 m) k0 x0 x1 x2 x3 x4 x5 x6 x7 x8 x9)
theorem aeS (aS) (h54:(gm aS).holds cl):∀ (m) (x0 x1 x2 x3 x4 x5 x6 x7 x8 x9),iter [1,2,7,8,9,25,26,27,36,37,38] (fun env K=>exec cl N FJ env K) K m (lq x0 x1 x2 x3 x4 x5 x6 x7 x8 x9)=ta aS (fun y0 y1 y2 y3 y4 y5 y6 y7 y8 y9=>K (.exit 2) (lq y0 y1 y2 y3 y4 y5 y6 y7 y8 y9)) m x0 x1 x2 x3 x4 x5 x6 x7 x8 x9:=by
 intro m
 induction m with
 | zero=>intros; rfl
 | succ m ih=>
   intro x0 x1 x2 x3 x4 x5 x6 x7 x8 x9
   simp only [b6,an8 aS h54,b8,b7,b9,Ug,ih]
   rfl
theorem ab1 (x0 x1 x2 x3 x4 x5 x6 x7 x8 x9):aj [1,2,7,8,25,26,27] (lq x0 x1 x2 x3 x4 x5 x6 x7 x8 x9)=(fK x0 x1 x2 x3 x5 x6):=by kernel_rfl
def pe (N:Nat) (aS:V3→V3→Option (Bool)) (k0:V3→ae→V2→Int→Int→Int→Option R) (x0:V3) (x1:ae) (x2:V2) (x3 x4 x5 x6:Int) (x7:cA) (x8 x9:Int):Option R:=
ta aS (fun y0 y1 y2 y3 y4 y5 y6 y7 y8 y9=>k0 y0 y1 y2 y3 y5 y6) N x0 x1 x2 x3 x4 x5 x6 x7 x8 x9
theorem aoc (aS) (h54:(gm aS).holds cl) (x0 x1 x2 x3 x4 x5 x6 x7 x8 x9):exec cl N FK (lq x0 x1 x2 x3 x4 x5 x6 x7 x8 x9) K=(pe N aS (fun y0 y1 y2 y3 y4 y5=>K (.exit 2) (fK y0 y1 y2 y3 y4 y5)) x0 x1 x2 x3 x4 x5 x6 x7 x8 x9):=by
 simp only [FK,aT,b5,Ug,aeS aS h54,ab1]
 rfl
theorem ab2 (x0 x1 x2 x3 x4 x5 x6):aj [1,2,7,8,25,26,27] (Rl x0 x1 x2 x3 x4 x5 x6)=(fK x0 x1 x2 x3 x5 x6):=by kernel_rfl
def ph (N:Nat) (aS:V3→V3→Option (Bool)) (k0:V3→ae→V2→Int→Int→Int→Option R) (x0:V3) (x1:ae) (x2:V2) (x3 x4 x5:Int):Option R:=
(pg (fun y0 y1 y2 y3 y4 y5 y6=>(k0 y0 y1 y2 y3 y5 y6)) (pe N aS k0) x0 x1 x2 x3 x4 x5)
theorem aoe (aS) (h54:(gm aS).holds cl) (x0 x1 x2 x3 x4 x5):exec cl N FM (fK x0 x1 x2 x3 x4 x5) K=(ph N aS (fun y0 y1 y2 y3 y4 y5=>K .normal (fK y0 y1 y2 y3 y4 y5)) x0 x1 x2 x3 x4 x5):=by
 simp only [FM,aT,cj,bQ,bS,bR,bT,aod,AA,aoc aS h54,cd,cg,cc,KH,ab2]
 rfl
def pj (k0:V3→ae→V2→Int→Int→Int→Option R) (x0:V3) (x1:ae) (x2:V2) (x3 x4 x5:Int):Option R:=
k0 x0 x1 x2 x3 x4 (IntKind.i64.wrap (x5+(1:Int)))
theorem aof (x0 x1 x2 x3 x4 x5):exec cl N Of (fK x0 x1 x2 x3 x4 x5) K=(pj (fun y0 y1 y2 y3 y4 y5=>K .normal (fK y0 y1 y2 y3 y4 y5)) x0 x1 x2 x3 x4 x5):=by
 kernel_rfl
def pn (N:Nat) (aS:V3→V3→Option (Bool)) (k0:V3→ae→V2→Int→Int→Int→Option R) (k1:V3→ae→V2→Int→Int→Int→Option R) (x0:V3) (x1:ae) (x2:V2) (x3 x4 x5:Int):Option R:=
(pk (ph N aS (pj k0)) k1 x0 x1 x2 x3 x4 x5)
theorem aoh (aS) (h54:(gm aS).holds cl) (x0 x1 x2 x3 x4 x5):exec cl N uA (fK x0 x1 x2 x3 x4 x5) K=(pn N aS (fun y0 y1 y2 y3 y4 y5=>K .normal (fK y0 y1 y2 y3 y4 y5)) (fun y0 y1 y2 y3 y4 y5=>K (.exit 0) (fK y0 y1 y2 y3 y4 y5)) x0 x1 x2 x3 x4 x5):=by
 simp only [bQ,bS,bR,bT,aog,AB,aoe aS h54,aof]
 rfl
def qi {R:Type} (N:Nat) (aS:V3→V3→Option (Bool)) (k0:V3→ae→V2→Int→Int→Int→Option R):Nat→V3→ae→V2→Int→Int→Int→Option R
 | 0,_,_,_,_,_,_=>none
 | m+1,x0,x1,x2,x3,x4,x5=>(pn N aS (qi N aS k0 m) k0 x0 x1 x2 x3 x4 x5)
theorem aeT (aS) (h54:(gm aS).holds cl):∀ (m) (x0 x1 x2 x3 x4 x5),iter [1,2,7,8,25,26,27] (fun env K=>exec cl N uA env K) K m (fK x0 x1 x2 x3 x4 x5)=qi N aS (fun y0 y1 y2 y3 y4 y5=>K (.exit 0) (fK y0 y1 y2 y3 y4 y5)) m x0 x1 x2 x3 x4 x5:=by
 intro m
 induction m with
 | zero=>intros; rfl
 | succ m ih=>
   intro x0 x1 x2 x3 x4 x5
   simp only [b6,aoh aS h54,b8,b7,b9,KH,ih]
   rfl
theorem ab3 (x0 x1 x2 x3 x4 x5):aj [8] (fK x0 x1 x2 x3 x4 x5)=[(8,.v U2 x3)]:=by kernel_rfl
def po (N:Nat) (aS:V3→V3→Option (Bool)) (k0:Int→Option R) (x0:V3) (x1:ae) (x2:V2) (x3 x4 x5:Int):Option R:=
qi N aS (fun y0 y1 y2 y3 y4 y5=>k0 y3) N x0 x1 x2 x3 x4 x5
theorem aoi (aS) (h54:(gm aS).holds cl) (x0 x1 x2 x3 x4 x5):exec cl N FN (fK x0 x1 x2 x3 x4 x5) K=(po N aS (fun y0=>K (.exit 0) [(8,.v U2 y0)]) x0 x1 x2 x3 x4 x5):=by
 simp only [FN,aT,b5,KH,aeT aS h54,ab3]
 rfl
theorem ab4 (x0):aj [8] [(8,.v U2 x0)]=[(8,.v U2 x0)]:=by kernel_rfl
def pb (k0:Int→Int→Option R) (x0:Int):Option R:=
k0 x0 (0:Int)
theorem an9 (x0):exec cl N Oe [(8,.v U2 x0)] K=(pb (fun y0 y1=>K .ret (nA y0 y1)) x0):=by
 kernel_rfl
def pd (N:Nat) (dz:ae→V3→Option (Int)) (aS:V3→V3→Option (Bool)) (k0:Int→Int→Option R) (k1:Int→Int→Option R) (x0:ae) (x1:V3):Option R:=
(pc dz k0 (o9 (po N aS ((pb k1)))) x0 x1)
theorem aob (dz) (aS) (h40:(rF dz).holds cl) (h54:(gm aS).holds cl) (x0 x1):exec cl N Az (gy x0 x1) K=(pd N dz aS (fun y0 y1=>K .ret (rO y0 y1)) (fun y0 y1=>K .ret (nA y0 y1)) x0 x1):=by
 simp only [bQ,bS,bR,bT,aoa dz h40,Ay,Oc,an7,Ob,aT,cj,aoi aS h54,cd,cg,cc,ab4,an9]
 rfl
theorem aiI (y0 y1):ag d20 .ret (rO y0 y1)=some [.v U2 y0,.v U2 y1]:=by kernel_rfl
theorem aiJ (y0 y1):ag d20 .ret (nA y0 y1)=some [.v U2 y0,.v U2 y1]:=by kernel_rfl
def g20 (N:Nat) (dz:ae→V3→Option (Int)) (aS:V3→V3→Option (Bool)) (x0:ae) (x1:V3) (k:Int→Int→Option R):Option R:=
(pd N dz aS k k x0 x1)
theorem Yx (dz) (aS) (h40:(rF dz).holds cl) (h54:(gm aS).holds cl) (x0 x1) (k:List E→Option R):exec cl N FI (gy x0 x1) (fun e env=>(ag d20 e env).bind k)=g20 N dz aS x0 x1 (fun r0 r1=>k [.v U2 r0,.v U2 r1]):=by
 simp only [FI,aob dz aS h40 h54,aiI,aiJ,aq]
 rfl
def uM (S:ae→V3→Option V1):aO:=dP 20 ar .str S fun b=> [.v U2 b.1,.v U2 b.2]
def ee (N:Nat) (x0:ae) (x1:V3):Option V1:=g20 N (dz N) (aS N) x0 x1 (fun (r0:Int) (r1:Int)=>some (r0,r1))
def SI (k0:Bool→Option R) (k1:V0→V0→Option R) (x0 x1:V0):Option R:=
ad ((x0.length:Int) != (x1.length:Int)) (k0 false) (k1 x0 x1)
theorem apL (x0 x1):exec cl N A2 (kE x0 x1) K=(SI (fun y0=>K .ret (iQ y0)) (fun y0 y1=>exec cl N A1 (mL y0 y1) K) x0 x1):=by
 delta A2
 generalize A1=q
 revert q
 refine id ?_
 intro q
 kernel_rfl
def SE (k0:V0→V0→Int→Option R) (x0 x1:V0):Option R:=
k0 x0 x1 (0:Int)
theorem apH (x0 x1):exec cl N Pj (mL x0 x1) K=(SE (fun y0 y1 y2=>K .normal (lr y0 y1 y2)) x0 x1):=by
 kernel_rfl
theorem Ur (x0 x1 x2):aj [0,1,5] (lr x0 x1 x2)=(lr x0 x1 x2):=by kernel_rfl
def SF (k0:Bool→Option R) (k1:V0→V0→Int→Option R) (k2:V0→V0→Int→Option R) (x0 x1:V0) (x2:Int):Option R:=
ad (decide (x2 < (x0.length:Int))) (if 0≤x2∧x2 < (x0.length:Int) then
if 0≤x2∧x2 < (x1.length:Int) then
ad ((x0.getD x2.toNat (0:Int)) != (x1.getD x2.toNat (0:Int))) (k0 false) (k1 x0 x1 (IntKind.i64.wrap (x2+(1:Int))))
else none
else none) (k2 x0 x1 x2)
theorem apI (x0 x1 x2):exec cl N GC (lr x0 x1 x2) K=(SF (fun y0=>K .ret (mN y0)) (fun y0 y1 y2=>K .normal (lr y0 y1 y2)) (fun y0 y1 y2=>K (.exit 0) (lr y0 y1 y2)) x0 x1 x2):=by
 kernel_rfl
def KT {R:Type} (k0:Bool→Option R) (k1:V0→V0→Int→Option R):Nat→V0→V0→Int→Option R
 | 0,_,_,_=>none
 | m+1,x0,x1,x2=>(SF k0 (KT k0 k1 m) k1 x0 x1 x2)
theorem ae8:∀ (m) (x0 x1 x2),iter [0,1,5] (fun env K=>exec cl N GC env K) K m (lr x0 x1 x2)=KT (fun y0=>K .ret (mN y0)) (fun y0 y1 y2=>K (.exit 0) (lr y0 y1 y2)) m x0 x1 x2:=by
 intro m
 induction m with
 | zero=>intros; rfl
 | succ m ih=>
   intro x0 x1 x2
   simp only [b6,apI,b8,b7,b9,Ur,ih]
   rfl
theorem acF (x0):aj [4] (mN x0)=[(4,.v .bool x0)]:=by kernel_rfl
theorem acG (x0 x1 x2):aj [4] (lr x0 x1 x2)=[(4,.dead)]:=by kernel_rfl
def SG (N:Nat) (k0:Bool→Option R) (k1:Option R) (x0 x1:V0) (x2:Int):Option R:=
KT k0 (fun y0 y1 y2=>k1) N x0 x1 x2
theorem apJ (x0 x1 x2):exec cl N GD (lr x0 x1 x2) K=(SG N (fun y0=>K .ret [(4,.v .bool y0)]) (K (.exit 0) [(4,.dead)]) x0 x1 x2):=by
 simp only [GD,aT,b5,Ur,ae8,acF,acG]
 rfl
theorem acH (x0):aj [4] [(4,.v .bool x0)]=[(4,.v .bool x0)]:=by kernel_rfl
theorem acI:aj [4] [(4,.dead)]=[(4,.dead)]:=by kernel_rfl
def SH (k0:Bool→Option R):Option R:=
k0 true
theorem apK:exec cl N Pm [(4,.dead)] K=(SH (fun y0=>K .ret [(4,.v .bool y0)])):=by
 kernel_rfl
def SJ (N:Nat) (k0:Bool→Option R) (k1:Bool→Option R) (x0 x1:V0):Option R:=
(SI k0 (SE (SG N k1 (SH k1))) x0 x1)
theorem apM (x0 x1):exec cl N A2 (kE x0 x1) K=(SJ N (fun y0=>K .ret (iQ y0)) (fun y0=>K .ret [(4,.v .bool y0)]) x0 x1):=by
 simp only [bQ,bS,bR,bT,apL,A1,Pl,apH,Pk,aT,cj,apJ,cd,cg,cc,acH,acI,apK]
 rfl
theorem ajd (y0):ag d53 .ret (iQ y0)=some [.v .bool y0]:=by kernel_rfl
theorem aje (y0):ag d53 .ret [(4,.v .bool y0)]=some [.v .bool y0]:=by kernel_rfl
def JW (N:Nat) (x0 x1:V0) (k:Bool→Option R):Option R:=
(SJ N k k x0 x1)
theorem YP (x0 x1) (k:List E→Option R):exec cl N GB (kE x0 x1) (fun e env=>(ag d53 e env).bind k)=JW N x0 x1 (fun r0=>k [.v .bool r0]):=by
 simp only [GB,apM,ajd,aje,aq]
 rfl
def rG (S:V0→V0→Option (Bool)):aO:=dP 53 U5 U5 S fun b=> [.v .bool b]
def dL (N:Nat) (x0:V0) (x1:V0):Option (Bool):=JW N x0 x1 (fun (r0:Bool)=>some (r0))
def SB (k0:Bool→Option R) (k1:V8→V8→Option R) (x0 x1:V8):Option R:=
ad ((x0.length:Int) != (x1.length:Int)) (k0 false) (k1 x0 x1)
theorem an5 (x0 x1):exec cl N Ax [(0,.v U7 x0),(1,.v U7 x1)] K=(SB (fun y0=>K .ret (iQ y0)) (fun y0 y1=>exec cl N Aw [(0,.v U7 y0),(1,.v U7 y1),(4,.dead)] K) x0 x1):=by
 delta Ax
 generalize Aw=q
 revert q
 refine id ?_
 intro q
 kernel_rfl
def Sx (k0:V8→V8→Int→Option R) (x0 x1:V8):Option R:=
k0 x0 x1 (0:Int)
theorem an1 (x0 x1):exec cl N N6 [(0,.v U7 x0),(1,.v U7 x1),(4,.dead)] K=(Sx (fun y0 y1 y2=>K .normal (lu y0 y1 y2)) x0 x1):=by
 kernel_rfl
theorem Uf (x0 x1 x2):aj [0,1,5] (lu x0 x1 x2)=(lu x0 x1 x2):=by kernel_rfl
def Sy (dL:V0→V0→Option (Bool)) (k0:Bool→Option R) (k1:V8→V8→Int→Option R) (k2:V8→V8→Int→Option R) (x0 x1:V8) (x2:Int):Option R:=
ad (decide (x2 < (x0.length:Int))) (if 0≤x2∧x2 < (x0.length:Int) then
if 0≤x2∧x2 < (x1.length:Int) then
(dL (x0.getD x2.toNat []) (x1.getD x2.toNat [])).bind fun r1453=>
ad (!r1453) (k0 false) (k1 x0 x1 (IntKind.i64.wrap (x2+(1:Int))))
else none
else none) (k2 x0 x1 x2)
theorem an2 (dL) (h53:(rG dL).holds cl) (x0 x1 x2):exec cl N FG (lu x0 x1 x2) K=(Sy dL (fun y0=>K .ret (mN y0)) (fun y0 y1 y2=>K .normal (lu y0 y1 y2)) (fun y0 y1 y2=>K (.exit 0) (lu y0 y1 y2)) x0 x1 x2):=by
 rw [←aN h53]
 kernel_rfl
def KS {R:Type} (dL:V0→V0→Option (Bool)) (k0:Bool→Option R) (k1:V8→V8→Int→Option R):Nat→V8→V8→Int→Option R
 | 0,_,_,_=>none
 | m+1,x0,x1,x2=>(Sy dL k0 (KS dL k0 k1 m) k1 x0 x1 x2)
theorem aeR (dL) (h53:(rG dL).holds cl):∀ (m) (x0 x1 x2),iter [0,1,5] (fun env K=>exec cl N FG env K) K m (lu x0 x1 x2)=KS dL (fun y0=>K .ret (mN y0)) (fun y0 y1 y2=>K (.exit 0) (lu y0 y1 y2)) m x0 x1 x2:=by
 intro m
 induction m with
 | zero=>intros; rfl
 | succ m ih=>
   intro x0 x1 x2
   simp only [b6,an2 dL h53,b8,b7,b9,Uf,ih]
   rfl
theorem abX (x0):aj [4] (mN x0)=[(4,.v .bool x0)]:=by kernel_rfl
theorem abY (x0 x1 x2):aj [4] (lu x0 x1 x2)=[(4,.dead)]:=by kernel_rfl
def Sz (N:Nat) (dL:V0→V0→Option (Bool)) (k0:Bool→Option R) (k1:Option R) (x0 x1:V8) (x2:Int):Option R:=
KS dL k0 (fun y0 y1 y2=>k1) N x0 x1 x2
theorem an3 (dL) (h53:(rG dL).holds cl) (x0 x1 x2):exec cl N FH (lu x0 x1 x2) K=(Sz N dL (fun y0=>K .ret [(4,.v .bool y0)]) (K (.exit 0) [(4,.dead)]) x0 x1 x2):=by
 simp only [FH,aT,b5,Uf,aeR dL h53,abX,abY]
 rfl
theorem abZ (x0):aj [4] [(4,.v .bool x0)]=[(4,.v .bool x0)]:=by kernel_rfl
theorem ab0:aj [4] [(4,.dead)]=[(4,.dead)]:=by kernel_rfl
def SA (k0:Bool→Option R):Option R:=
k0 true
theorem an4:exec cl N N9 [(4,.dead)] K=(SA (fun y0=>K .ret [(4,.v .bool y0)])):=by
 kernel_rfl
def SC (N:Nat) (dL:V0→V0→Option (Bool)) (k0:Bool→Option R) (k1:Bool→Option R) (x0 x1:V8):Option R:=
(SB k0 (Sx (Sz N dL k1 (SA k1))) x0 x1)
theorem an6 (dL) (h53:(rG dL).holds cl) (x0 x1):exec cl N Ax [(0,.v U7 x0),(1,.v U7 x1)] K=(SC N dL (fun y0=>K .ret (iQ y0)) (fun y0=>K .ret [(4,.v .bool y0)]) x0 x1):=by
 simp only [bQ,bS,bR,bT,an5,Aw,N8,an1,N7,aT,cj,an3 dL h53,cd,cg,cc,abZ,ab0,an4]
 rfl
theorem aiG (y0):ag d19 .ret (iQ y0)=some [.v .bool y0]:=by kernel_rfl
theorem aiH (y0):ag d19 .ret [(4,.v .bool y0)]=some [.v .bool y0]:=by kernel_rfl
def g19 (N:Nat) (dL:V0→V0→Option (Bool)) (x0 x1:V8) (k:Bool→Option R):Option R:=
(SC N dL k k x0 x1)
theorem Yw (dL) (h53:(rG dL).holds cl) (x0 x1) (k:List E→Option R):exec cl N FF [(0,.v U7 x0),(1,.v U7 x1)] (fun e env=>(ag d19 e env).bind k)=g19 N dL x0 x1 (fun r0=>k [.v .bool r0]):=by
 simp only [FF,an6 dL h53,aiG,aiH,aq]
 rfl
def H6 (S:V8→V8→Option (Bool)):aO:=dP 19 U7 U7 S fun b=> [.v .bool b]
def iM (N:Nat) (x0:V8) (x1:V8):Option (Bool):=g19 N (dL N) x0 x1 (fun (r0:Bool)=>some (r0))
def wG (k0:Bool→Option R) (k1:V0→V0→Option R) (x0 x1:V0):Option R:=
ad ((x0.length:Int) != (x1.length:Int)) (k0 false) (k1 x0 x1)
theorem anR (x0 x1):exec cl N Av (kE x0 x1) K=(wG (fun y0=>K .ret (iQ y0)) (fun y0 y1=>exec cl N Au (mL y0 y1) K) x0 x1):=by
 delta Av
 generalize Au=q
 revert q
 refine id ?_
 intro q
 kernel_rfl
def wB (k0:V0→V0→Int→Int→Option R) (x0 x1:V0):Option R:=
k0 x0 x1 (x0.length:Int) (0:Int)
theorem anN (x0 x1):exec cl N NU (mL x0 x1) K=(wB (fun y0 y1 y2 y3=>K .normal (lv y0 y1 y2 y3)) x0 x1):=by
 kernel_rfl
theorem Ue (x0 x1 x2 x3):aj [0,1,12,13] (lv x0 x1 x2 x3)=(lv x0 x1 x2 x3):=by kernel_rfl
def wC (k0:Bool→Option R) (k1:V0→V0→Int→Int→Option R) (k2:V0→V0→Int→Int→Option R) (x0 x1:V0) (x2 x3:Int):Option R:=
ad (decide (x3 < x2)) (if 0≤x3∧x3 < (x0.length:Int) then
if 0≤x3∧x3 < (x1.length:Int) then
ad ((x0.getD x3.toNat (0:Int)) != (x1.getD x3.toNat (0:Int))) (k0 false) (k1 x0 x1 x2 (IntKind.i64.wrap (x3+(1:Int))))
else none
else none) (k2 x0 x1 x2 x3)
theorem anO (x0 x1 x2 x3):exec cl N Fu (lv x0 x1 x2 x3) K=(wC (fun y0=>K .ret (rU y0)) (fun y0 y1 y2 y3=>K .normal (lv y0 y1 y2 y3)) (fun y0 y1 y2 y3=>K (.exit 0) (lv y0 y1 y2 y3)) x0 x1 x2 x3):=by
 kernel_rfl
def s8 {R:Type} (k0:Bool→Option R) (k1:V0→V0→Int→Int→Option R):Nat→V0→V0→Int→Int→Option R
 | 0,_,_,_,_=>none
 | m+1,x0,x1,x2,x3=>(wC k0 (s8 k0 k1 m) k1 x0 x1 x2 x3)
theorem aeP:∀ (m) (x0 x1 x2 x3),iter [0,1,12,13] (fun env K=>exec cl N Fu env K) K m (lv x0 x1 x2 x3)=s8 (fun y0=>K .ret (rU y0)) (fun y0 y1 y2 y3=>K (.exit 0) (lv y0 y1 y2 y3)) m x0 x1 x2 x3:=by
 intro m
 induction m with
 | zero=>intros; rfl
 | succ m ih=>
   intro x0 x1 x2 x3
   simp only [b6,anO,b8,b7,b9,Ue,ih]
   rfl
theorem abN (x0):aj [4] (rU x0)=[(4,.v .bool x0)]:=by kernel_rfl
theorem abO (x0 x1 x2 x3):aj [4] (lv x0 x1 x2 x3)=[(4,.dead)]:=by kernel_rfl
def wD (N:Nat) (k0:Bool→Option R) (k1:Option R) (x0 x1:V0) (x2 x3:Int):Option R:=
s8 k0 (fun y0 y1 y2 y3=>k1) N x0 x1 x2 x3
theorem anP (x0 x1 x2 x3):exec cl N Fv (lv x0 x1 x2 x3) K=(wD N (fun y0=>K .ret [(4,.v .bool y0)]) (K (.exit 0) [(4,.dead)]) x0 x1 x2 x3):=by
 simp only [Fv,aT,b5,Ue,aeP,abN,abO]
 rfl
theorem abP (x0):aj [4] [(4,.v .bool x0)]=[(4,.v .bool x0)]:=by kernel_rfl
theorem abQ:aj [4] [(4,.dead)]=[(4,.dead)]:=by kernel_rfl
def wF (k0:Bool→Option R):Option R:=
k0 true
theorem anQ:exec cl N NX [(4,.dead)] K=(wF (fun y0=>K .ret [(4,.v .bool y0)])):=by
 kernel_rfl
def wH (N:Nat) (k0:Bool→Option R) (k1:Bool→Option R) (x0 x1:V0):Option R:=
(wG k0 (wB (wD N k1 (wF k1))) x0 x1)
theorem anS (x0 x1):exec cl N Av (kE x0 x1) K=(wH N (fun y0=>K .ret (iQ y0)) (fun y0=>K .ret [(4,.v .bool y0)]) x0 x1):=by
 simp only [bQ,bS,bR,bT,anR,Au,NW,anN,NV,aT,cj,anP,cd,cg,cc,abP,abQ,anQ]
 rfl
theorem aiz (y0):ag d15 .ret (iQ y0)=some [.v .bool y0]:=by kernel_rfl
theorem aiA (y0):ag d15 .ret [(4,.v .bool y0)]=some [.v .bool y0]:=by kernel_rfl
def g15 (N:Nat) (x0 x1:V0) (k:Bool→Option R):Option R:=
(wH N k k x0 x1)
theorem Yk (x0 x1) (k:List E→Option R):exec cl N Ff (kE x0 x1) (fun e env=>(ag d15 e env).bind k)=g15 N x0 x1 (fun r0=>k [.v .bool r0]):=by
 simp only [Ff,anS,aiz,aiA,aq]
 rfl
def HW (S:V0→V0→Option (Bool)):aO:=dP 15 U5 U5 S fun b=> [.v .bool b]
def gG (N:Nat) (x0:V0) (x1:V0):Option (Bool):=g15 N x0 x1 (fun (r0:Bool)=>some (r0))
def Jp (gF:ae→V3→Option zB) (gG:V0→V0→Option (Bool)) (cG:ae→V3→Option ni) (iM:V8→V8→Option (Bool)) (ee:ae→V3→Option V1) (gH:ae→V0→Option V9) (hZ:Option ug) (k0:Bool→Option R) (k1:Bool→Option R):Option R:=
(hZ).bind fun r1467=>
(cG r1467 ([97,114,109,97]:List UInt8)).bind fun r1468=>
(cG r1467 ([116,114,111,105,97,101]:List UInt8)).bind fun r1469=>
(gF r1467 ([105,97,109]:List UInt8)).bind fun r1470=>
(gH r1467 [(38:Int),(40:Int),(3:Int),(23:Int),(18:Int)]).bind fun r1471=>
(ee r1467 ([97,114,109,113]:List UInt8)).bind fun r1472=>
ad (r1468.2 != (0:Int)) (k0 false) (ad (r1469.2 != (0:Int)) (k0 false) (ad (r1470.2.2 != (0:Int)) (k0 false) (ad (r1471.2 != (0:Int)) (k0 false) (ad (r1472.2 != (0:Int)) (k0 false) (ad (r1472.1 != (3:Int)) (k0 false) (ad (r1470.2.1 != (1:Int)) (k0 false) ((iM r1468.1 [[(0:Int),(40:Int),(41:Int),(0:Int)]]).bind fun r1480=>
ad r1480 ((iM r1469.1 [[(38:Int),(40:Int),(3:Int),(23:Int),(18:Int)],[(38:Int),(40:Int),(3:Int),(2:Int),(18:Int)],[(38:Int),(40:Int),(3:Int),(23:Int),(0:Int),(1:Int)],[(38:Int),(40:Int),(3:Int),(2:Int),(0:Int),(1:Int)]]).bind fun r1481=>
ad r1481 ((gG r1470.1 [(22:Int),(0:Int),(41:Int)]).bind fun r1482=>
ad r1482 ((gG r1471.1 [(0:Int),(1:Int),(2:Int),(3:Int),(3:Int),(4:Int)]).bind fun r1483=>
k1 r1483) (k1 false)) (k1 false)) (k1 false))))))))
theorem amr (gF) (gG) (cG) (iM) (ee) (gH) (hZ) (h13:(HT gF).holds cl) (h15:(HW gG).holds cl) (h16:(oJ cG).holds cl) (h19:(H6 iM).holds cl) (h20:(uM ee).holds cl) (h24:(H8 gH).holds cl) (h37:(BN hZ).holds cl):exec cl N MP [] K=(Jp gF gG cG iM ee gH hZ (fun y0=>K .ret (Rm y0)) (fun y0=>K .ret [(0,.v .bool y0)])):=by
 rw [←aN h13]
 rw [←aN h15]
 rw [←aN h16]
 rw [←aN h19]
 rw [←aN h20]
 rw [←aN h24]
 rw [←aN h37]
 kernel_rfl
theorem ahS (y0):ag d11 .ret (Rm y0)=some [.v .bool y0]:=by kernel_rfl
theorem ahT (y0):ag d11 .ret [(0,.v .bool y0)]=some [.v .bool y0]:=by kernel_rfl
def g11 (gF:ae→V3→Option zB) (gG:V0→V0→Option (Bool)) (cG:ae→V3→Option ni) (iM:V8→V8→Option (Bool)) (ee:ae→V3→Option V1) (gH:ae→V0→Option V9) (hZ:Option ug) (k:Bool→Option R):Option R:=
(Jp gF gG cG iM ee gH hZ k k)
theorem XP (gF) (gG) (cG) (iM) (ee) (gH) (hZ) (h13:(HT gF).holds cl) (h15:(HW gG).holds cl) (h16:(oJ cG).holds cl) (h19:(H6 iM).holds cl) (h20:(uM ee).holds cl) (h24:(H8 gH).holds cl) (h37:(BN hZ).holds cl) (k:List E→Option R):exec cl N D7 [] (fun e env=>(ag d11 e env).bind k)=g11 gF gG cG iM ee gH hZ (fun r0=>k [.v .bool r0]):=by
 simp only [D7,amr gF gG cG iM ee gH hZ h13 h15 h16 h19 h20 h24 h37,ahS,ahT,aq]
 rfl
def BC (S:Option (Bool)):aO:={A:=Unit,B:=Bool,f:=11,enc:=fun a=> [],dec:=ck,S:=fun a=>S,av:=fun b=> [.v .bool b],ok:=(fun es b h=>jn h)}
def gh (N:Nat):Option (Bool):=g11 (gF N) (gG N) (cG N) (iM N) (ee N) (gH N) (hZ N) (fun (r0:Bool)=>some (r0))
def sK (k0:Bool→Option R) (k1:aA→Option R) (x0:aA) (x1:Int):Option R:=
ad (decide ((x0.length:Int) > x1)) (k0 false) (k1 x0)
theorem ap6 (x0 x1):exec cl N A6 [(0,.v bp x0),(1,.v U2 x1)] K=(sK (fun y0=>K .ret [(0,.dead),(4,.v .bool y0)]) (fun y0=>exec cl N A5 [(0,.v bp y0),(4,.dead)] K) x0 x1):=by
 delta A6
 generalize A5=q
 revert q
 refine id ?_
 intro q
 kernel_rfl
def sG (k0:aA→Int→Option R) (x0:aA):Option R:=
k0 x0 (0:Int)
theorem ap2 (x0):exec cl N PB [(0,.v bp x0),(4,.dead)] K=(sG (fun y0 y1=>K .normal (lx y0 y1)) x0):=by
 kernel_rfl
theorem Ut (x0 x1):aj [0,5] (lx x0 x1)=(lx x0 x1):=by kernel_rfl
def sH (k0:Bool→Option R) (k1:aA→Int→Option R) (k2:aA→Int→Option R) (x0:aA) (x1:Int):Option R:=
ad (decide (x1 < (x0.length:Int))) (if 0≤x1∧x1 < (x0.length:Int) then
ad (decide ((((x0.getD x1.toNat ((0:Int),((0:Int),([],())))).2.2.1).length:Int) > (40:Int))) (k0 false) (k1 x0 (IntKind.i64.wrap (x1+(1:Int))))
else none) (k2 x0 x1)
theorem ap3 (x0 x1):exec cl N GO (lx x0 x1) K=(sH (fun y0=>K .ret (IK y0)) (fun y0 y1=>K .normal (lx y0 y1)) (fun y0 y1=>K (.exit 0) (lx y0 y1)) x0 x1):=by
 kernel_rfl
def tk {R:Type} (k0:Bool→Option R) (k1:aA→Int→Option R):Nat→aA→Int→Option R
 | 0,_,_=>none
 | m+1,x0,x1=>(sH k0 (tk k0 k1 m) k1 x0 x1)
theorem afa:∀ (m) (x0 x1),iter [0,5] (fun env K=>exec cl N GO env K) K m (lx x0 x1)=tk (fun y0=>K .ret (IK y0)) (fun y0 y1=>K (.exit 0) (lx y0 y1)) m x0 x1:=by
 intro m
 induction m with
 | zero=>intros; rfl
 | succ m ih=>
   intro x0 x1
   simp only [b6,ap3,b8,b7,b9,Ut,ih]
   rfl
theorem acN (x0):aj [4] (IK x0)=[(4,.v .bool x0)]:=by kernel_rfl
theorem acO (x0 x1):aj [4] (lx x0 x1)=[(4,.dead)]:=by kernel_rfl
def sI (N:Nat) (k0:Bool→Option R) (k1:Option R) (x0:aA) (x1:Int):Option R:=
tk k0 (fun y0 y1=>k1) N x0 x1
theorem ap4 (x0 x1):exec cl N GP (lx x0 x1) K=(sI N (fun y0=>K .ret [(4,.v .bool y0)]) (K (.exit 0) [(4,.dead)]) x0 x1):=by
 simp only [GP,aT,b5,Ut,afa,acN,acO]
 rfl
theorem acP (x0):aj [4] [(4,.v .bool x0)]=[(4,.v .bool x0)]:=by kernel_rfl
theorem acQ:aj [4] [(4,.dead)]=[(4,.dead)]:=by kernel_rfl
def sJ (k0:Bool→Option R):Option R:=
k0 true
theorem ap5:exec cl N PE [(4,.dead)] K=(sJ (fun y0=>K .ret [(4,.v .bool y0)])):=by
 kernel_rfl
def sL (N:Nat) (k0:Bool→Option R) (k1:Bool→Option R) (x0:aA) (x1:Int):Option R:=
(sK k0 (sG (sI N k1 (sJ k1))) x0 x1)
theorem ap7 (x0 x1):exec cl N A6 [(0,.v bp x0),(1,.v U2 x1)] K=(sL N (fun y0=>K .ret [(0,.dead),(4,.v .bool y0)]) (fun y0=>K .ret [(4,.v .bool y0)]) x0 x1):=by
 simp only [bQ,bS,bR,bT,ap6,A5,PD,ap2,PC,aT,cj,ap4,cd,cg,cc,acP,acQ,ap5]
 rfl
theorem ajr (y0):ag d66 .ret [(0,.dead),(4,.v .bool y0)]=some [.v .bool y0]:=by kernel_rfl
theorem ajs (y0):ag d66 .ret [(4,.v .bool y0)]=some [.v .bool y0]:=by kernel_rfl
def pT (N:Nat) (x0:aA) (x1:Int) (k:Bool→Option R):Option R:=
(sL N k k x0 x1)
theorem YT (x0 x1) (k:List E→Option R):exec cl N GN [(0,.v bp x0),(1,.v U2 x1)] (fun e env=>(ag d66 e env).bind k)=pT N x0 x1 (fun r0=>k [.v .bool r0]):=by
 simp only [GN,ap7,ajr,ajs,aq]
 rfl
def rI (S:aA→Int→Option (Bool)):aO:=dP 66 bp U2 S fun b=> [.v .bool b]
def dn (N:Nat) (x0:aA) (x1:Int):Option (Bool):=pT N x0 x1 (fun (r0:Bool)=>some (r0))
def wY (k0:Bool→Option R) (k1:ae→Int→Option R) (x0:ae):Option R:=
ad (decide ((x0.1.length:Int) > (60:Int))) (k0 false) (ad (decide ((x0.2.1.length:Int) > (130:Int))) (k0 false) (k1 x0 (0:Int)))
theorem aoS (x0):exec cl N AO [(0,.v ar x0)] K=(wY (fun y0=>K .ret (u6 y0)) (fun y0 y1=>exec cl N AN [(1,.loc ar .no y0),(3,.v U2 y1)] K) x0):=by
 delta AO
 generalize AN=q
 revert q
 refine id ?_
 intro q
 kernel_rfl
def wU (k0:ae→Int→Int→Option R) (x0:ae) (x1:Int):Option R:=
k0 x0 x1 (0:Int)
theorem aoO (x0 x1):exec cl N OH [(1,.loc ar .no x0),(3,.v U2 x1)] K=(wU (fun y0 y1 y2=>K .normal (ly y0 y1 y2)) x0 x1):=by
 kernel_rfl
theorem Uk (x0 x1 x2):aj [1,3,4] (ly x0 x1 x2)=(ly x0 x1 x2):=by kernel_rfl
def wV (dn:aA→Int→Option (Bool)) (k0:Bool→Option R) (k1:ae→Int→Int→Option R) (k2:ae→Int→Int→Option R) (x0:ae) (x1 x2:Int):Option R:=
ad (decide (x2 < (x0.2.1.length:Int))) (if 0≤x2∧x2 < (x0.2.1.length:Int) then
if 0≤x2∧x2 < (x0.2.1.length:Int) then
(dn ((x0.2.1.getD x2.toNat ([],([],((0:Int),((0:Int),()))))).2.1) (6:Int)).bind fun r1505=>
ad (!r1505) (k0 false) (k1 x0 (IntKind.i64.wrap (x1+(((x0.2.1.getD x2.toNat ([],([],((0:Int),((0:Int),()))))).1).length:Int))) (IntKind.i64.wrap (x2+(1:Int))))
else none
else none) (k2 x0 x1 x2)
theorem aoP (dn) (h66:(rI dn).holds cl) (x0 x1 x2):exec cl N F3 (ly x0 x1 x2) K=(wV dn (fun y0=>K .ret (IL y0)) (fun y0 y1 y2=>K .normal (ly y0 y1 y2)) (fun y0 y1 y2=>K (.exit 0) (ly y0 y1 y2)) x0 x1 x2):=by
 rw [←aN h66]
 kernel_rfl
def ql {R:Type} (dn:aA→Int→Option (Bool)) (k0:Bool→Option R) (k1:ae→Int→Int→Option R):Nat→ae→Int→Int→Option R
 | 0,_,_,_=>none
 | m+1,x0,x1,x2=>(wV dn k0 (ql dn k0 k1 m) k1 x0 x1 x2)
theorem ae0 (dn) (h66:(rI dn).holds cl):∀ (m) (x0 x1 x2),iter [1,3,4] (fun env K=>exec cl N F3 env K) K m (ly x0 x1 x2)=ql dn (fun y0=>K .ret (IL y0)) (fun y0 y1 y2=>K (.exit 0) (ly y0 y1 y2)) m x0 x1 x2:=by
 intro m
 induction m with
 | zero=>intros; rfl
 | succ m ih=>
   intro x0 x1 x2
   simp only [b6,aoP dn h66,b8,b7,b9,Uk,ih]
   rfl
theorem ach (x0):aj [2,3] (IL x0)=(rP x0):=by kernel_rfl
theorem aci (x0 x1 x2):aj [2,3] (ly x0 x1 x2)=(iS x1):=by kernel_rfl
def wW (N:Nat) (dn:aA→Int→Option (Bool)) (k0:Bool→Option R) (k1:Int→Option R) (x0:ae) (x1 x2:Int):Option R:=
ql dn k0 (fun y0 y1 y2=>k1 y1) N x0 x1 x2
theorem aoQ (dn) (h66:(rI dn).holds cl) (x0 x1 x2):exec cl N F4 (ly x0 x1 x2) K=(wW N dn (fun y0=>K .ret (rP y0)) (fun y0=>K (.exit 0) (iS y0)) x0 x1 x2):=by
 simp only [F4,aT,b5,Uk,ae0 dn h66,ach,aci]
 rfl
theorem acj (x0):aj [2,3] (rP x0)=(rP x0):=by kernel_rfl
theorem ack (x0):aj [2,3] (iS x0)=(iS x0):=by kernel_rfl
def wX (k0:Bool→Option R) (x0:Int):Option R:=
k0 (decide (x0≤(1500:Int)))
theorem aoR (x0):exec cl N OK (iS x0) K=(wX (fun y0=>K .ret [(2,.v .bool y0)]) x0):=by
 kernel_rfl
def wZ (N:Nat) (dn:aA→Int→Option (Bool)) (k0:Bool→Option R) (k1:Bool→Option R) (k2:Bool→Option R) (x0:ae):Option R:=
(wY k0 (wU (wW N dn k1 ((wX k2)))) x0)
theorem aoT (dn) (h66:(rI dn).holds cl) (x0):exec cl N AO [(0,.v ar x0)] K=(wZ N dn (fun y0=>K .ret (u6 y0)) (fun y0=>K .ret (rP y0)) (fun y0=>K .ret [(2,.v .bool y0)]) x0):=by
 simp only [bQ,bS,bR,bT,aoS,AN,OJ,aoO,OI,aT,cj,aoQ dn h66,cd,cg,cc,acj,ack,aoR]
 rfl
theorem aiQ (y0):ag d34 .ret (u6 y0)=some [.v .bool y0]:=by kernel_rfl
theorem aiR (y0):ag d34 .ret (rP y0)=some [.v .bool y0]:=by kernel_rfl
theorem aiS (y0):ag d34 .ret [(2,.v .bool y0)]=some [.v .bool y0]:=by kernel_rfl
def sq (N:Nat) (dn:aA→Int→Option (Bool)) (x0:ae) (k:Bool→Option R):Option R:=
(wZ N dn k k k x0)
theorem YB (dn) (h66:(rI dn).holds cl) (x0) (k:List E→Option R):exec cl N F2 [(0,.v ar x0)] (fun e env=>(ag d34 e env).bind k)=sq N dn x0 (fun r0=>k [.v .bool r0]):=by
 simp only [F2,aoT dn h66,aiQ,aiR,aiS,aq]
 rfl
def H9 (S:ae→Option (Bool)):aO:=cE 34 ar S fun b=> [.v .bool b]
def hX (N:Nat) (x0:ae):Option (Bool):=sq N (dn N) x0 (fun (r0:Bool)=>some (r0))
def Jv (hX:ae→Option (Bool)) (k0:Bool→Option R) (x0:ae) (x1:V3) (x2:V0):Option R:=
(hX x0).bind fun r1511=>
ad r1511 (ad (decide ((x1.length:Int)≤(40:Int))) (k0 (decide ((x2.length:Int)≤(40:Int)))) (k0 false)) (k0 false)
theorem amP (hX) (h34:(H9 hX).holds cl) (x0 x1 x2):exec cl N Na [(0,.v ar x0),(1,.v .str x1),(2,.v U5 x2)] K=(Jv hX (fun y0=>K .ret [(6,.v .bool y0)]) x0 x1 x2):=by
 rw [←aN h34]
 kernel_rfl
theorem ah4 (y0):ag d12 .ret [(6,.v .bool y0)]=some [.v .bool y0]:=by kernel_rfl
def g12 (hX:ae→Option (Bool)) (x0:ae) (x1:V3) (x2:V0) (k:Bool→Option R):Option R:=
(Jv hX k x0 x1 x2)
theorem XY (hX) (h34:(H9 hX).holds cl) (x0 x1 x2) (k:List E→Option R):exec cl N Ev [(0,.v ar x0),(1,.v .str x1),(2,.v U5 x2)] (fun e env=>(ag d12 e env).bind k)=g12 hX x0 x1 x2 (fun r0=>k [.v .bool r0]):=by
 simp only [Ev,amP hX h34,ah4,aq]
 rfl
def HP (S:ae→V3→V0→Option (Bool)):aO:=Io 12 ar .str U5 S fun b=> [.v .bool b]
def gT (N:Nat) (x0:ae) (x1:V3) (x2:V0):Option (Bool):=g12 (hX N) x0 x1 x2 (fun (r0:Bool)=>some (r0))
def JQ (dD:ae→Option V1) (k0:Int→Option R) (x0:ae):Option R:=
(dD x0).bind fun r1518=>
k0 r1518.2
theorem aoU (dD) (h67:(rJ dD).holds cl) (x0):exec cl N OL [(0,.v ar x0)] K=(JQ dD (fun y0=>K .ret [(2,.v U2 y0)]) x0):=by
 rw [←aN h67]
 kernel_rfl
theorem aiT (y0):ag d35 .ret [(2,.v U2 y0)]=some [.v U2 y0]:=by kernel_rfl
def CA (dD:ae→Option V1) (x0:ae) (k:Int→Option R):Option R:=
(JQ dD k x0)
theorem YC (dD) (h67:(rJ dD).holds cl) (x0) (k:List E→Option R):exec cl N F5 [(0,.v ar x0)] (fun e env=>(ag d35 e env).bind k)=CA dD x0 (fun r0=>k [.v U2 r0]):=by
 simp only [F5,aoU dD h67,aiT,aq]
 rfl
def Ia (S:ae→Option (Int)):aO:=cE 35 ar S fun b=> [.v U2 b]
def hY (N:Nat) (x0:ae):Option (Int):=CA (dD N) x0 (fun (r0:Int)=>some (r0))
def vm (k0:V3→V0→Option R) (x0:V3):Option R:=
if 0≤(x0.length:Int)∧(x0.length:Int)≤(x0.length:Int)∧(x0.length:Int)≤((140737488355328:Nat):Int) then
k0 x0 (fc (x0.length:Int).toNat (0:Int))
else none
theorem alJ (x0):exec cl N zR [(0,.v .str x0)] K=(vm (fun y0 y1=>exec cl N zQ [(0,.v .str y0),(3,.own true 5 U0 .no y1)] K) x0):=by
 delta zR
 generalize zQ=q
 revert q
 refine id ?_
 intro q
 kernel_rfl
def vi (k0:V3→V0→Int→Option R) (x0:V3) (x1:V0):Option R:=
k0 x0 x1 (0:Int)
theorem alF (x0 x1):exec cl N Mo [(0,.v .str x0),(3,.own true 5 U0 .no x1)] K=(vi (fun y0 y1 y2=>K .normal (lA y0 y1 y2)) x0 x1):=by
 kernel_rfl
theorem TT (x0 x1 x2):aj [0,3,4] (lA x0 x1 x2)=(lA x0 x1 x2):=by kernel_rfl
def vj (k0:V3→V0→Int→Option R) (k1:V3→V0→Int→Option R) (x0:V3) (x1:V0) (x2:Int):Option R:=
ad (decide (x2 < (x0.length:Int))) (if 0≤x2∧x2 < (x0.length:Int) then
let v1537:Int:=((x0.getD x2.toNat 0).toNat:Int)
if 0≤x2∧x2 < (x1.length:Int) then
if x2.toNat < x1.length then
if 0≤x2∧x2 < (x0.length:Int) then
ad (decide (((x0.getD x2.toNat 0).toNat:Int)≥(65:Int))) (if 0≤x2∧x2 < (x0.length:Int) then
ad (decide (((x0.getD x2.toNat 0).toNat:Int)≤(90:Int))) (if 0≤x2∧x2 < (x0.length:Int) then
if 0≤x2∧x2 < ((x1.set x2.toNat v1537).length:Int) then
if x2.toNat < (x1.set x2.toNat v1537).length then
k0 x0 ((x1.set x2.toNat v1537).set x2.toNat (IntKind.u8.wrap ((IntKind.u8.wrap (((x0.getD x2.toNat 0).toNat:Int) - (65:Int)))+(97:Int)))) (IntKind.i64.wrap (x2+(1:Int)))
else none
else none
else none) (k0 x0 (x1.set x2.toNat v1537) (IntKind.i64.wrap (x2+(1:Int))))
else none) (k0 x0 (x1.set x2.toNat v1537) (IntKind.i64.wrap (x2+(1:Int))))
else none
else none
else none
else none) (k1 x0 x1 x2)
theorem alG (x0 x1 x2):exec cl N D9 (lA x0 x1 x2) K=(vj (fun y0 y1 y2=>K .normal (lA y0 y1 y2)) (fun y0 y1 y2=>K (.exit 0) (lA y0 y1 y2)) x0 x1 x2):=by
 kernel_rfl
def sZ {R:Type} (k0:V3→V0→Int→Option R):Nat→V3→V0→Int→Option R
 | 0,_,_,_=>none
 | m+1,x0,x1,x2=>(vj (sZ k0 m) k0 x0 x1 x2)
theorem aex:∀ (m) (x0 x1 x2),iter [0,3,4] (fun env K=>exec cl N D9 env K) K m (lA x0 x1 x2)=sZ (fun y0 y1 y2=>K (.exit 0) (lA y0 y1 y2)) m x0 x1 x2:=by
 intro m
 induction m with
 | zero=>intros; rfl
 | succ m ih=>
   intro x0 x1 x2
   simp only [b6,alG,b8,b7,b9,TT,ih]
   rfl
theorem aaS (x0 x1 x2):aj [3] (lA x0 x1 x2)=(uV x1):=by kernel_rfl
def vk (N:Nat) (k0:V0→Option R) (x0:V3) (x1:V0) (x2:Int):Option R:=
sZ (fun y0 y1 y2=>k0 y1) N x0 x1 x2
theorem alH (x0 x1 x2):exec cl N Ea (lA x0 x1 x2) K=(vk N (fun y0=>K (.exit 0) (uV y0)) x0 x1 x2):=by
 simp only [Ea,aT,b5,TT,aex,aaS]
 rfl
theorem aaT (x0):aj [3] (uV x0)=(uV x0):=by kernel_rfl
def vl (k0:V3→Option R) (x0:V0):Option R:=
k0 (x0.map fun n=>UInt8.ofNat n.toNat)
theorem alI (x0):exec cl N Mr (uV x0) K=(vl (fun y0=>K .ret [(2,.v .str y0)]) x0):=by
 kernel_rfl
def vn (N:Nat) (k0:V3→Option R) (x0:V3):Option R:=
(vm (vi (vk N ((vl k0)))) x0)
theorem alK (x0):exec cl N zR [(0,.v .str x0)] K=(vn N (fun y0=>K .ret [(2,.v .str y0)]) x0):=by
 simp only [bQ,bS,bR,bT,alJ,zQ,Mq,alF,Mp,aT,cj,alH,cd,cg,cc,aaT,alI]
 rfl
theorem ahD (y0):ag d110 .ret [(2,.v .str y0)]=some [.v .str y0]:=by kernel_rfl
def r8 (N:Nat) (x0:V3) (k:V3→Option R):Option R:=
(vn N k x0)
theorem XQ (x0) (k:List E→Option R):exec cl N D8 [(0,.v .str x0)] (fun e env=>(ag d110 e env).bind k)=r8 N x0 (fun r0=>k [.v .str r0]):=by
 simp only [D8,alK,ahD,aq]
 rfl
def BD (S:V3→Option V7):aO:=cE 110 .str S fun b=> [.v .str b]
def fr (N:Nat) (x0:V3):Option V7:=r8 N x0 (fun (r0:V3)=>some (r0))
def yb (fr:V3→Option V7) (k0:Int→Option R) (k1:V3→Option R) (x0:V3):Option R:=
ad (x0==([]:List UInt8)) (k0 (7:Int)) (ad (decide ((x0.length:Int) > (16:Int))) (k0 (3:Int)) ((fr x0).bind fun r1556=>
ad (r1556 != x0) (k0 (2:Int)) (k1 x0)))
theorem aqS (fr) (h110:(BD fr).holds cl) (x0):exec cl N Bj [(0,.v .str x0)] K=(yb fr (fun y0=>K .ret (gM y0)) (fun y0=>exec cl N Bi (rR y0) K) x0):=by
 rw [←aN h110]
 delta Bj
 generalize Bi=q
 revert q
 refine id ?_
 intro q
 kernel_rfl
def xX (k0:V3→Int→Option R) (x0:V3):Option R:=
k0 x0 (0:Int)
theorem aqO (x0):exec cl N Qe (rR x0) K=(xX (fun y0 y1=>K .normal (cm y0 y1)) x0):=by
 kernel_rfl
theorem UA (x0 x1):aj [0,3] (cm x0 x1)=(cm x0 x1):=by kernel_rfl
def xY (bu:Int→Option (Bool)) (k0:Int→Option R) (k1:V3→Int→Option R) (k2:V3→Int→Option R) (x0:V3) (x1:Int):Option R:=
ad (decide (x1 < (x0.length:Int))) (if 0≤x1∧x1 < (x0.length:Int) then
(bu ((x0.getD x1.toNat 0).toNat:Int)).bind fun r1559=>
ad (!r1559) (k0 (2:Int)) (k1 x0 (IntKind.i64.wrap (x1+(1:Int))))
else none) (k2 x0 x1)
theorem aqP (bu) (h111:(ky bu).holds cl) (x0 x1):exec cl N Hf (cm x0 x1) K=(xY bu (fun y0=>K .ret (mM y0)) (fun y0 y1=>K .normal (cm y0 y1)) (fun y0 y1=>K (.exit 0) (cm y0 y1)) x0 x1):=by
 rw [←aN h111]
 kernel_rfl
def tn {R:Type} (bu:Int→Option (Bool)) (k0:Int→Option R) (k1:V3→Int→Option R):Nat→V3→Int→Option R
 | 0,_,_=>none
 | m+1,x0,x1=>(xY bu k0 (tn bu k0 k1 m) k1 x0 x1)
theorem afh (bu) (h111:(ky bu).holds cl):∀ (m) (x0 x1),iter [0,3] (fun env K=>exec cl N Hf env K) K m (cm x0 x1)=tn bu (fun y0=>K .ret (mM y0)) (fun y0 y1=>K (.exit 0) (cm y0 y1)) m x0 x1:=by
 intro m
 induction m with
 | zero=>intros; rfl
 | succ m ih=>
   intro x0 x1
   simp only [b6,aqP bu h111,b8,b7,b9,UA,ih]
   rfl
theorem adf (x0):aj [2] (mM x0)=[(2,.v U2 x0)]:=by kernel_rfl
theorem adg (x0 x1):aj [2] (cm x0 x1)=[(2,.dead)]:=by kernel_rfl
def xZ (N:Nat) (bu:Int→Option (Bool)) (k0:Int→Option R) (k1:Option R) (x0:V3) (x1:Int):Option R:=
tn bu k0 (fun y0 y1=>k1) N x0 x1
theorem aqQ (bu) (h111:(ky bu).holds cl) (x0 x1):exec cl N Hg (cm x0 x1) K=(xZ N bu (fun y0=>K .ret [(2,.v U2 y0)]) (K (.exit 0) [(2,.dead)]) x0 x1):=by
 simp only [Hg,aT,b5,UA,afh bu h111,adf,adg]
 rfl
theorem adh (x0):aj [2] [(2,.v U2 x0)]=[(2,.v U2 x0)]:=by kernel_rfl
theorem adi:aj [2] [(2,.dead)]=[(2,.dead)]:=by kernel_rfl
def ya (k0:Int→Option R):Option R:=
k0 (0:Int)
theorem aqR:exec cl N Qh [(2,.dead)] K=(ya (fun y0=>K .ret [(2,.v U2 y0)])):=by
 kernel_rfl
def yc (N:Nat) (fr:V3→Option V7) (bu:Int→Option (Bool)) (k0:Int→Option R) (k1:Int→Option R) (x0:V3):Option R:=
(yb fr k0 (xX (xZ N bu k1 (ya k1))) x0)
theorem aqT (fr) (bu) (h110:(BD fr).holds cl) (h111:(ky bu).holds cl) (x0):exec cl N Bj [(0,.v .str x0)] K=(yc N fr bu (fun y0=>K .ret (gM y0)) (fun y0=>K .ret [(2,.v U2 y0)]) x0):=by
 simp only [bQ,bS,bR,bT,aqS fr h110,Bi,Qg,aqO,Qf,aT,cj,aqQ bu h111,cd,cg,cc,adh,adi,aqR]
 rfl
theorem ajI (y0):ag d78 .ret (gM y0)=some [.v U2 y0]:=by kernel_rfl
theorem ajJ (y0):ag d78 .ret [(2,.v U2 y0)]=some [.v U2 y0]:=by kernel_rfl
def sP (N:Nat) (fr:V3→Option V7) (bu:Int→Option (Bool)) (x0:V3) (k:Int→Option R):Option R:=
(yc N fr bu k k x0)
theorem Y0 (fr) (bu) (h110:(BD fr).holds cl) (h111:(ky bu).holds cl) (x0) (k:List E→Option R):exec cl N He [(0,.v .str x0)] (fun e env=>(ag d78 e env).bind k)=sP N fr bu x0 (fun r0=>k [.v U2 r0]):=by
 simp only [He,aqT fr bu h110 h111,ajI,ajJ,aq]
 rfl
def Ik (S:V3→Option (Int)):aO:=cE 78 .str S fun b=> [.v U2 b]
def iN (N:Nat) (x0:V3):Option (Int):=sP N (fr N) (bu N) x0 (fun (r0:Int)=>some (r0))
def JV (hY:ae→Option (Int)) (iN:V3→Option (Int)) (k0:Int→Option R) (k1:Int→Option R) (x0:ae) (x1:V3):Option R:=
(hY x0).bind fun r1562=>
ad (r1562 != (0:Int)) (k0 r1562) ((iN x1).bind fun r1564=>
k1 r1564)
theorem apA (hY) (iN) (h35:(Ia hY).holds cl) (h78:(Ik iN).holds cl) (x0 x1):exec cl N Pd (gy x0 x1) K=(JV hY iN (fun y0=>K .ret (BX y0)) (fun y0=>K .ret [(4,.v U2 y0)]) x0 x1):=by
 rw [←aN h35]
 rw [←aN h78]
 kernel_rfl
theorem aja (y0):ag d48 .ret (BX y0)=some [.v U2 y0]:=by kernel_rfl
theorem ajb (y0):ag d48 .ret [(4,.v U2 y0)]=some [.v U2 y0]:=by kernel_rfl
def CE (hY:ae→Option (Int)) (iN:V3→Option (Int)) (x0:ae) (x1:V3) (k:Int→Option R):Option R:=
(JV hY iN k k x0 x1)
theorem YM (hY) (iN) (h35:(Ia hY).holds cl) (h78:(Ik iN).holds cl) (x0 x1) (k:List E→Option R):exec cl N Gx (gy x0 x1) (fun e env=>(ag d48 e env).bind k)=CE hY iN x0 x1 (fun r0=>k [.v U2 r0]):=by
 simp only [Gx,apA hY iN h35 h78,aja,ajb,aq]
 rfl
def BO (S:ae→V3→Option (Int)):aO:=dP 48 ar .str S fun b=> [.v U2 b]
def fx (N:Nat) (x0:ae) (x1:V3):Option (Int):=CE (hY N) (iN N) x0 x1 (fun (r0:Int)=>some (r0))
def xx (k0:V3→Int→ae→V0→Option R) (x0:ae) (x1:V3) (x2:Int):Option R:=
k0 x1 x2 x0 []
theorem apF (x0 x1 x2):exec cl N A0 (IM x0 x1 x2) K=(xx (fun y0 y1 y2 y3=>exec cl N AZ (Rn y0 y1 y2 y3) K) x0 x1 x2):=by
 delta A0
 generalize AZ=q
 revert q
 refine id ?_
 intro q
 kernel_rfl
def xp (k0:V3→Int→ae→V0→Int→Option R) (x0:V3) (x1:Int) (x2:ae) (x3:V0):Option R:=
k0 x0 x1 x2 x3 (0:Int)
theorem apB (x0 x1 x2 x3):exec cl N Pe (Rn x0 x1 x2 x3) K=(xp (fun y0 y1 y2 y3 y4=>K .normal (lB y0 y1 y2 y3 y4)) x0 x1 x2 x3):=by
 kernel_rfl
theorem Uq (x0 x1 x2 x3 x4):aj [1,2,3,7,8] (lB x0 x1 x2 x3 x4)=(lB x0 x1 x2 x3 x4):=by kernel_rfl
def xr (k0:V3→Int→ae→V0→Int→Option R) (k1:V3→Int→ae→V0→Int→Option R) (x0:V3) (x1:Int) (x2:ae) (x3:V0) (x4:Int):Option R:=
ad (decide (x4 < (x2.2.1.length:Int))) (if 0≤x4∧x4 < (x2.2.1.length:Int) then
ad (decide ((IntKind.i64.wrap (x1+(((x2.2.1.getD x4.toNat ([],([],((0:Int),((0:Int),()))))).1).length:Int)))≤(x0.length:Int))) (let v1582:Int:=(IntKind.i64.wrap (x1+(((x2.2.1.getD x4.toNat ([],([],((0:Int),((0:Int),()))))).1).length:Int)))
if 0≤x1∧x1≤v1582∧v1582≤(x0.length:Int) then
if 0≤x4∧x4 < (x2.2.1.length:Int) then
ad (((x0.drop x1.toNat).take (v1582.toNat - x1.toNat))==(x2.2.1.getD x4.toNat ([],([],((0:Int),((0:Int),()))))).1) (if x3.length+[x4].length≤17592186044416 then
k0 x0 x1 x2 (x3++[x4]) (IntKind.i64.wrap (x4+(1:Int)))
else none) (k0 x0 x1 x2 x3 (IntKind.i64.wrap (x4+(1:Int))))
else none
else none) (k0 x0 x1 x2 x3 (IntKind.i64.wrap (x4+(1:Int))))
else none) (k1 x0 x1 x2 x3 x4)
theorem apC (x0 x1 x2 x3 x4):exec cl N Gz (lB x0 x1 x2 x3 x4) K=(xr (fun y0 y1 y2 y3 y4=>K .normal (lB y0 y1 y2 y3 y4)) (fun y0 y1 y2 y3 y4=>K (.exit 0) (lB y0 y1 y2 y3 y4)) x0 x1 x2 x3 x4):=by
 kernel_rfl
def qm {R:Type} (k0:V3→Int→ae→V0→Int→Option R):Nat→V3→Int→ae→V0→Int→Option R
 | 0,_,_,_,_,_=>none
 | m+1,x0,x1,x2,x3,x4=>(xr (qm k0 m) k0 x0 x1 x2 x3 x4)
theorem ae7:∀ (m) (x0 x1 x2 x3 x4),iter [1,2,3,7,8] (fun env K=>exec cl N Gz env K) K m (lB x0 x1 x2 x3 x4)=qm (fun y0 y1 y2 y3 y4=>K (.exit 0) (lB y0 y1 y2 y3 y4)) m x0 x1 x2 x3 x4:=by
 intro m
 induction m with
 | zero=>intros; rfl
 | succ m ih=>
   intro x0 x1 x2 x3 x4
   simp only [b6,apC,b8,b7,b9,Uq,ih]
   rfl
theorem acD (x0 x1 x2 x3 x4):aj [7] (lB x0 x1 x2 x3 x4)=(lp x3):=by kernel_rfl
def xu (N:Nat) (k0:V0→Option R) (x0:V3) (x1:Int) (x2:ae) (x3:V0) (x4:Int):Option R:=
qm (fun y0 y1 y2 y3 y4=>k0 y3) N x0 x1 x2 x3 x4
theorem apD (x0 x1 x2 x3 x4):exec cl N GA (lB x0 x1 x2 x3 x4) K=(xu N (fun y0=>K (.exit 0) (lp y0)) x0 x1 x2 x3 x4):=by
 simp only [GA,aT,b5,Uq,ae7,acD]
 rfl
theorem acE (x0):aj [7] (lp x0)=(lp x0):=by kernel_rfl
def xw (k0:V0→Option R) (x0:V0):Option R:=
k0 x0
theorem apE (x0):exec cl N Ph (lp x0) K=(xw (fun y0=>K .ret (IN y0)) x0):=by
 kernel_rfl
def xy (N:Nat) (k0:V0→Option R) (x0:ae) (x1:V3) (x2:Int):Option R:=
(xx (xp (xu N ((xw k0)))) x0 x1 x2)
theorem apG (x0 x1 x2):exec cl N A0 (IM x0 x1 x2) K=(xy N (fun y0=>K .ret (IN y0)) x0 x1 x2):=by
 simp only [bQ,bS,bR,bT,apF,AZ,Pg,apB,Pf,aT,cj,apD,cd,cg,cc,acE,apE]
 rfl
theorem ajc (y0):ag d50 .ret (IN y0)=some [.own true 3 U2 .no y0]:=by kernel_rfl
def sC (N:Nat) (x0:ae) (x1:V3) (x2:Int) (k:V0→Option R):Option R:=
(xy N k x0 x1 x2)
theorem YO (x0 x1 x2) (k:List E→Option R):exec cl N Gy (IM x0 x1 x2) (fun e env=>(ag d50 e env).bind k)=sC N x0 x1 x2 (fun r0=>k [.own true 3 U2 .no r0]):=by
 simp only [Gy,apG,ajc,aq]
 rfl
def ny (S:ae→V3→Int→Option V6):aO:=Io 50 ar .str U2 S fun b=> [.own true 3 U2 .no b]
def cw (N:Nat) (x0:ae) (x1:V3) (x2:Int):Option V6:=sC N x0 x1 x2 (fun (r0:V0)=>some (r0))
def pw (fx:ae→V3→Option (Int)) (k0:Int→Int→Option R) (k1:V3→ae→V2→Int→Option R) (x0:ae) (x1:V3):Option R:=
(fx x0 x1).bind fun r1594=>
ad (r1594 != (0:Int)) (k0 (0:Int) r1594) (let v1596:Int:=(IntKind.i64.wrap ((x1.length:Int)+(1:Int)))
if 0≤v1596∧v1596≤v1596∧v1596≤((140737488355328:Nat):Int) then
if 0≤(0:Int)∧(0:Int) < ((fc v1596.toNat false).length:Int) then
if ((0:Int).toNat) < (fc v1596.toNat false).length then
k1 x1 x0 ((fc v1596.toNat false).set ((0:Int).toNat) true) (0:Int)
else none
else none
else none)
theorem aom (fx) (h48:(BO fx).holds cl) (x0 x1):exec cl N AE (gy x0 x1) K=(pw fx (fun y0 y1=>K .ret (rO y0 y1)) (fun y0 y1 y2 y3=>exec cl N AD (BZ y0 y1 y2 y3) K) x0 x1):=by
 rw [←aN h48]
 delta AE
 generalize AD=q
 revert q
 refine id ?_
 intro q
 kernel_rfl
def pq (k0:V3→ae→V2→Int→Int→Option R) (x0:V3) (x1:ae) (x2:V2) (x3:Int):Option R:=
k0 x0 x1 x2 x3 (0:Int)
theorem aoj (x0 x1 x2 x3):exec cl N Og (BZ x0 x1 x2 x3) K=(pq (fun y0 y1 y2 y3 y4=>K .normal (fL y0 y1 y2 y3 y4)) x0 x1 x2 x3):=by
 kernel_rfl
theorem KI (x0 x1 x2 x3 x4):aj [1,2,7,8,9] (fL x0 x1 x2 x3 x4)=(fL x0 x1 x2 x3 x4):=by kernel_rfl
def pC (k0:V3→ae→V2→Int→Int→Option R) (k1:V3→ae→V2→Int→Int→Option R) (x0:V3) (x1:ae) (x2:V2) (x3 x4:Int):Option R:=
ad (decide (x4≤(x0.length:Int))) (k0 x0 x1 x2 x3 x4) (k1 x0 x1 x2 x3 x4)
theorem aos (x0 x1 x2 x3 x4):exec cl N uB (fL x0 x1 x2 x3 x4) K=(pC (fun y0 y1 y2 y3 y4=>exec cl N AG (fL y0 y1 y2 y3 y4) K) (fun y0 y1 y2 y3 y4=>K (.exit 0) (fL y0 y1 y2 y3 y4)) x0 x1 x2 x3 x4):=by
 delta uB
 generalize AG=q
 revert q
 refine id ?_
 intro q
 kernel_rfl
def pz (cw:ae→V3→Int→Option V6) (k0:V3→ae→V2→Int→Int→Option R) (k1:V3→ae→V2→Int→Int→V0→Int→Option R) (x0:V3) (x1:ae) (x2:V2) (x3 x4:Int):Option R:=
if 0≤x4∧x4 < (x2.length:Int) then
if x4.toNat < x2.length then
ad (!(x2.getD x4.toNat false)) (k0 x0 x1 x2 x3 x4) ((cw x1 x0 x4).bind fun r1599=>
k1 x0 x1 x2 x4 x4 r1599 (0:Int))
else none
else none
theorem aop (cw) (h50:(ny cw).holds cl) (x0 x1 x2 x3 x4):exec cl N FR (fL x0 x1 x2 x3 x4) K=(pz cw (fun y0 y1 y2 y3 y4=>K (.exit 1) (fL y0 y1 y2 y3 y4)) (fun y0 y1 y2 y3 y4 y5 y6=>exec cl N AF (lC y0 y1 y2 y3 y4 y5 y6) K) x0 x1 x2 x3 x4):=by
 rw [←aN h50]
 delta FR
 generalize AF=q
 revert q
 refine id ?_
 intro q
 kernel_rfl
theorem Uh (x0 x1 x2 x3 x4 x5 x6):aj [1,2,7,8,9,10,11] (lC x0 x1 x2 x3 x4 x5 x6)=(lC x0 x1 x2 x3 x4 x5 x6):=by kernel_rfl
def pt (k0:V3→ae→V2→Int→Int→V0→Int→Option R) (k1:V3→ae→V2→Int→Int→V0→Int→Option R) (x0:V3) (x1:ae) (x2:V2) (x3 x4:Int) (x5:V0) (x6:Int):Option R:=
ad (decide (x6 < (x5.length:Int))) (if 0≤x6∧x6 < (x5.length:Int) then
if x6.toNat < x5.length then
let v1601:Int:=(x5.getD x6.toNat (0:Int))
if 0≤v1601∧v1601 < (x1.2.1.length:Int) then
let v1602:Int:=(IntKind.i64.wrap (x4+(((x1.2.1.getD v1601.toNat ([],([],((0:Int),((0:Int),()))))).1).length:Int)))
if 0≤v1602∧v1602 < (x2.length:Int) then
if v1602.toNat < x2.length then
k0 x0 x1 (x2.set v1602.toNat true) x3 x4 x5 (IntKind.i64.wrap (x6+(1:Int)))
else none
else none
else none
else none
else none) (k1 x0 x1 x2 x3 x4 x5 x6)
theorem aok (x0 x1 x2 x3 x4 x5 x6):exec cl N FP (lC x0 x1 x2 x3 x4 x5 x6) K=(pt (fun y0 y1 y2 y3 y4 y5 y6=>K .normal (lC y0 y1 y2 y3 y4 y5 y6)) (fun y0 y1 y2 y3 y4 y5 y6=>K (.exit 2) (lC y0 y1 y2 y3 y4 y5 y6)) x0 x1 x2 x3 x4 x5 x6):=by
 kernel_rfl
def tc {R:Type} (k0:V3→ae→V2→Int→Int→V0→Int→Option R):Nat→V3→ae→V2→Int→Int→V0→Int→Option R
 | 0,_,_,_,_,_,_,_=>none
 | m+1,x0,x1,x2,x3,x4,x5,x6=>(pt (tc k0 m) k0 x0 x1 x2 x3 x4 x5 x6)
theorem aeU:∀ (m) (x0 x1 x2 x3 x4 x5 x6),iter [1,2,7,8,9,10,11] (fun env K=>exec cl N FP env K) K m (lC x0 x1 x2 x3 x4 x5 x6)=tc (fun y0 y1 y2 y3 y4 y5 y6=>K (.exit 2) (lC y0 y1 y2 y3 y4 y5 y6)) m x0 x1 x2 x3 x4 x5 x6:=by
 intro m
 induction m with
 | zero=>intros; rfl
 | succ m ih=>
   intro x0 x1 x2 x3 x4 x5 x6
   simp only [b6,aok,b8,b7,b9,Uh,ih]
   rfl
theorem ab5 (x0 x1 x2 x3 x4 x5 x6):aj [1,2,7,8,9] (lC x0 x1 x2 x3 x4 x5 x6)=(fL x0 x1 x2 x3 x4):=by kernel_rfl
def py (N:Nat) (k0:V3→ae→V2→Int→Int→Option R) (x0:V3) (x1:ae) (x2:V2) (x3 x4:Int) (x5:V0) (x6:Int):Option R:=
tc (fun y0 y1 y2 y3 y4 y5 y6=>k0 y0 y1 y2 y3 y4) N x0 x1 x2 x3 x4 x5 x6
theorem aoo (x0 x1 x2 x3 x4 x5 x6):exec cl N FQ (lC x0 x1 x2 x3 x4 x5 x6) K=(py N (fun y0 y1 y2 y3 y4=>K (.exit 2) (fL y0 y1 y2 y3 y4)) x0 x1 x2 x3 x4 x5 x6):=by
 simp only [FQ,aT,b5,Uh,aeU,ab5]
 rfl
def pA (N:Nat) (cw:ae→V3→Int→Option V6) (k0:V3→ae→V2→Int→Int→Option R) (x0:V3) (x1:ae) (x2:V2) (x3 x4:Int):Option R:=
(pz cw k0 (py N k0) x0 x1 x2 x3 x4)
theorem aoq (cw) (h50:(ny cw).holds cl) (x0 x1 x2 x3 x4):exec cl N FT (fL x0 x1 x2 x3 x4) K=(pA N cw (fun y0 y1 y2 y3 y4=>K .normal (fL y0 y1 y2 y3 y4)) x0 x1 x2 x3 x4):=by
 simp only [FT,aT,cj,bQ,bS,bR,bT,aop cw h50,AF,aoo,cd,cg,cc,KI]
 rfl
def pB (k0:V3→ae→V2→Int→Int→Option R) (x0:V3) (x1:ae) (x2:V2) (x3 x4:Int):Option R:=
k0 x0 x1 x2 x3 (IntKind.i64.wrap (x4+(1:Int)))
theorem aor (x0 x1 x2 x3 x4):exec cl N Ol (fL x0 x1 x2 x3 x4) K=(pB (fun y0 y1 y2 y3 y4=>K .normal (fL y0 y1 y2 y3 y4)) x0 x1 x2 x3 x4):=by
 kernel_rfl
def pD (N:Nat) (cw:ae→V3→Int→Option V6) (k0:V3→ae→V2→Int→Int→Option R) (k1:V3→ae→V2→Int→Int→Option R) (x0:V3) (x1:ae) (x2:V2) (x3 x4:Int):Option R:=
(pC (pA N cw (pB k0)) k1 x0 x1 x2 x3 x4)
theorem aot (cw) (h50:(ny cw).holds cl) (x0 x1 x2 x3 x4):exec cl N uB (fL x0 x1 x2 x3 x4) K=(pD N cw (fun y0 y1 y2 y3 y4=>K .normal (fL y0 y1 y2 y3 y4)) (fun y0 y1 y2 y3 y4=>K (.exit 0) (fL y0 y1 y2 y3 y4)) x0 x1 x2 x3 x4):=by
 simp only [bQ,bS,bR,bT,aos,AG,aoq cw h50,aor]
 rfl
def qj {R:Type} (N:Nat) (cw:ae→V3→Int→Option V6) (k0:V3→ae→V2→Int→Int→Option R):Nat→V3→ae→V2→Int→Int→Option R
 | 0,_,_,_,_,_=>none
 | m+1,x0,x1,x2,x3,x4=>(pD N cw (qj N cw k0 m) k0 x0 x1 x2 x3 x4)
theorem aeV (cw) (h50:(ny cw).holds cl):∀ (m) (x0 x1 x2 x3 x4),iter [1,2,7,8,9] (fun env K=>exec cl N uB env K) K m (fL x0 x1 x2 x3 x4)=qj N cw (fun y0 y1 y2 y3 y4=>K (.exit 0) (fL y0 y1 y2 y3 y4)) m x0 x1 x2 x3 x4:=by
 intro m
 induction m with
 | zero=>intros; rfl
 | succ m ih=>
   intro x0 x1 x2 x3 x4
   simp only [b6,aot cw h50,b8,b7,b9,KI,ih]
   rfl
theorem ab6 (x0 x1 x2 x3 x4):aj [8] (fL x0 x1 x2 x3 x4)=[(8,.v U2 x3)]:=by kernel_rfl
def pE (N:Nat) (cw:ae→V3→Int→Option V6) (k0:Int→Option R) (x0:V3) (x1:ae) (x2:V2) (x3 x4:Int):Option R:=
qj N cw (fun y0 y1 y2 y3 y4=>k0 y3) N x0 x1 x2 x3 x4
theorem aou (cw) (h50:(ny cw).holds cl) (x0 x1 x2 x3 x4):exec cl N FU (fL x0 x1 x2 x3 x4) K=(pE N cw (fun y0=>K (.exit 0) [(8,.v U2 y0)]) x0 x1 x2 x3 x4):=by
 simp only [FU,aT,b5,KI,aeV cw h50,ab6]
 rfl
theorem ab7 (x0):aj [8] [(8,.v U2 x0)]=[(8,.v U2 x0)]:=by kernel_rfl
def pv (k0:Int→Int→Option R) (x0:Int):Option R:=
k0 x0 (0:Int)
theorem aol (x0):exec cl N Oj [(8,.v U2 x0)] K=(pv (fun y0 y1=>K .ret (nA y0 y1)) x0):=by
 kernel_rfl
def px (N:Nat) (fx:ae→V3→Option (Int)) (cw:ae→V3→Int→Option V6) (k0:Int→Int→Option R) (k1:Int→Int→Option R) (x0:ae) (x1:V3):Option R:=
(pw fx k0 (pq (pE N cw ((pv k1)))) x0 x1)
theorem aon (fx) (cw) (h48:(BO fx).holds cl) (h50:(ny cw).holds cl) (x0 x1):exec cl N AE (gy x0 x1) K=(px N fx cw (fun y0 y1=>K .ret (rO y0 y1)) (fun y0 y1=>K .ret (nA y0 y1)) x0 x1):=by
 simp only [bQ,bS,bR,bT,aom fx h48,AD,Oi,aoj,Oh,aT,cj,aou cw h50,cd,cg,cc,ab7,aol]
 rfl
theorem aiK (y0 y1):ag d21 .ret (rO y0 y1)=some [.v U2 y0,.v U2 y1]:=by kernel_rfl
theorem aiL (y0 y1):ag d21 .ret (nA y0 y1)=some [.v U2 y0,.v U2 y1]:=by kernel_rfl
def g21 (N:Nat) (fx:ae→V3→Option (Int)) (cw:ae→V3→Int→Option V6) (x0:ae) (x1:V3) (k:Int→Int→Option R):Option R:=
(px N fx cw k k x0 x1)
theorem Yy (fx) (cw) (h48:(BO fx).holds cl) (h50:(ny cw).holds cl) (x0 x1) (k:List E→Option R):exec cl N FO (gy x0 x1) (fun e env=>(ag d21 e env).bind k)=g21 N fx cw x0 x1 (fun r0 r1=>k [.v U2 r0,.v U2 r1]):=by
 simp only [FO,aon fx cw h48 h50,aiK,aiL,aq]
 rfl
def H7 (S:ae→V3→Option V1):aO:=dP 21 ar .str S fun b=> [.v U2 b.1,.v U2 b.2]
def hR (N:Nat) (x0:ae) (x1:V3):Option V1:=g21 N (fx N) (cw N) x0 x1 (fun (r0:Int) (r1:Int)=>some (r0,r1))
def JP (cG:ae→V3→Option ni) (k0:Int→Int→Option R) (x0:ae) (x1:V3):Option R:=
(cG x0 x1).bind fun r1609=>
k0 (r1609.1.length:Int) r1609.2
theorem an0 (cG) (h16:(oJ cG).holds cl) (x0 x1):exec cl N N5 (gy x0 x1) K=(JP cG (fun y0 y1=>K .ret (nA y0 y1)) x0 x1):=by
 rw [←aN h16]
 kernel_rfl
theorem aiF (y0 y1):ag d18 .ret (nA y0 y1)=some [.v U2 y0,.v U2 y1]:=by kernel_rfl
def g18 (cG:ae→V3→Option ni) (x0:ae) (x1:V3) (k:Int→Int→Option R):Option R:=
(JP cG k x0 x1)
theorem Yv (cG) (h16:(oJ cG).holds cl) (x0 x1) (k:List E→Option R):exec cl N FE (gy x0 x1) (fun e env=>(ag d18 e env).bind k)=g18 cG x0 x1 (fun r0 r1=>k [.v U2 r0,.v U2 r1]):=by
 simp only [FE,an0 cG h16,aiF,aq]
 rfl
def H5 (S:ae→V3→Option V1):aO:=dP 18 ar .str S fun b=> [.v U2 b.1,.v U2 b.2]
def hQ (N:Nat) (x0:ae) (x1:V3):Option V1:=g18 (cG N) x0 x1 (fun (r0:Int) (r1:Int)=>some (r0,r1))
def J0 (gh:Option (Bool)) (gT:ae→V3→V0→Option (Bool)) (hQ:ae→V3→Option V1) (ee:ae→V3→Option V1) (hR:ae→V3→Option V1) (k0:Bool→Option R) (k1:Bool→Option R) (k2:Bool→Option R) (x0:ae) (x1:V3):Option R:=
(gh).bind fun r1617=>
ad (!r1617) ((gh).bind fun r1618=>
k0 r1618) ((gT x0 x1 []).bind fun r1619=>
ad (!r1619) ((gh).bind fun r1620=>
k0 r1620) ((ee x0 x1).bind fun r1621=>
(hR x0 x1).bind fun r1622=>
ad (r1621.2 != r1622.2) (k1 false) (ad (r1621.1 != r1622.1) (k1 false) ((hQ x0 x1).bind fun r1625=>
ad (r1625.2 != (0:Int)) (ad (r1625.2 != (3:Int)) (k2 true) (ad (r1621.2 != (0:Int)) (k2 true) (k2 (r1621.1==(x1.length:Int))))) (ad (r1621.2 != (0:Int)) (k2 true) (k2 (r1621.1==(x1.length:Int))))))))
theorem apW (gh) (gT) (hQ) (ee) (hR) (h11:(BC gh).holds cl) (h12:(HP gT).holds cl) (h18:(H5 hQ).holds cl) (h20:(uM ee).holds cl) (h21:(H7 hR).holds cl) (x0 x1):exec cl N Pu (gy x0 x1) K=(J0 gh gT hQ ee hR (fun y0=>K .ret [(1,.dead),(2,.dead),(4,.v .bool y0)]) (fun y0=>K .ret (Ro y0)) (fun y0=>K .ret [(4,.v .bool y0)]) x0 x1):=by
 rw [←aN h11]
 rw [←aN h12]
 rw [←aN h18]
 rw [←aN h20]
 rw [←aN h21]
 kernel_rfl
theorem ajm (y0):ag d5 .ret [(1,.dead),(2,.dead),(4,.v .bool y0)]=some [.v .bool y0]:=by kernel_rfl
theorem ajn (y0):ag d5 .ret (Ro y0)=some [.v .bool y0]:=by kernel_rfl
theorem ajo (y0):ag d5 .ret [(4,.v .bool y0)]=some [.v .bool y0]:=by kernel_rfl
def g5 (gh:Option (Bool)) (gT:ae→V3→V0→Option (Bool)) (hQ:ae→V3→Option V1) (ee:ae→V3→Option V1) (hR:ae→V3→Option V1) (x0:ae) (x1:V3) (k:Bool→Option R):Option R:=
(J0 gh gT hQ ee hR k k k x0 x1)
theorem YN (gh) (gT) (hQ) (ee) (hR) (h11:(BC gh).holds cl) (h12:(HP gT).holds cl) (h18:(H5 hQ).holds cl) (h20:(uM ee).holds cl) (h21:(H7 hR).holds cl) (x0 x1) (k:List E→Option R):exec cl N c5 (gy x0 x1) (fun e env=>(ag d5 e env).bind k)=g5 gh gT hQ ee hR x0 x1 (fun r0=>k [.v .bool r0]):=by
 simp only [c5,apW gh gT hQ ee hR h11 h12 h18 h20 h21,ajm,ajn,ajo,aq]
 rfl
def asM (S:ae→V3→Option (Bool)):aO:=dP 5 ar .str S fun b=> [.v .bool b]
def S5 (N:Nat) (x0:ae) (x1:V3):Option (Bool):=g5 (gh N) (gT N) (hQ N) (ee N) (hR N) x0 x1 (fun (r0:Bool)=>some (r0))
end Go.Fw.L19
