/- Own work. -/
import Derived.Test.YtooiookccchmeaaGreatFwMx13a
import Derived.Test.YtooiookccchmeaaGreatFwB4
set_option linter.unusedVariables false
set_option linter.unusedSimpArgs false
open Int renaming tmod → mL
open List renaming replicate → ka
open Option renaming bind_some → ar
namespace Go.Fw.L19
open Go Go.Fw
set_option maxRecDepth 100000
variable {N:Nat} {cl:az} {R:Type} {K:KE R}
def JV (k0:V4→Option R) (k1:aG→V4→Int→Option R) (x0:aG) (x1:V4):Option R:=
ad ((x0.length:Int)==(0:Int)) (k0 ([]:List UInt8)) (ad ((x0.length:Int)==(1:Int)) (if 0≤(0:Int)∧(0:Int) < (x0.length:Int) then
k0 (x0.getD (0:Int).toNat [])
else none) (ad (decide ((x1.length:Int) > (0:Int))) (let v1110:Int:=(IntKind.i64.wrap ((x0.length:Int) - (1:Int)))
if v1110=0 then none else
ad (decide ((x1.length:Int)≥(IntKind.i64.wrap (Int.tdiv (9223372036854775807:Int) v1110)))) (none /- operation makeInterface -/) (k1 x0 x1 (IntKind.i64.wrap ((0:Int)+(IntKind.i64.wrap ((x1.length:Int) * (IntKind.i64.wrap ((x0.length:Int) - (1:Int))))))))) (k1 x0 x1 (0:Int))))
theorem aq3 (x0 x1):exec cl N Bg [(0,.v U1 x0),(1,.v .str x1)] K=(JV (fun y0=>K .ret (IF y0)) (fun y0 y1 y2=>exec cl N Bf (pF y0 y1 y2) K) x0 x1):=by
 delta Bg
 generalize Bf=q
 revert q
 refine id ?_
 intro q
 kernel_rfl
def JR (k0:aG→V4→Int→aG→Int→Int→Option R) (x0:aG) (x1:V4) (x2:Int):Option R:=
k0 x0 x1 x2 x0 (x0.length:Int) (0:Int)
theorem aqZ (x0 x1 x2):exec cl N Qq (pF x0 x1 x2) K=(JR (fun y0 y1 y2 y3 y4 y5=>K .normal (mi y0 y1 y2 y3 y4 y5)) x0 x1 x2):=by
 kernel_rfl
theorem Uy (x0 x1 x2 x3 x4 x5):aj [0,1,5,39,40,41] (mi x0 x1 x2 x3 x4 x5)=(mi x0 x1 x2 x3 x4 x5):=by kernel_rfl
def JS (k0:aG→V4→Int→aG→Int→Int→Option R) (k1:aG→V4→Int→aG→Int→Int→Option R) (x0:aG) (x1:V4) (x2:Int) (x3:aG) (x4 x5:Int):Option R:=
ad (decide (x5 < x4)) (if 0≤x5∧x5 < (x3.length:Int) then
ad (decide (((x3.getD x5.toNat []).length:Int) > (IntKind.i64.wrap ((9223372036854775807:Int) - x2)))) (none /- operation makeInterface -/) (k0 x0 x1 (IntKind.i64.wrap (x2+((x3.getD x5.toNat []).length:Int))) x3 x4 (IntKind.i64.wrap (x5+(1:Int))))
else none) (k1 x0 x1 x2 x3 x4 x5)
theorem aq0 (x0 x1 x2 x3 x4 x5):exec cl N Hk (mi x0 x1 x2 x3 x4 x5) K=(JS (fun y0 y1 y2 y3 y4 y5=>K .normal (mi y0 y1 y2 y3 y4 y5)) (fun y0 y1 y2 y3 y4 y5=>K (.exit 1) (mi y0 y1 y2 y3 y4 y5)) x0 x1 x2 x3 x4 x5):=by
 kernel_rfl
def KB {R:Type} (k0:aG→V4→Int→aG→Int→Int→Option R):Nat→aG→V4→Int→aG→Int→Int→Option R
 | 0,_,_,_,_,_,_=>none
 | m+1,x0,x1,x2,x3,x4,x5=>(JS (KB k0 m) k0 x0 x1 x2 x3 x4 x5)
theorem aff:∀ (m) (x0 x1 x2 x3 x4 x5),iter [0,1,5,39,40,41] (fun env K=>exec cl N Hk env K) K m (mi x0 x1 x2 x3 x4 x5)=KB (fun y0 y1 y2 y3 y4 y5=>K (.exit 1) (mi y0 y1 y2 y3 y4 y5)) m x0 x1 x2 x3 x4 x5:=by
 intro m
 induction m with
 | zero=>intros; rfl
 | succ m ih=>
   intro x0 x1 x2 x3 x4 x5
   simp only [b9,aq0,cb,ca,cc,Uy,ih]
   rfl
theorem adx (x0 x1 x2 x3 x4 x5):aj [0,1,5] (mi x0 x1 x2 x3 x4 x5)=(pF x0 x1 x2):=by kernel_rfl
def JT (N:Nat) (k0:aG→V4→Int→Option R) (x0:aG) (x1:V4) (x2:Int) (x3:aG) (x4 x5:Int):Option R:=
KB (fun y0 y1 y2 y3 y4 y5=>k0 y0 y1 y2) N x0 x1 x2 x3 x4 x5
theorem aq1 (x0 x1 x2 x3 x4 x5):exec cl N Hl (mi x0 x1 x2 x3 x4 x5) K=(JT N (fun y0 y1 y2=>K (.exit 1) (pF y0 y1 y2)) x0 x1 x2 x3 x4 x5):=by
 simp only [Hl,aV,b8,Uy,aff,adx]
 rfl
theorem ady (x0 x1 x2):aj [0,1,5] (pF x0 x1 x2)=(pF x0 x1 x2):=by kernel_rfl
def JU (x0:aG) (x1:V4) (x2:Int):Option R:=
none /- lent:sb -/
theorem aq2 (x0 x1 x2):exec cl N Hm (pF x0 x1 x2) K=(JU x0 x1 x2):=by
 delta Hm
 generalize Qr=q
 revert q
 refine id ?_
 intro q
 kernel_rfl
def JW (N:Nat) (k0:V4→Option R) (x0:aG) (x1:V4):Option R:=
(JV k0 (JR (JT N JU)) x0 x1)
theorem aq4 (x0 x1):exec cl N Bg [(0,.v U1 x0),(1,.v .str x1)] K=(JW N (fun y0=>K .ret (IF y0)) x0 x1):=by
 simp only [bX,bZ,bY,b5,aq3,Bf,Qt,aqZ,Qs,aV,cx,aq1,ct,cw,cq,ady,aq2]
 rfl
theorem ajG (y0):ag d99 .ret (IF y0)=some [.v .str y0]:=by kernel_rfl
def Cs (N:Nat) (x0:aG) (x1:V4) (k:V4→Option R):Option R:=
(JW N k x0 x1)
theorem Y5 (x0 x1) (k:List E→Option R):exec cl N Hj [(0,.v U1 x0),(1,.v .str x1)] (fun e env=>(ag d99 e env).bind k)=Cs N x0 x1 (fun r0=>k [.v .str r0]):=by
 simp only [Hj,aq4,ajG,ar]
 rfl
def By (S:aG→V4→Option V6):aO:=er 99 U1 .str S fun b=> [.v .str b]
def fM (N:Nat) (x0:aG) (x1:V4):Option V6:=Cs N x0 x1 (fun (r0:V4)=>some (r0))
def xF (k0:aG→Option R) (x0:aG):Option R:=
k0 x0
theorem ap0 (x0):exec cl N PF [(0,.v U1 x0)] K=(xF (fun y0=>K .normal [(0,.v U1 y0)]) x0):=by
 kernel_rfl
def xG (k0:aG→aG→Int→Int→Option R) (x0:aG):Option R:=
k0 x0 x0 (x0.length:Int) (0:Int)
theorem ap1 (x0):exec cl N PG [(0,.v U1 x0)] K=(xG (fun y0 y1 y2 y3=>K .normal (mj y0 y1 y2 y3)) x0):=by
 kernel_rfl
theorem Up (x0 x1 x2 x3):aj [0,7,8,9] (mj x0 x1 x2 x3)=(mj x0 x1 x2 x3):=by kernel_rfl
def xH (dc:V0→bU→Option (Bool)) (dt:Int→Option (Bool)) (k0:V4→Int→Option R) (k1:aG→aG→Int→Int→Option R) (k2:aG→aG→Int→Int→Option R) (x0 x1:aG) (x2 x3:Int):Option R:=
ad (decide (x3 < x2)) (if 0≤x3∧x3 < (x1.length:Int) then
ad ((x1.getD x3.toNat [])==([]:List UInt8)) (k0 ([]:List UInt8) (7:Int)) ((dc ((x1.getD x3.toNat []).map fun b=>(b.toNat:Int)) (fun (x1125:V3)=>((dt x1125.1).bind fun b1126=>some [.v .bool b1126]).bind (jZ .bool))).bind fun r1127=>
ad r1127 (k0 ([]:List UInt8) (2:Int)) (k1 x0 x1 x2 (IntKind.i64.wrap (x3+(1:Int)))))
else none) (k2 x0 x1 x2 x3)
theorem ap2 (dc) (dt) (h96:(rP dc).holds cl) (h97:(rQ dt).holds cl) (x0 x1 x2 x3):exec cl N GF (mj x0 x1 x2 x3) K=(xH dc dt (fun y0 y1=>K .ret (IG y0 y1)) (fun y0 y1 y2 y3=>K .normal (mj y0 y1 y2 y3)) (fun y0 y1 y2 y3=>K (.exit 0) (mj y0 y1 y2 y3)) x0 x1 x2 x3):=by
 rw [←aM h96]
 rw [←aM h97]
 kernel_rfl
def qt {R:Type} (dc:V0→bU→Option (Bool)) (dt:Int→Option (Bool)) (k0:V4→Int→Option R) (k1:aG→aG→Int→Int→Option R):Nat→aG→aG→Int→Int→Option R
 | 0,_,_,_,_=>none
 | m+1,x0,x1,x2,x3=>(xH dc dt k0 (qt dc dt k0 k1 m) k1 x0 x1 x2 x3)
theorem ae6 (dc) (dt) (h96:(rP dc).holds cl) (h97:(rQ dt).holds cl):∀ (m) (x0 x1 x2 x3),iter [0,7,8,9] (fun env K=>exec cl N GF env K) K m (mj x0 x1 x2 x3)=qt dc dt (fun y0 y1=>K .ret (IG y0 y1)) (fun y0 y1 y2 y3=>K (.exit 0) (mj y0 y1 y2 y3)) m x0 x1 x2 x3:=by
 intro m
 induction m with
 | zero=>intros; rfl
 | succ m ih=>
   intro x0 x1 x2 x3
   simp only [b9,ap2 dc dt h96 h97,cb,ca,cc,Up,ih]
   rfl
theorem ac3 (x0 x1):aj [0,2,3] (IG x0 x1)=(r7 x0 x1):=by kernel_rfl
theorem ac4 (x0 x1 x2 x3):aj [0,2,3] (mj x0 x1 x2 x3)=(uW x0):=by kernel_rfl
def xI (N:Nat) (dc:V0→bU→Option (Bool)) (dt:Int→Option (Bool)) (k0:V4→Int→Option R) (k1:aG→Option R) (x0 x1:aG) (x2 x3:Int):Option R:=
qt dc dt k0 (fun y0 y1 y2 y3=>k1 y0) N x0 x1 x2 x3
theorem ap3 (dc) (dt) (h96:(rP dc).holds cl) (h97:(rQ dt).holds cl) (x0 x1 x2 x3):exec cl N GG (mj x0 x1 x2 x3) K=(xI N dc dt (fun y0 y1=>K .ret (r7 y0 y1)) (fun y0=>K (.exit 0) (uW y0)) x0 x1 x2 x3):=by
 simp only [GG,aV,b8,Up,ae6 dc dt h96 h97,ac3,ac4]
 rfl
theorem ac5 (x0 x1):aj [0,2,3] (r7 x0 x1)=(r7 x0 x1):=by kernel_rfl
theorem ac6 (x0):aj [0,2,3] (uW x0)=(uW x0):=by kernel_rfl
def xJ (fM:aG→V4→Option V6) (k0:V4→Int→Option R) (k1:V4→Int→Option R) (x0:aG):Option R:=
(fM x0 ([32]:List UInt8)).bind fun r1129=>
ad (decide ((r1129.length:Int) > (120:Int))) (k0 ([]:List UInt8) (3:Int)) (k1 r1129 (0:Int))
theorem ap4 (fM) (h99:(By fM).holds cl) (x0):exec cl N PJ (uW x0) K=(xJ fM (fun y0 y1=>K .ret (HU y0 y1)) (fun y0 y1=>K .ret [(2,.v .str y0),(3,.v U2 y1)]) x0):=by
 rw [←aM h99]
 kernel_rfl
def xK (N:Nat) (dc:V0→bU→Option (Bool)) (dt:Int→Option (Bool)) (fM:aG→V4→Option V6) (k0:V4→Int→Option R) (k1:V4→Int→Option R) (k2:V4→Int→Option R) (x0:aG):Option R:=
(xF (xG (xI N dc dt k0 ((xJ fM k1 k2)))) x0)
theorem ap5 (dc) (dt) (fM) (h96:(rP dc).holds cl) (h97:(rQ dt).holds cl) (h99:(By fM).holds cl) (x0):exec cl N GH [(0,.v U1 x0)] K=(xK N dc dt fM (fun y0 y1=>K .ret (r7 y0 y1)) (fun y0 y1=>K .ret (HU y0 y1)) (fun y0 y1=>K .ret [(2,.v .str y0),(3,.v U2 y1)]) x0):=by
 simp only [GH,bX,bZ,bY,b5,ap0,PK,PI,ap1,PH,aV,cx,ap3 dc dt h96 h97,ct,cw,cq,ac5,ac6,ap4 fM h99]
 rfl
theorem ajf (y0 y1):ag d71 .ret (r7 y0 y1)=some [.v .str y0,.v U2 y1]:=by kernel_rfl
theorem ajg (y0 y1):ag d71 .ret (HU y0 y1)=some [.v .str y0,.v U2 y1]:=by kernel_rfl
theorem ajh (y0 y1):ag d71 .ret [(2,.v .str y0),(3,.v U2 y1)]=some [.v .str y0,.v U2 y1]:=by kernel_rfl
def sK (N:Nat) (dc:V0→bU→Option (Bool)) (dt:Int→Option (Bool)) (fM:aG→V4→Option V6) (x0:aG) (k:V4→Int→Option R):Option R:=
(xK N dc dt fM k k k x0)
theorem YS (dc) (dt) (fM) (h96:(rP dc).holds cl) (h97:(rQ dt).holds cl) (h99:(By fM).holds cl) (x0) (k:List E→Option R):exec cl N GD [(0,.v U1 x0)] (fun e env=>(ag d71 e env).bind k)=sK N dc dt fM x0 (fun r0 r1=>k [.v .str r0,.v U2 r1]):=by
 simp only [GD,ap5 dc dt fM h96 h97 h99,ajf,ajg,ajh,ar]
 rfl
def HL (S:aG→Option kL):aO:=cI 71 U1 S fun b=> [.v .str b.1,.v U2 b.2]
def ig (N:Nat) (x0:aG):Option kL:=sK N (dc N) (dt N) (fM N) x0 (fun (r0:V4) (r1:Int)=>some (r0,r1))
def Jp (eA:ae→Option (Int)) (ig:aG→Option kL) (eB:V4→Option V6) (k0:Int→Option R) (k1:Int→Option R) (x0:ae) (x1:V4):Option R:=
(eA x0).bind fun r1134=>
ad (r1134 != (0:Int)) (k0 r1134) (ad (x1==([]:List UInt8)) (k0 (7:Int)) (ad (decide ((x1.length:Int) > (16:Int))) (k0 (3:Int)) ((ig [x1]).bind fun r1138=>
ad (r1138.2 != (0:Int)) (k1 (2:Int)) ((eB x1).bind fun r1140=>
ad (r1140 != x1) (k1 (2:Int)) (k1 (0:Int))))))
theorem aoJ (eA) (ig) (eB) (h70:(uG eA).holds cl) (h71:(HL ig).holds cl) (h72:(uH eB).holds cl) (x0 x1):exec cl N OH (nh x0 x1) K=(Jp eA ig eB (fun y0=>K .ret [(1,.dead),(4,.v U2 y0)]) (fun y0=>K .ret [(4,.v U2 y0)]) x0 x1):=by
 rw [←aM h70]
 rw [←aM h71]
 rw [←aM h72]
 kernel_rfl
theorem aiH (y0):ag d40 .ret [(1,.dead),(4,.v U2 y0)]=some [.v U2 y0]:=by kernel_rfl
theorem aiI (y0):ag d40 .ret [(4,.v U2 y0)]=some [.v U2 y0]:=by kernel_rfl
def Cf (eA:ae→Option (Int)) (ig:aG→Option kL) (eB:V4→Option V6) (x0:ae) (x1:V4) (k:Int→Option R):Option R:=
(Jp eA ig eB k k x0 x1)
theorem YC (eA) (ig) (eB) (h70:(uG eA).holds cl) (h71:(HL ig).holds cl) (h72:(uH eB).holds cl) (x0 x1) (k:List E→Option R):exec cl N FV (nh x0 x1) (fun e env=>(ag d40 e env).bind k)=Cf eA ig eB x0 x1 (fun r0=>k [.v U2 r0]):=by
 simp only [FV,aoJ eA ig eB h70 h71 h72,aiH,aiI,ar]
 rfl
def nc (S:ae→V4→Option (Int)):aO:=er 40 ak .str S fun b=> [.v U2 b]
def bS (N:Nat) (x0:ae) (x1:V4):Option (Int):=Cf (eA N) (ig N) (eB N) x0 x1 (fun (r0:Int)=>some (r0))
def JG (k0:aA→Option R) (k1:aA→Option R) (x0:aI) (x1:Int):Option R:=
ad (decide (x1 < (0:Int))) (k0 []) (if 0≤x1∧x1 < (x0.1.2.1.length:Int) then
k1 ((x0.1.2.1.getD x1.toNat ([],([],((0:Int),((0:Int),()))))).2.1)
else none)
theorem aqc (x0 x1):exec cl N PQ [(0,.at bC x0),(1,.v U2 x1)] K=(JG (fun y0=>K .ret (QP y0)) (fun y0=>K .ret [(4,.v bB y0)]) x0 x1):=by
 kernel_rfl
theorem ajj (y0):ag d73 .ret (QP y0)=some [.v bB y0]:=by kernel_rfl
theorem ajk (y0):ag d73 .ret [(4,.v bB y0)]=some [.v bB y0]:=by kernel_rfl
def sM (x0:aI) (x1:Int) (k:aA→Option R):Option R:=
(JG k k x0 x1)
theorem JZ (x0 x1) (k:List E→Option R):exec cl N GL [(0,.at bC x0),(1,.v U2 x1)] (fun e env=>(ag d73 e env).bind k)=sM x0 x1 (fun r0=>k [.v bB r0]):=by
 simp only [GL,aqc,ajj,ajk,ar]
 rfl
def ji (S:aI→Int→Option lr):aO:={A:=aI×Int×Unit,B:=aA,f:=73,enc:=fun a=> [.at bC a.1,.v U2 a.2.1],dec:=(bg (pn bC) (bg (bG U2) cj)),S:=fun a=>S a.1 a.2.1,av:=fun b=> [.v bB b],ok:=(BA (T:=bC) (gi (T:=U2) (fun es b h=>iq h)))}
def bx (N:Nat) (x0:aI) (x1:Int):Option lr:=sM x0 x1 (fun (r0:aA)=>some (r0))
def JJ (k0:Bool→Option R) (x0:aR):Option R:=
ad (x0.1==(1:Int)) (k0 true) (k0 (x0.1==(2:Int)))
theorem aqm (x0):exec cl N PY [(0,.v aB x0)] K=(JJ (fun y0=>K .ret [(2,.v .bool y0)]) x0):=by
 kernel_rfl
theorem ajq (y0):ag d87 .ret [(2,.v .bool y0)]=some [.v .bool y0]:=by kernel_rfl
def sO (x0:aR) (k:Bool→Option R):Option R:=
(JJ k x0)
theorem J2 (x0) (k:List E→Option R):exec cl N GS [(0,.v aB x0)] (fun e env=>(ag d87 e env).bind k)=sO x0 (fun r0=>k [.v .bool r0]):=by
 simp only [GS,aqm,ajq,ar]
 rfl
def nf (S:aR→Option (Bool)):aO:=cI 87 aB S fun b=> [.v .bool b]
def cZ (N:Nat) (x0:aR):Option (Bool):=sO x0 (fun (r0:Bool)=>some (r0))
def Jx (k0:Int→aA→aA→ae→Option R) (x0:ae) (x1:Int) (x2 x3:aA):Option R:=
k0 x1 x2 x3 x0
theorem apx (x0 x1 x2 x3):exec cl N Pe (HV x0 x1 x2 x3) K=(Jx (fun y0 y1 y2 y3=>K .normal [(1,.v U2 y0),(2,.v bB y1),(3,.v bB y2),(4,.loc ak .no y3)]) x0 x1 x2 x3):=by
 kernel_rfl
def Jy (k0:Bool→Option R) (k1:Int→aA→aA→ae→Option R) (x0:Int) (x1 x2:aA) (x3:ae):Option R:=
ad (decide (x0 < (0:Int))) (k0 false) (ad (decide (x0≥(x3.2.1.length:Int))) (k0 false) (k1 x0 x1 x2 x3))
theorem apy (x0 x1 x2 x3):exec cl N Pf [(1,.v U2 x0),(2,.v bB x1),(3,.v bB x2),(4,.loc ak .no x3)] K=(Jy (fun y0=>K .ret (HW y0)) (fun y0 y1 y2 y3=>K .normal (QQ y0 y1 y2 y3)) x0 x1 x2 x3):=by
 kernel_rfl
def Jz (cZ:aR→Option (Bool)) (k0:Int→aA→ae→Bool→Option R) (x0:Int) (x1 x2:aA) (x3:ae):Option R:=
ad (decide ((x2.length:Int) > (0:Int))) (if 0≤(0:Int)∧(0:Int) < (x2.length:Int) then
(cZ (x2.getD (0:Int).toNat ((0:Int),((0:Int),([],()))))).bind fun r1213=>
k0 x0 x1 x3 r1213
else none) (k0 x0 x1 x3 false)
theorem apz (cZ) (h87:(nf cZ).holds cl) (x0 x1 x2 x3):exec cl N Pg (QQ x0 x1 x2 x3) K=(Jz cZ (fun y0 y1 y2 y3=>K .normal [(1,.v U2 y0),(2,.v bB y1),(4,.loc ak .no y2),(9,.v .bool y3)]) x0 x1 x2 x3):=by
 rw [←aM h87]
 kernel_rfl
def JA (cZ:aR→Option (Bool)) (k0:Bool→Option R) (x0:Int) (x1:aA) (x2:ae) (x3:Bool):Option R:=
if 0≤x0∧x0 < (x2.2.1.length:Int) then
ad ((x2.2.1.getD x0.toNat ([],([],((0:Int),((0:Int),()))))).2.2.2.1==(0:Int)) (k0 true) (ad ((x2.2.1.getD x0.toNat ([],([],((0:Int),((0:Int),()))))).2.2.2.1==(1:Int)) (k0 x3) (ad ((x2.2.1.getD x0.toNat ([],([],((0:Int),((0:Int),()))))).2.2.2.1==(2:Int)) (ad x3 (k0 ((x1.length:Int)==(0:Int))) (k0 false)) (ad ((x2.2.1.getD x0.toNat ([],([],((0:Int),((0:Int),()))))).2.2.2.1==(3:Int)) (ad x3 (ad (decide ((x1.length:Int) > (0:Int))) (let v1220:Int:=(IntKind.i64.wrap ((x1.length:Int) - (1:Int)))
if 0≤v1220∧v1220 < (x1.length:Int) then
(cZ (x1.getD v1220.toNat ((0:Int),((0:Int),([],()))))).bind fun r1221=>
k0 r1221
else none) (k0 false)) (k0 false)) (ad ((x2.2.1.getD x0.toNat ([],([],((0:Int),((0:Int),()))))).2.2.2.1==(4:Int)) (k0 (!x3)) (k0 false)))))
else none
theorem apA (cZ) (h87:(nf cZ).holds cl) (x0 x1 x2 x3):exec cl N Ph [(1,.v U2 x0),(2,.v bB x1),(4,.loc ak .no x2),(9,.v .bool x3)] K=(JA cZ (fun y0=>K .ret [(8,.v .bool y0)]) x0 x1 x2 x3):=by
 rw [←aM h87]
 kernel_rfl
def JB (cZ:aR→Option (Bool)) (k0:Bool→Option R) (k1:Bool→Option R) (x0:ae) (x1:Int) (x2 x3:aA):Option R:=
(Jx (Jy k0 (Jz cZ (JA cZ k1))) x0 x1 x2 x3)
theorem apB (cZ) (h87:(nf cZ).holds cl) (x0 x1 x2 x3):exec cl N Gs (HV x0 x1 x2 x3) K=(JB cZ (fun y0=>K .ret (HW y0)) (fun y0=>K .ret [(8,.v .bool y0)]) x0 x1 x2 x3):=by
 simp only [Gs,bX,bZ,bY,b5,apx,Pk,apy,Pj,apz cZ h87,apA cZ h87]
 rfl
theorem ai4 (y0):ag d60 .ret (HW y0)=some [.v .bool y0]:=by kernel_rfl
theorem ai5 (y0):ag d60 .ret [(8,.v .bool y0)]=some [.v .bool y0]:=by kernel_rfl
def sJ (cZ:aR→Option (Bool)) (x0:ae) (x1:Int) (x2 x3:aA) (k:Bool→Option R):Option R:=
(JB cZ k k x0 x1 x2 x3)
theorem JY (cZ) (h87:(nf cZ).holds cl) (x0 x1 x2 x3) (k:List E→Option R):exec cl N Gq (HV x0 x1 x2 x3) (fun e env=>(ag d60 e env).bind k)=sJ cZ x0 x1 x2 x3 (fun r0=>k [.v .bool r0]):=by
 simp only [Gq,apB cZ h87,ai4,ai5,ar]
 rfl
def gx (S:ae→Int→aA→aA→Option (Bool)):aO:=Xm 60 ak U2 bB bB S fun b=> [.v .bool b]
def aS (N:Nat) (x0:ae) (x1:Int) (x2:aA) (x3:aA):Option (Bool):=sJ (cZ N) x0 x1 x2 x3 (fun (r0:Bool)=>some (r0))
def JH (k0:Bool→Option R) (x0 x1:V4):Option R:=
ad (decide ((x0.length:Int)≥(x1.length:Int))) (if 0≤(0:Int)∧(0:Int)≤(x1.length:Int)∧(x1.length:Int)≤(x0.length:Int) then
k0 (((x0.drop (0:Int).toNat).take ((x1.length:Int).toNat - (0:Int).toNat))==x1)
else none) (k0 false)
theorem aqk (x0 x1):exec cl N PW (BE x0 x1) K=(JH (fun y0=>K .ret [(4,.v .bool y0)]) x0 x1):=by
 kernel_rfl
theorem ajn (y0):ag d83 .ret [(4,.v .bool y0)]=some [.v .bool y0]:=by kernel_rfl
def sN (x0 x1:V4) (k:Bool→Option R):Option R:=
(JH k x0 x1)
theorem J1 (x0 x1) (k:List E→Option R):exec cl N GQ (BE x0 x1) (fun e env=>(ag d83 e env).bind k)=sN x0 x1 (fun r0=>k [.v .bool r0]):=by
 simp only [GQ,aqk,ajn,ar]
 rfl
def ph (S:V4→V4→Option (Bool)):aO:=er 83 .str .str S fun b=> [.v .bool b]
def fh (N:Nat) (x0:V4) (x1:V4):Option (Bool):=sN x0 x1 (fun (r0:Bool)=>some (r0))
def Jt (fh:V4→V4→Option (Bool)) (k0:Bool→Option R) (x0 x1:V4):Option R:=
(fh x0 x1).bind fun r1232=>
k0 r1232
theorem apn (fh) (h83:(ph fh).holds cl) (x0 x1):exec cl N O7 (BE x0 x1) K=(Jt fh (fun y0=>K .ret [(4,.v .bool y0)]) x0 x1):=by
 rw [←aM h83]
 kernel_rfl
theorem aiX (y0):ag d54 .ret [(4,.v .bool y0)]=some [.v .bool y0]:=by kernel_rfl
def sH (fh:V4→V4→Option (Bool)) (x0 x1:V4) (k:Bool→Option R):Option R:=
(Jt fh k x0 x1)
theorem JX (fh) (h83:(ph fh).holds cl) (x0 x1) (k:List E→Option R):exec cl N Gi (BE x0 x1) (fun e env=>(ag d54 e env).bind k)=sH fh x0 x1 (fun r0=>k [.v .bool r0]):=by
 simp only [Gi,apn fh h83,aiX,ar]
 rfl
def gw (S:V4→V4→Option (Bool)):aO:=er 54 .str .str S fun b=> [.v .bool b]
def aU (N:Nat) (x0:V4) (x1:V4):Option (Bool):=sH (fh N) x0 x1 (fun (r0:Bool)=>some (r0))
def xV (k0:aI→a8→bV→Option R) (x0:aI) (x1:a8):Option R:=
k0 x0 x1 []
theorem aqh (x0 x1):exec cl N A3 [(0,.at bC x0),(1,.v a6 x1)] K=(xV (fun y0 y1 y2=>exec cl N A2 [(0,.at bC y0),(3,.loc a6 .no y1),(5,.own true 73 a6 .no y2)] K) x0 x1):=by
 delta A3
 generalize A2=q
 revert q
 refine id ?_
 intro q
 kernel_rfl
def xR (k0:aI→a8→bV→b7→Int→Int→Option R) (x0:aI) (x1:a8) (x2:bV):Option R:=
k0 x0 x1 x2 x0.1.2.1 (x0.1.2.1.length:Int) (0:Int)
theorem aqd (x0 x1 x2):exec cl N PR [(0,.at bC x0),(3,.loc a6 .no x1),(5,.own true 73 a6 .no x2)] K=(xR (fun y0 y1 y2 y3 y4 y5=>K .normal (lA y0 y1 y2 y3 y4 y5)) x0 x1 x2):=by
 kernel_rfl
theorem Ur (x0 x1 x2 x3 x4 x5):aj [0,3,5,12,13,14] (lA x0 x1 x2 x3 x4 x5)=(lA x0 x1 x2 x3 x4 x5):=by kernel_rfl
def xS (aU:V4→V4→Option (Bool)) (aS:ae→Int→aA→aA→Option (Bool)) (bx:aI→Int→Option lr) (k0:aI→a8→bV→b7→Int→Int→Option R) (k1:aI→a8→bV→b7→Int→Int→Option R) (x0:aI) (x1:a8) (x2:bV) (x3:b7) (x4 x5:Int):Option R:=
ad (decide (x5 < x4)) (if 0≤x5∧x5 < (x3.length:Int) then
if 0≤x1.2.2.1∧x1.2.2.1≤(x0.2.1.length:Int)∧(x0.2.1.length:Int)≤(x0.2.1.length:Int) then
(aU ((x0.2.1.drop x1.2.2.1.toNat).take ((x0.2.1.length:Int).toNat - x1.2.2.1.toNat)) ((x3.getD x5.toNat ([],([],((0:Int),((0:Int),()))))).1)).bind fun r1247=>
ad r1247 (ad (decide (x1.2.1 < (0:Int))) (let v1250:a8:=(x1.2.1,x5,(IntKind.i64.wrap (x1.2.2.1+(((x3.getD x5.toNat ([],([],((0:Int),((0:Int),()))))).1).length:Int))),())
if x2.length+[v1250].length≤5864062014805 then
k0 x0 x1 (x2++[v1250]) x3 x4 (IntKind.i64.wrap (x5+(1:Int)))
else none) ((bx x0 x1.1).bind fun r1252=>
(aS x0.1 x1.2.1 r1252 ((x3.getD x5.toNat ([],([],((0:Int),((0:Int),()))))).2.1)).bind fun r1253=>
ad r1253 (let v1255:a8:=(x1.2.1,x5,(IntKind.i64.wrap (x1.2.2.1+(((x3.getD x5.toNat ([],([],((0:Int),((0:Int),()))))).1).length:Int))),())
if x2.length+[v1255].length≤5864062014805 then
k0 x0 x1 (x2++[v1255]) x3 x4 (IntKind.i64.wrap (x5+(1:Int)))
else none) (k0 x0 x1 x2 x3 x4 (IntKind.i64.wrap (x5+(1:Int)))))) (k0 x0 x1 x2 x3 x4 (IntKind.i64.wrap (x5+(1:Int))))
else none
else none) (k1 x0 x1 x2 x3 x4 x5)
theorem aqe (aU) (aS) (bx) (h54:(gw aU).holds cl) (h60:(gx aS).holds cl) (h73:(ji bx).holds cl) (x0 x1 x2 x3 x4 x5):exec cl N GN (lA x0 x1 x2 x3 x4 x5) K=(xS aU aS bx (fun y0 y1 y2 y3 y4 y5=>K .normal (lA y0 y1 y2 y3 y4 y5)) (fun y0 y1 y2 y3 y4 y5=>K (.exit 0) (lA y0 y1 y2 y3 y4 y5)) x0 x1 x2 x3 x4 x5):=by
 rw [←aM h54]
 rw [←aM h60]
 rw [←aM h73]
 kernel_rfl
def qu {R:Type} (aU:V4→V4→Option (Bool)) (aS:ae→Int→aA→aA→Option (Bool)) (bx:aI→Int→Option lr) (k0:aI→a8→bV→b7→Int→Int→Option R):Nat→aI→a8→bV→b7→Int→Int→Option R
 | 0,_,_,_,_,_,_=>none
 | m+1,x0,x1,x2,x3,x4,x5=>(xS aU aS bx (qu aU aS bx k0 m) k0 x0 x1 x2 x3 x4 x5)
theorem ae8 (aU) (aS) (bx) (h54:(gw aU).holds cl) (h60:(gx aS).holds cl) (h73:(ji bx).holds cl):∀ (m) (x0 x1 x2 x3 x4 x5),iter [0,3,5,12,13,14] (fun env K=>exec cl N GN env K) K m (lA x0 x1 x2 x3 x4 x5)=qu aU aS bx (fun y0 y1 y2 y3 y4 y5=>K (.exit 0) (lA y0 y1 y2 y3 y4 y5)) m x0 x1 x2 x3 x4 x5:=by
 intro m
 induction m with
 | zero=>intros; rfl
 | succ m ih=>
   intro x0 x1 x2 x3 x4 x5
   simp only [b9,aqe aU aS bx h54 h60 h73,cb,ca,cc,Ur,ih]
   rfl
theorem ac9 (x0 x1 x2 x3 x4 x5):aj [5] (lA x0 x1 x2 x3 x4 x5)=(uK x2):=by kernel_rfl
def xT (N:Nat) (aU:V4→V4→Option (Bool)) (aS:ae→Int→aA→aA→Option (Bool)) (bx:aI→Int→Option lr) (k0:bV→Option R) (x0:aI) (x1:a8) (x2:bV) (x3:b7) (x4 x5:Int):Option R:=
qu aU aS bx (fun y0 y1 y2 y3 y4 y5=>k0 y2) N x0 x1 x2 x3 x4 x5
theorem aqf (aU) (aS) (bx) (h54:(gw aU).holds cl) (h60:(gx aS).holds cl) (h73:(ji bx).holds cl) (x0 x1 x2 x3 x4 x5):exec cl N GO (lA x0 x1 x2 x3 x4 x5) K=(xT N aU aS bx (fun y0=>K (.exit 0) (uK y0)) x0 x1 x2 x3 x4 x5):=by
 simp only [GO,aV,b8,Ur,ae8 aU aS bx h54 h60 h73,ac9]
 rfl
theorem ada (x0):aj [5] (uK x0)=(uK x0):=by kernel_rfl
def xU (k0:bV→Option R) (x0:bV):Option R:=
k0 x0
theorem aqg (x0):exec cl N PU (uK x0) K=(xU (fun y0=>K .ret (HX y0)) x0):=by
 kernel_rfl
def xW (N:Nat) (aU:V4→V4→Option (Bool)) (aS:ae→Int→aA→aA→Option (Bool)) (bx:aI→Int→Option lr) (k0:bV→Option R) (x0:aI) (x1:a8):Option R:=
(xV (xR (xT N aU aS bx ((xU k0)))) x0 x1)
theorem aqi (aU) (aS) (bx) (h54:(gw aU).holds cl) (h60:(gx aS).holds cl) (h73:(ji bx).holds cl) (x0 x1):exec cl N A3 [(0,.at bC x0),(1,.v a6 x1)] K=(xW N aU aS bx (fun y0=>K .ret (HX y0)) x0 x1):=by
 simp only [bX,bZ,bY,b5,aqh,A2,PT,aqd,PS,aV,cx,aqf aU aS bx h54 h60 h73,ct,cw,cq,ada,aqg]
 rfl
theorem ajl (y0):ag d74 .ret (HX y0)=some [.own true 73 a6 .no y0]:=by kernel_rfl
def ox (N:Nat) (aU:V4→V4→Option (Bool)) (aS:ae→Int→aA→aA→Option (Bool)) (bx:aI→Int→Option lr) (x0:aI) (x1:a8) (k:bV→Option R):Option R:=
(xW N aU aS bx k x0 x1)
theorem J0 (aU) (aS) (bx) (h54:(gw aU).holds cl) (h60:(gx aS).holds cl) (h73:(ji bx).holds cl) (x0 x1) (k:List E→Option R):exec cl N GM [(0,.at bC x0),(1,.v a6 x1)] (fun e env=>(ag d74 e env).bind k)=ox N aU aS bx x0 x1 (fun r0=>k [.own true 73 a6 .no r0]):=by
 simp only [GM,aqi aU aS bx h54 h60 h73,ajl,ar]
 rfl
def kP (S:aI→a8→Option nJ):aO:={A:=aI×a8×Unit,B:=bV,f:=74,enc:=fun a=> [.at bC a.1,.v a6 a.2.1],dec:=(bg (pn bC) (bg (bG a6) cj)),S:=fun a=>S a.1 a.2.1,av:=fun b=> [.own true 73 a6 .no b],ok:=(BA (T:=bC) (gi (T:=a6) (fun es b h=>iq h)))}
def cz (N:Nat) (x0:aI) (x1:a8):Option nJ:=ox N (aU N) (aS N) (bx N) x0 x1 (fun (r0:bV)=>some (r0))
def xm (aS:ae→Int→aA→aA→Option (Bool)) (bx:aI→Int→Option lr) (k0:aI→Int→Option R) (k1:aI→a8→Int→Option R) (x0:aI) (x1:a8):Option R:=
ad (x1.2.2.1==(x0.2.1.length:Int)) (ad (decide (x1.2.1≥(0:Int))) ((bx x0 x1.1).bind fun r1268=>
(aS x0.1 x1.2.1 r1268 []).bind fun r1269=>
ad r1269 (k0 x0 (1:Int)) (k0 x0 (0:Int))) (k0 x0 (0:Int))) (let v1270:Int×Bool:=iA (fun a b:a8=>((a.1==b.1)&&((a.2.1==b.2.1)&&((a.2.2.1==b.2.2.1)&&true)))) (0:Int) x0.2.2.1 x1
ad v1270.2 (k0 x0 v1270.1) (k1 x0 x1 (0:Int)))
theorem aoO (aS) (bx) (h60:(gx aS).holds cl) (h73:(ji bx).holds cl) (x0 x1):exec cl N AH (rR x0 x1) K=(xm aS bx (fun y0 y1=>K .ret (HZ y0 y1)) (fun y0 y1 y2=>exec cl N AG (po y0 y1 y2) K) x0 x1):=by
 rw [←aM h60]
 rw [←aM h73]
 delta AH
 generalize AG=q
 revert q
 refine id ?_
 intro q
 kernel_rfl
def xi (cz:aI→a8→Option nJ) (k0:aI→a8→Int→bV→Int→Int→Option R) (x0:aI) (x1:a8) (x2:Int):Option R:=
(cz x0 x1).bind fun r1271=>
k0 x0 x1 x2 r1271 (r1271.length:Int) (0:Int)
theorem aoK (cz) (h74:(kP cz).holds cl) (x0 x1 x2):exec cl N OI (po x0 x1 x2) K=(xi cz (fun y0 y1 y2 y3 y4 y5=>K .normal (lB y0 y1 y2 y3 y4 y5)) x0 x1 x2):=by
 rw [←aM h74]
 kernel_rfl
theorem Ug (x0 x1 x2 x3 x4 x5):aj [0,3,7,47,48,49] (lB x0 x1 x2 x3 x4 x5)=(lB x0 x1 x2 x3 x4 x5):=by kernel_rfl
def xj (aX:aI→a8→Option gQ) (k0:aI→a8→Int→bV→Int→Int→Option R) (k1:aI→a8→Int→bV→Int→Int→Option R) (x0:aI) (x1:a8) (x2:Int) (x3:bV) (x4 x5:Int):Option R:=
ad (decide (x5 < x4)) (if 0≤x5∧x5 < (x3.length:Int) then
if x5.toNat < x3.length then
(aX x0 (x3.getD x5.toNat ((0:Int),((0:Int),((0:Int),()))))).bind fun r1274=>
let v1275:Int:=(IntKind.i64.wrap (x2+r1274.2))
k0 r1274.1 x1 (if (201:Int) < v1275 then (201:Int) else v1275) x3 x4 (IntKind.i64.wrap (x5+(1:Int)))
else none
else none) (k1 x0 x1 x2 x3 x4 x5)
theorem aoL (aX) (h41:(gG aX).holds cl) (x0 x1 x2 x3 x4 x5):exec cl N FX (lB x0 x1 x2 x3 x4 x5) K=(xj aX (fun y0 y1 y2 y3 y4 y5=>K .normal (lB y0 y1 y2 y3 y4 y5)) (fun y0 y1 y2 y3 y4 y5=>K (.exit 0) (lB y0 y1 y2 y3 y4 y5)) x0 x1 x2 x3 x4 x5):=by
 rw [←aM h41]
 kernel_rfl
def tc {R:Type} (aX:aI→a8→Option gQ) (k0:aI→a8→Int→bV→Int→Int→Option R):Nat→aI→a8→Int→bV→Int→Int→Option R
 | 0,_,_,_,_,_,_=>none
 | m+1,x0,x1,x2,x3,x4,x5=>(xj aX (tc aX k0 m) k0 x0 x1 x2 x3 x4 x5)
theorem aeW (aX) (h41:(gG aX).holds cl):∀ (m) (x0 x1 x2 x3 x4 x5),iter [0,3,7,47,48,49] (fun env K=>exec cl N FX env K) K m (lB x0 x1 x2 x3 x4 x5)=tc aX (fun y0 y1 y2 y3 y4 y5=>K (.exit 0) (lB y0 y1 y2 y3 y4 y5)) m x0 x1 x2 x3 x4 x5:=by
 intro m
 induction m with
 | zero=>intros; rfl
 | succ m ih=>
   intro x0 x1 x2 x3 x4 x5
   simp only [b9,aoL aX h41,cb,ca,cc,Ug,ih]
   rfl
theorem acs (x0 x1 x2 x3 x4 x5):aj [0,3,7] (lB x0 x1 x2 x3 x4 x5)=(po x0 x1 x2):=by kernel_rfl
def xk (N:Nat) (aX:aI→a8→Option gQ) (k0:aI→a8→Int→Option R) (x0:aI) (x1:a8) (x2:Int) (x3:bV) (x4 x5:Int):Option R:=
tc aX (fun y0 y1 y2 y3 y4 y5=>k0 y0 y1 y2) N x0 x1 x2 x3 x4 x5
theorem aoM (aX) (h41:(gG aX).holds cl) (x0 x1 x2 x3 x4 x5):exec cl N FY (lB x0 x1 x2 x3 x4 x5) K=(xk N aX (fun y0 y1 y2=>K (.exit 0) (po y0 y1 y2)) x0 x1 x2 x3 x4 x5):=by
 simp only [FY,aV,b8,Ug,aeW aX h41,acs]
 rfl
theorem acu (x0 x1 x2):aj [0,3,7] (po x0 x1 x2)=(po x0 x1 x2):=by kernel_rfl
def xl (k0:aI→Int→Option R) (x0:aI) (x1:a8) (x2:Int):Option R:=
k0 (x0.1,(x0.2.1,((iY (fun a b:a8=>((a.1==b.1)&&((a.2.1==b.2.1)&&((a.2.2.1==b.2.2.1)&&true)))) x0.2.2.1 x1 x2),x0.2.2.2))) x2
theorem aoN (x0 x1 x2):exec cl N OL (po x0 x1 x2) K=(xl (fun y0 y1=>K .ret (H0 y0 y1)) x0 x1 x2):=by
 kernel_rfl
def xn (N:Nat) (aX:aI→a8→Option gQ) (aS:ae→Int→aA→aA→Option (Bool)) (bx:aI→Int→Option lr) (cz:aI→a8→Option nJ) (k0:aI→Int→Option R) (k1:aI→Int→Option R) (x0:aI) (x1:a8):Option R:=
(xm aS bx k0 (xi cz (xk N aX ((xl k1)))) x0 x1)
theorem aoP (aX) (aS) (bx) (cz) (h41:(gG aX).holds cl) (h60:(gx aS).holds cl) (h73:(ji bx).holds cl) (h74:(kP cz).holds cl) (x0 x1):exec cl N AH (rR x0 x1) K=(xn N aX aS bx cz (fun y0 y1=>K .ret (HZ y0 y1)) (fun y0 y1=>K .ret (H0 y0 y1)) x0 x1):=by
 simp only [bX,bZ,bY,b5,aoO aS bx h60 h73,AG,OK,aoK cz h74,OJ,aV,cx,aoM aX h41,ct,cw,cq,acu,aoN]
 rfl
theorem aiJ (y0 y1):ag d41 .ret (HZ y0 y1)=some [.loc bC (.pair .no (.pair .no (.pair .mp .no))) y0,.v U2 y1]:=by kernel_rfl
theorem aiK (y0 y1):ag d41 .ret (H0 y0 y1)=some [.loc bC (.pair .no (.pair .no (.pair .mp .no))) y0,.v U2 y1]:=by kernel_rfl
def sz (N:Nat) (aX:aI→a8→Option gQ) (aS:ae→Int→aA→aA→Option (Bool)) (bx:aI→Int→Option lr) (cz:aI→a8→Option nJ) (x0:aI) (x1:a8) (k:aI→Int→Option R):Option R:=
(xn N aX aS bx cz k k x0 x1)
theorem YD (aX) (aS) (bx) (cz) (h41:(gG aX).holds cl) (h60:(gx aS).holds cl) (h73:(ji bx).holds cl) (h74:(kP cz).holds cl) (x0 x1) (k:List E→Option R):exec cl N FW (rR x0 x1) (fun e env=>(ag d41 e env).bind k)=sz N aX aS bx cz x0 x1 (fun r0 r1=>k [.loc bC (.pair .no (.pair .no (.pair .mp .no))) r0,.v U2 r1]):=by
 simp only [FW,aoP aX aS bx cz h41 h60 h73 h74,aiJ,aiK,ar]
 rfl
def nH (N:Nat):Nat→aI→a8→Option gQ
 | 0,_,_=>none
 | m+1,x0,x1=>sz N (nH N m) (aS N) (bx N) (cz N) x0 x1 (fun (r0:aI) (r1:Int)=>some (r0,r1))
def aX (N:Nat) (x0:aI) (x1:a8):Option gQ:=nH N 250 x0 x1
def oc (k0:aI→V7→Option R) (k1:aI→a8→V7→Option R) (x0:aI) (x1:a8):Option R:=
ad (x1.2.2.1==(x0.2.1.length:Int)) (k0 x0 [[]]) (k1 x0 x1 [])
theorem aoT (x0 x1):exec cl N AK (rR x0 x1) K=(oc (fun y0 y1=>K .ret (H2 y0 y1)) (fun y0 y1 y2=>exec cl N AJ (QR y0 y1 y2) K) x0 x1):=by
 delta AK
 generalize AJ=q
 revert q
 refine id ?_
 intro q
 kernel_rfl
def n7 (cz:aI→a8→Option nJ) (k0:aI→V7→bV→Int→Int→Option R) (x0:aI) (x1:a8) (x2:V7):Option R:=
(cz x0 x1).bind fun r1293=>
k0 x0 x2 r1293 (r1293.length:Int) (0:Int)
theorem aoQ (cz) (h74:(kP cz).holds cl) (x0 x1 x2):exec cl N OM (QR x0 x1 x2) K=(n7 cz (fun y0 y1 y2 y3 y4=>K .normal (fS y0 y1 y2 y3 y4)) x0 x1 x2):=by
 rw [←aM h74]
 kernel_rfl
theorem Kk (x0 x1 x2 x3 x4):aj [0,5,21,22,23] (fS x0 x1 x2 x3 x4)=(fS x0 x1 x2 x3 x4):=by kernel_rfl
def ot (k0:aI→V7→bV→Int→Int→Option R) (k1:aI→V7→bV→Int→Int→Option R) (x0:aI) (x1:V7) (x2:bV) (x3 x4:Int):Option R:=
ad (decide (x4 < x3)) (k0 x0 x1 x2 x3 x4) (k1 x0 x1 x2 x3 x4)
theorem aoZ (x0 x1 x2 x3 x4):exec cl N ur (fS x0 x1 x2 x3 x4) K=(ot (fun y0 y1 y2 y3 y4=>exec cl N AM (fS y0 y1 y2 y3 y4) K) (fun y0 y1 y2 y3 y4=>K (.exit 0) (fS y0 y1 y2 y3 y4)) x0 x1 x2 x3 x4):=by
 delta ur
 generalize AM=q
 revert q
 refine id ?_
 intro q
 kernel_rfl
def oi (aX:aI→a8→Option gQ) (bM:aI→a8→Option kg) (k0:aI→V7→a8→bV→Int→Int→Option R) (k1:aI→V7→a8→bV→Int→Int→V7→Int→Int→Option R) (x0:aI) (x1:V7) (x2:bV) (x3 x4:Int):Option R:=
if 0≤x4∧x4 < (x2.length:Int) then
if x4.toNat < x2.length then
let v1295:a8:=(x2.getD x4.toNat ((0:Int),((0:Int),((0:Int),()))))
(aX x0 v1295).bind fun r1296=>
ad (r1296.2==(0:Int)) (k0 r1296.1 x1 v1295 x2 x3 x4) ((bM r1296.1 v1295).bind fun r1298=>
k1 r1298.1 x1 v1295 x2 x3 x4 r1298.2 (r1298.2.length:Int) (0:Int))
else none
else none
theorem aoW (aX) (bM) (h41:(gG aX).holds cl) (h42:(kO bM).holds cl) (x0 x1 x2 x3 x4):exec cl N F2 (fS x0 x1 x2 x3 x4) K=(oi aX bM (fun y0 y1 y2 y3 y4 y5=>K (.exit 1) (QS y0 y1 y2 y3 y4 y5)) (fun y0 y1 y2 y3 y4 y5 y6 y7 y8=>exec cl N AL (lC y0 y1 y2 y3 y4 y5 y6 y7 y8) K) x0 x1 x2 x3 x4):=by
 rw [←aM h41]
 rw [←aM h42]
 delta F2
 generalize AL=q
 revert q
 refine id ?_
 intro q
 kernel_rfl
theorem Uh (x0 x1 x2 x3 x4 x5 x6 x7 x8):aj [0,5,7,21,22,23,33,34,35] (lC x0 x1 x2 x3 x4 x5 x6 x7 x8)=(lC x0 x1 x2 x3 x4 x5 x6 x7 x8):=by kernel_rfl
def n8 (k0:aI→V7→a8→bV→Int→Int→V7→Int→Int→Option R) (k1:aI→V7→a8→bV→Int→Int→V7→Int→Int→Option R) (x0:aI) (x1:V7) (x2:a8) (x3:bV) (x4 x5:Int) (x6:V7) (x7 x8:Int):Option R:=
ad (decide (x8 < x7)) (if 0≤x8∧x8 < (x6.length:Int) then
if x8.toNat < x6.length then
if [x2.2.1].length+(x6.getD x8.toNat []).length≤17592186044416 then
if x1.length+[([x2.2.1]++(x6.getD x8.toNat []))].length≤5864062014805 then
k0 x0 (x1++[([x2.2.1]++(x6.getD x8.toNat []))]) x2 x3 x4 x5 x6 x7 (IntKind.i64.wrap (x8+(1:Int)))
else none
else none
else none
else none) (k1 x0 x1 x2 x3 x4 x5 x6 x7 x8)
theorem aoR (x0 x1 x2 x3 x4 x5 x6 x7 x8):exec cl N F0 (lC x0 x1 x2 x3 x4 x5 x6 x7 x8) K=(n8 (fun y0 y1 y2 y3 y4 y5 y6 y7 y8=>K .normal (lC y0 y1 y2 y3 y4 y5 y6 y7 y8)) (fun y0 y1 y2 y3 y4 y5 y6 y7 y8=>K (.exit 2) (lC y0 y1 y2 y3 y4 y5 y6 y7 y8)) x0 x1 x2 x3 x4 x5 x6 x7 x8):=by
 kernel_rfl
def td {R:Type} (k0:aI→V7→a8→bV→Int→Int→V7→Int→Int→Option R):Nat→aI→V7→a8→bV→Int→Int→V7→Int→Int→Option R
 | 0,_,_,_,_,_,_,_,_,_=>none
 | m+1,x0,x1,x2,x3,x4,x5,x6,x7,x8=>(n8 (td k0 m) k0 x0 x1 x2 x3 x4 x5 x6 x7 x8)
theorem aeX:∀ (m) (x0 x1 x2 x3 x4 x5 x6 x7 x8),iter [0,5,7,21,22,23,33,34,35] (fun env K=>exec cl N F0 env K) K m (lC x0 x1 x2 x3 x4 x5 x6 x7 x8)=td (fun y0 y1 y2 y3 y4 y5 y6 y7 y8=>K (.exit 2) (lC y0 y1 y2 y3 y4 y5 y6 y7 y8)) m x0 x1 x2 x3 x4 x5 x6 x7 x8:=by
 intro m
 induction m with
 | zero=>intros; rfl
 | succ m ih=>
   intro x0 x1 x2 x3 x4 x5 x6 x7 x8
   simp only [b9,aoR,cb,ca,cc,Uh,ih]
   rfl
theorem acv (x0 x1 x2 x3 x4 x5 x6 x7 x8):aj [0,5,21,22,23] (lC x0 x1 x2 x3 x4 x5 x6 x7 x8)=(fS x0 x1 x3 x4 x5):=by kernel_rfl
def oe (N:Nat) (k0:aI→V7→bV→Int→Int→Option R) (x0:aI) (x1:V7) (x2:a8) (x3:bV) (x4 x5:Int) (x6:V7) (x7 x8:Int):Option R:=
td (fun y0 y1 y2 y3 y4 y5 y6 y7 y8=>k0 y0 y1 y3 y4 y5) N x0 x1 x2 x3 x4 x5 x6 x7 x8
theorem aoV (x0 x1 x2 x3 x4 x5 x6 x7 x8):exec cl N F1 (lC x0 x1 x2 x3 x4 x5 x6 x7 x8) K=(oe N (fun y0 y1 y2 y3 y4=>K (.exit 2) (fS y0 y1 y2 y3 y4)) x0 x1 x2 x3 x4 x5 x6 x7 x8):=by
 simp only [F1,aV,b8,Uh,aeX,acv]
 rfl
theorem acw (x0 x1 x2 x3 x4 x5):aj [0,5,21,22,23] (QS x0 x1 x2 x3 x4 x5)=(fS x0 x1 x3 x4 x5):=by kernel_rfl
def oj (N:Nat) (aX:aI→a8→Option gQ) (bM:aI→a8→Option kg) (k0:aI→V7→bV→Int→Int→Option R) (x0:aI) (x1:V7) (x2:bV) (x3 x4:Int):Option R:=
(oi aX bM (fun y0 y1 y2 y3 y4 y5=>(k0 y0 y1 y3 y4 y5)) (oe N k0) x0 x1 x2 x3 x4)
theorem aoX (aX) (bM) (h41:(gG aX).holds cl) (h42:(kO bM).holds cl) (x0 x1 x2 x3 x4):exec cl N F3 (fS x0 x1 x2 x3 x4) K=(oj N aX bM (fun y0 y1 y2 y3 y4=>K .normal (fS y0 y1 y2 y3 y4)) x0 x1 x2 x3 x4):=by
 simp only [F3,aV,cx,bX,bZ,bY,b5,aoW aX bM h41 h42,AL,aoV,ct,cw,cq,Kk,acw]
 rfl
def om (k0:aI→V7→bV→Int→Int→Option R) (x0:aI) (x1:V7) (x2:bV) (x3 x4:Int):Option R:=
k0 x0 x1 x2 x3 (IntKind.i64.wrap (x4+(1:Int)))
theorem aoY (x0 x1 x2 x3 x4):exec cl N OQ (fS x0 x1 x2 x3 x4) K=(om (fun y0 y1 y2 y3 y4=>K .normal (fS y0 y1 y2 y3 y4)) x0 x1 x2 x3 x4):=by
 kernel_rfl
def ou (N:Nat) (aX:aI→a8→Option gQ) (bM:aI→a8→Option kg) (k0:aI→V7→bV→Int→Int→Option R) (k1:aI→V7→bV→Int→Int→Option R) (x0:aI) (x1:V7) (x2:bV) (x3 x4:Int):Option R:=
(ot (oj N aX bM (om k0)) k1 x0 x1 x2 x3 x4)
theorem ao0 (aX) (bM) (h41:(gG aX).holds cl) (h42:(kO bM).holds cl) (x0 x1 x2 x3 x4):exec cl N ur (fS x0 x1 x2 x3 x4) K=(ou N aX bM (fun y0 y1 y2 y3 y4=>K .normal (fS y0 y1 y2 y3 y4)) (fun y0 y1 y2 y3 y4=>K (.exit 0) (fS y0 y1 y2 y3 y4)) x0 x1 x2 x3 x4):=by
 simp only [bX,bZ,bY,b5,aoZ,AM,aoX aX bM h41 h42,aoY]
 rfl
def oy {R:Type} (N:Nat) (aX:aI→a8→Option gQ) (bM:aI→a8→Option kg) (k0:aI→V7→bV→Int→Int→Option R):Nat→aI→V7→bV→Int→Int→Option R
 | 0,_,_,_,_,_=>none
 | m+1,x0,x1,x2,x3,x4=>(ou N aX bM (oy N aX bM k0 m) k0 x0 x1 x2 x3 x4)
theorem aeY (aX) (bM) (h41:(gG aX).holds cl) (h42:(kO bM).holds cl):∀ (m) (x0 x1 x2 x3 x4),iter [0,5,21,22,23] (fun env K=>exec cl N ur env K) K m (fS x0 x1 x2 x3 x4)=oy N aX bM (fun y0 y1 y2 y3 y4=>K (.exit 0) (fS y0 y1 y2 y3 y4)) m x0 x1 x2 x3 x4:=by
 intro m
 induction m with
 | zero=>intros; rfl
 | succ m ih=>
   intro x0 x1 x2 x3 x4
   simp only [b9,ao0 aX bM h41 h42,cb,ca,cc,Kk,ih]
   rfl
theorem acx (x0 x1 x2 x3 x4):aj [0,5] (fS x0 x1 x2 x3 x4)=(uL x0 x1):=by kernel_rfl
def ov (N:Nat) (aX:aI→a8→Option gQ) (bM:aI→a8→Option kg) (k0:aI→V7→Option R) (x0:aI) (x1:V7) (x2:bV) (x3 x4:Int):Option R:=
oy N aX bM (fun y0 y1 y2 y3 y4=>k0 y0 y1) N x0 x1 x2 x3 x4
theorem ao1 (aX) (bM) (h41:(gG aX).holds cl) (h42:(kO bM).holds cl) (x0 x1 x2 x3 x4):exec cl N F4 (fS x0 x1 x2 x3 x4) K=(ov N aX bM (fun y0 y1=>K (.exit 0) (uL y0 y1)) x0 x1 x2 x3 x4):=by
 simp only [F4,aV,b8,Kk,aeY aX bM h41 h42,acx]
 rfl
theorem acy (x0 x1):aj [0,5] (uL x0 x1)=(uL x0 x1):=by kernel_rfl
def n9 (k0:aI→V7→Option R) (x0:aI) (x1:V7):Option R:=
k0 x0 x1
theorem aoS (x0 x1):exec cl N OP (uL x0 x1) K=(n9 (fun y0 y1=>K .ret (H3 y0 y1)) x0 x1):=by
 kernel_rfl
def od (N:Nat) (aX:aI→a8→Option gQ) (bM:aI→a8→Option kg) (cz:aI→a8→Option nJ) (k0:aI→V7→Option R) (k1:aI→V7→Option R) (x0:aI) (x1:a8):Option R:=
(oc k0 (n7 cz (ov N aX bM ((n9 k1)))) x0 x1)
theorem aoU (aX) (bM) (cz) (h41:(gG aX).holds cl) (h42:(kO bM).holds cl) (h74:(kP cz).holds cl) (x0 x1):exec cl N AK (rR x0 x1) K=(od N aX bM cz (fun y0 y1=>K .ret (H2 y0 y1)) (fun y0 y1=>K .ret (H3 y0 y1)) x0 x1):=by
 simp only [bX,bZ,bY,b5,aoT,AJ,OO,aoQ cz h74,ON,aV,cx,ao1 aX bM h41 h42,ct,cw,cq,acy,aoS]
 rfl
theorem aiL (y0 y1):ag d42 .ret (H2 y0 y1)=some [.loc bC (.pair .no (.pair .no (.pair .mp .no))) y0,.own true 27 U5 .no y1]:=by kernel_rfl
theorem aiM (y0 y1):ag d42 .ret (H3 y0 y1)=some [.loc bC (.pair .no (.pair .no (.pair .mp .no))) y0,.own true 27 U5 .no y1]:=by kernel_rfl
def np (N:Nat) (aX:aI→a8→Option gQ) (bM:aI→a8→Option kg) (cz:aI→a8→Option nJ) (x0:aI) (x1:a8) (k:aI→V7→Option R):Option R:=
(od N aX bM cz k k x0 x1)
theorem YE (aX) (bM) (cz) (h41:(gG aX).holds cl) (h42:(kO bM).holds cl) (h74:(kP cz).holds cl) (x0 x1) (k:List E→Option R):exec cl N FZ (rR x0 x1) (fun e env=>(ag d42 e env).bind k)=np N aX bM cz x0 x1 (fun r0 r1=>k [.loc bC (.pair .no (.pair .no (.pair .mp .no))) r0,.own true 27 U5 .no r1]):=by
 simp only [FZ,aoU aX bM cz h41 h42 h74,aiL,aiM,ar]
 rfl
def nI (N:Nat):Nat→aI→a8→Option kg
 | 0,_,_=>none
 | m+1,x0,x1=>np N (aX N) (nI N m) (cz N) x0 x1 (fun (r0:aI) (r1:V7)=>some (r0,r1))
def bM (N:Nat) (x0:aI) (x1:a8):Option kg:=nI N 250 x0 x1
def xf (k0:V0→ae→Int→Option R) (x0:ae) (x1:V0):Option R:=
k0 x1 x0 (0:Int)
theorem aoH (x0 x1):exec cl N AF (iu x0 x1) K=(xf (fun y0 y1 y2=>exec cl N AE [(1,.v U5 y0),(2,.loc ak .no y1),(5,.v U2 y2)] K) x0 x1):=by
 delta AF
 generalize AE=q
 revert q
 refine id ?_
 intro q
 kernel_rfl
def xb (k0:ae→Int→V0→Int→Int→Option R) (x0:V0) (x1:ae) (x2:Int):Option R:=
k0 x1 x2 x0 (x0.length:Int) (0:Int)
theorem aoD (x0 x1 x2):exec cl N OD [(1,.v U5 x0),(2,.loc ak .no x1),(5,.v U2 x2)] K=(xb (fun y0 y1 y2 y3 y4=>K .normal (lD y0 y1 y2 y3 y4)) x0 x1 x2):=by
 kernel_rfl
theorem Uf (x0 x1 x2 x3 x4):aj [2,5,8,9,10] (lD x0 x1 x2 x3 x4)=(lD x0 x1 x2 x3 x4):=by kernel_rfl
def xc (k0:ae→Int→V0→Int→Int→Option R) (k1:ae→Int→V0→Int→Int→Option R) (x0:ae) (x1:Int) (x2:V0) (x3 x4:Int):Option R:=
ad (decide (x4 < x3)) (if 0≤x4∧x4 < (x2.length:Int) then
if 0≤(x2.getD x4.toNat (0:Int))∧(x2.getD x4.toNat (0:Int)) < (x0.2.1.length:Int) then
k0 x0 (IntKind.i64.wrap (x1+(x0.2.1.getD (x2.getD x4.toNat (0:Int)).toNat ([],([],((0:Int),((0:Int),()))))).2.2.1)) x2 x3 (IntKind.i64.wrap (x4+(1:Int)))
else none
else none) (k1 x0 x1 x2 x3 x4)
theorem aoE (x0 x1 x2 x3 x4):exec cl N FT (lD x0 x1 x2 x3 x4) K=(xc (fun y0 y1 y2 y3 y4=>K .normal (lD y0 y1 y2 y3 y4)) (fun y0 y1 y2 y3 y4=>K (.exit 0) (lD y0 y1 y2 y3 y4)) x0 x1 x2 x3 x4):=by
 kernel_rfl
def ta {R:Type} (k0:ae→Int→V0→Int→Int→Option R):Nat→ae→Int→V0→Int→Int→Option R
 | 0,_,_,_,_,_=>none
 | m+1,x0,x1,x2,x3,x4=>(xc (ta k0 m) k0 x0 x1 x2 x3 x4)
theorem aeV:∀ (m) (x0 x1 x2 x3 x4),iter [2,5,8,9,10] (fun env K=>exec cl N FT env K) K m (lD x0 x1 x2 x3 x4)=ta (fun y0 y1 y2 y3 y4=>K (.exit 0) (lD y0 y1 y2 y3 y4)) m x0 x1 x2 x3 x4:=by
 intro m
 induction m with
 | zero=>intros; rfl
 | succ m ih=>
   intro x0 x1 x2 x3 x4
   simp only [b9,aoE,cb,ca,cc,Uf,ih]
   rfl
theorem acq (x0 x1 x2 x3 x4):aj [5] (lD x0 x1 x2 x3 x4)=[(5,.v U2 x1)]:=by kernel_rfl
def xd (N:Nat) (k0:Int→Option R) (x0:ae) (x1:Int) (x2:V0) (x3 x4:Int):Option R:=
ta (fun y0 y1 y2 y3 y4=>k0 y1) N x0 x1 x2 x3 x4
theorem aoF (x0 x1 x2 x3 x4):exec cl N FU (lD x0 x1 x2 x3 x4) K=(xd N (fun y0=>K (.exit 0) [(5,.v U2 y0)]) x0 x1 x2 x3 x4):=by
 simp only [FU,aV,b8,Uf,aeV,acq]
 rfl
theorem acr (x0):aj [5] [(5,.v U2 x0)]=[(5,.v U2 x0)]:=by kernel_rfl
def xe (k0:Int→Option R) (x0:Int):Option R:=
k0 x0
theorem aoG (x0):exec cl N OG [(5,.v U2 x0)] K=(xe (fun y0=>K .ret [(4,.v U2 y0)]) x0):=by
 kernel_rfl
def xg (N:Nat) (k0:Int→Option R) (x0:ae) (x1:V0):Option R:=
(xf (xb (xd N ((xe k0)))) x0 x1)
theorem aoI (x0 x1):exec cl N AF (iu x0 x1) K=(xg N (fun y0=>K .ret [(4,.v U2 y0)]) x0 x1):=by
 simp only [bX,bZ,bY,b5,aoH,AE,OF,aoD,OE,aV,cx,aoF,ct,cw,cq,acr,aoG]
 rfl
theorem aiG (y0):ag d38 .ret [(4,.v U2 y0)]=some [.v U2 y0]:=by kernel_rfl
def sx (N:Nat) (x0:ae) (x1:V0) (k:Int→Option R):Option R:=
(xg N k x0 x1)
theorem YB (x0 x1) (k:List E→Option R):exec cl N FR (iu x0 x1) (fun e env=>(ag d38 e env).bind k)=sx N x0 x1 (fun r0=>k [.v U2 r0]):=by
 simp only [FR,aoI,aiG,ar]
 rfl
def nV (S:ae→V0→Option (Int)):aO:=er 38 ak U5 S fun b=> [.v U2 b]
def cm (N:Nat) (x0:ae) (x1:V0):Option (Int):=sx N x0 x1 (fun (r0:Int)=>some (r0))
def Cn (k0:Bool→Option R) (x0:Int):Option R:=
k0 (x0 != x0)
theorem aqj (x0):exec cl N PV [(0,.v U2 x0)] K=(Cn (fun y0=>K .ret [(2,.v .bool y0)]) x0):=by
 kernel_rfl
theorem ajm (y0):ag d77 .ret [(2,.v .bool y0)]=some [.v .bool y0]:=by kernel_rfl
def xX (x0:Int) (k:Bool→Option R):Option R:=
(Cn k x0)
theorem YU (x0) (k:List E→Option R):exec cl N GP [(0,.v U2 x0)] (fun e env=>(ag d77 e env).bind k)=xX x0 (fun r0=>k [.v .bool r0]):=by
 simp only [GP,aqj,ajm,ar]
 rfl
def uI (S:Int→Option (Bool)):aO:=cI 77 U2 S fun b=> [.v .bool b]
def dT (N:Nat) (x0:Int):Option (Bool):=xX x0 (fun (r0:Bool)=>some (r0))
def Jr (dT:Int→Option (Bool)) (k0:Int→Option R) (k1:Int→Option R) (k2:Int→Option R) (x0 x1:Int):Option R:=
(dT x0).bind fun r1316=>
(dT x1).bind fun r1317=>
ad r1316 (ad r1317 (k0 (0:Int)) (k0 (-1:Int))) (ad r1317 (k1 (1:Int)) (ad (decide (x0 < x1)) (k1 (-1:Int)) (ad (decide (x0 > x1)) (k2 (1:Int)) (k2 (0:Int)))))
theorem ao9 (dT) (h77:(uI dT).holds cl) (x0 x1):exec cl N OW (rW x0 x1) K=(Jr dT (fun y0=>K .ret [(0,.dead),(1,.dead),(4,.v U2 y0),(6,.dead)]) (fun y0=>K .ret (lZ y0)) (fun y0=>K .ret [(4,.v U2 y0)]) x0 x1):=by
 rw [←aM h77]
 kernel_rfl
theorem aiQ (y0):ag d46 .ret [(0,.dead),(1,.dead),(4,.v U2 y0),(6,.dead)]=some [.v U2 y0]:=by kernel_rfl
theorem aiR (y0):ag d46 .ret (lZ y0)=some [.v U2 y0]:=by kernel_rfl
theorem aiS (y0):ag d46 .ret [(4,.v U2 y0)]=some [.v U2 y0]:=by kernel_rfl
def Ci (dT:Int→Option (Bool)) (x0 x1:Int) (k:Int→Option R):Option R:=
(Jr dT k k k x0 x1)
theorem YH (dT) (h77:(uI dT).holds cl) (x0 x1) (k:List E→Option R):exec cl N F9 (rW x0 x1) (fun e env=>(ag d46 e env).bind k)=Ci dT x0 x1 (fun r0=>k [.v U2 r0]):=by
 simp only [F9,ao9 dT h77,aiQ,aiR,aiS,ar]
 rfl
def nW (S:Int→Int→Option (Int)):aO:=er 46 U2 U2 S fun b=> [.v U2 b]
def cy (N:Nat) (x0:Int) (x1:Int):Option (Int):=Ci (dT N) x0 x1 (fun (r0:Int)=>some (r0))
def xp (k0:V0→V0→Option R) (x0 x1:V0):Option R:=
k0 x0 x1
theorem apa (x0 x1):exec cl N OX (kR x0 x1) K=(xp (fun y0 y1=>K .normal (kR y0 y1)) x0 x1):=by
 kernel_rfl
def xr (k0:V0→V0→V0→Int→Int→Option R) (x0 x1:V0):Option R:=
k0 x0 x1 x0 (x0.length:Int) (0:Int)
theorem apb (x0 x1):exec cl N OY (kR x0 x1) K=(xr (fun y0 y1 y2 y3 y4=>K .normal (lF y0 y1 y2 y3 y4)) x0 x1):=by
 kernel_rfl
theorem Uj (x0 x1 x2 x3 x4):aj [0,1,9,10,11] (lF x0 x1 x2 x3 x4)=(lF x0 x1 x2 x3 x4):=by kernel_rfl
def xu (cy:Int→Int→Option (Int)) (k0:Int→Option R) (k1:V0→V0→V0→Int→Int→Option R) (k2:V0→V0→V0→Int→Int→Option R) (x0 x1 x2:V0) (x3 x4:Int):Option R:=
ad (decide (x4 < x3)) (if 0≤x4∧x4 < (x2.length:Int) then
ad (decide (x4≥(x1.length:Int))) (k0 (1:Int)) (if 0≤x4∧x4 < (x1.length:Int) then
(cy (x2.getD x4.toNat (0:Int)) (x1.getD x4.toNat (0:Int))).bind fun r1329=>
ad (r1329 != (0:Int)) (k0 r1329) (k1 x0 x1 x2 x3 (IntKind.i64.wrap (x4+(1:Int))))
else none)
else none) (k2 x0 x1 x2 x3 x4)
theorem apc (cy) (h46:(nW cy).holds cl) (x0 x1 x2 x3 x4):exec cl N Gb (lF x0 x1 x2 x3 x4) K=(xu cy (fun y0=>K .ret (H4 y0)) (fun y0 y1 y2 y3 y4=>K .normal (lF y0 y1 y2 y3 y4)) (fun y0 y1 y2 y3 y4=>K (.exit 0) (lF y0 y1 y2 y3 y4)) x0 x1 x2 x3 x4):=by
 rw [←aM h46]
 kernel_rfl
def te {R:Type} (cy:Int→Int→Option (Int)) (k0:Int→Option R) (k1:V0→V0→V0→Int→Int→Option R):Nat→V0→V0→V0→Int→Int→Option R
 | 0,_,_,_,_,_=>none
 | m+1,x0,x1,x2,x3,x4=>(xu cy k0 (te cy k0 k1 m) k1 x0 x1 x2 x3 x4)
theorem ae0 (cy) (h46:(nW cy).holds cl):∀ (m) (x0 x1 x2 x3 x4),iter [0,1,9,10,11] (fun env K=>exec cl N Gb env K) K m (lF x0 x1 x2 x3 x4)=te cy (fun y0=>K .ret (H4 y0)) (fun y0 y1 y2 y3 y4=>K (.exit 0) (lF y0 y1 y2 y3 y4)) m x0 x1 x2 x3 x4:=by
 intro m
 induction m with
 | zero=>intros; rfl
 | succ m ih=>
   intro x0 x1 x2 x3 x4
   simp only [b9,apc cy h46,cb,ca,cc,Uj,ih]
   rfl
theorem acD (x0):aj [0,1,4] (H4 x0)=(lZ x0):=by kernel_rfl
theorem acE (x0 x1 x2 x3 x4):aj [0,1,4] (lF x0 x1 x2 x3 x4)=(ni x0 x1):=by kernel_rfl
def xw (N:Nat) (cy:Int→Int→Option (Int)) (k0:Int→Option R) (k1:V0→V0→Option R) (x0 x1 x2:V0) (x3 x4:Int):Option R:=
te cy k0 (fun y0 y1 y2 y3 y4=>k1 y0 y1) N x0 x1 x2 x3 x4
theorem apd (cy) (h46:(nW cy).holds cl) (x0 x1 x2 x3 x4):exec cl N Gc (lF x0 x1 x2 x3 x4) K=(xw N cy (fun y0=>K .ret (lZ y0)) (fun y0 y1=>K (.exit 0) (ni y0 y1)) x0 x1 x2 x3 x4):=by
 simp only [Gc,aV,b8,Uj,ae0 cy h46,acD,acE]
 rfl
theorem acF (x0):aj [0,1,4] (lZ x0)=(lZ x0):=by kernel_rfl
theorem acG (x0 x1):aj [0,1,4] (ni x0 x1)=(ni x0 x1):=by kernel_rfl
def xx (k0:Int→Option R) (x0 x1:V0):Option R:=
ad (decide ((x0.length:Int) < (x1.length:Int))) (k0 (-1:Int)) (k0 (0:Int))
theorem ape (x0 x1):exec cl N O1 (ni x0 x1) K=(xx (fun y0=>K .ret [(4,.v U2 y0)]) x0 x1):=by
 kernel_rfl
def xy (N:Nat) (cy:Int→Int→Option (Int)) (k0:Int→Option R) (k1:Int→Option R) (x0 x1:V0):Option R:=
(xp (xr (xw N cy k0 ((xx k1)))) x0 x1)
theorem apf (cy) (h46:(nW cy).holds cl) (x0 x1):exec cl N Ge (kR x0 x1) K=(xy N cy (fun y0=>K .ret (lZ y0)) (fun y0=>K .ret [(4,.v U2 y0)]) x0 x1):=by
 simp only [Ge,bX,bZ,bY,b5,apa,O2,O0,apb,OZ,aV,cx,apd cy h46,ct,cw,cq,acF,acG,ape]
 rfl
theorem aiT (y0):ag d47 .ret (lZ y0)=some [.v U2 y0]:=by kernel_rfl
theorem aiU (y0):ag d47 .ret [(4,.v U2 y0)]=some [.v U2 y0]:=by kernel_rfl
def sG (N:Nat) (cy:Int→Int→Option (Int)) (x0 x1:V0) (k:Int→Option R):Option R:=
(xy N cy k k x0 x1)
theorem YI (cy) (h46:(nW cy).holds cl) (x0 x1) (k:List E→Option R):exec cl N Ga (kR x0 x1) (fun e env=>(ag d47 e env).bind k)=sG N cy x0 x1 (fun r0=>k [.v U2 r0]):=by
 simp only [Ga,apf cy h46,aiT,aiU,ar]
 rfl
def HK (S:V0→V0→Option (Int)):aO:=er 47 U5 U5 S fun b=> [.v U2 b]
def ic (N:Nat) (x0:V0) (x1:V0):Option (Int):=sG N (cy N) x0 x1 (fun (r0:Int)=>some (r0))
def sE (k0:V0→Int→Option R) (x0:V0):Option R:=
k0 x0 (0:Int)
theorem ao7 (x0):exec cl N AO [(0,.v U5 x0)] K=(sE (fun y0 y1=>exec cl N AN (kp y0 y1) K) x0):=by
 delta AO
 generalize AN=q
 revert q
 refine id ?_
 intro q
 kernel_rfl
def sA (k0:Int→V0→Int→Int→Option R) (x0:V0) (x1:Int):Option R:=
k0 x1 x0 (x0.length:Int) (0:Int)
theorem ao3 (x0 x1):exec cl N OS (kp x0 x1) K=(sA (fun y0 y1 y2 y3=>K .normal (lG y0 y1 y2 y3)) x0 x1):=by
 kernel_rfl
theorem Ui (x0 x1 x2 x3):aj [3,6,7,8] (lG x0 x1 x2 x3)=(lG x0 x1 x2 x3):=by kernel_rfl
def sB (k0:Int→Option R) (k1:Int→V0→Int→Int→Option R) (k2:Int→V0→Int→Int→Option R) (x0:Int) (x1:V0) (x2 x3:Int):Option R:=
ad (decide (x3 < x2)) (if 0≤x3∧x3 < (x1.length:Int) then
ad ((x1.getD x3.toNat (0:Int)) != x0) (k0 (x1.getD x3.toNat (0:Int))) (k1 x0 x1 x2 (IntKind.i64.wrap (x3+(1:Int))))
else none) (k2 x0 x1 x2 x3)
theorem ao4 (x0 x1 x2 x3):exec cl N F7 (lG x0 x1 x2 x3) K=(sB (fun y0=>K .ret (H5 y0)) (fun y0 y1 y2 y3=>K .normal (lG y0 y1 y2 y3)) (fun y0 y1 y2 y3=>K (.exit 0) (lG y0 y1 y2 y3)) x0 x1 x2 x3):=by
 kernel_rfl
def nt {R:Type} (k0:Int→Option R) (k1:Int→V0→Int→Int→Option R):Nat→Int→V0→Int→Int→Option R
 | 0,_,_,_,_=>none
 | m+1,x0,x1,x2,x3=>(sB k0 (nt k0 k1 m) k1 x0 x1 x2 x3)
theorem aeZ:∀ (m) (x0 x1 x2 x3),iter [3,6,7,8] (fun env K=>exec cl N F7 env K) K m (lG x0 x1 x2 x3)=nt (fun y0=>K .ret (H5 y0)) (fun y0 y1 y2 y3=>K (.exit 0) (lG y0 y1 y2 y3)) m x0 x1 x2 x3:=by
 intro m
 induction m with
 | zero=>intros; rfl
 | succ m ih=>
   intro x0 x1 x2 x3
   simp only [b9,ao4,cb,ca,cc,Ui,ih]
   rfl
theorem acz (x0):aj [2,3] (H5 x0)=(kq x0):=by kernel_rfl
theorem acA (x0 x1 x2 x3):aj [2,3] (lG x0 x1 x2 x3)=(l8 x0):=by kernel_rfl
def sC (N:Nat) (k0:Int→Option R) (k1:Int→Option R) (x0:Int) (x1:V0) (x2 x3:Int):Option R:=
nt k0 (fun y0 y1 y2 y3=>k1 y0) N x0 x1 x2 x3
theorem ao5 (x0 x1 x2 x3):exec cl N F8 (lG x0 x1 x2 x3) K=(sC N (fun y0=>K .ret (kq y0)) (fun y0=>K (.exit 0) (l8 y0)) x0 x1 x2 x3):=by
 simp only [F8,aV,b8,Ui,aeZ,acz,acA]
 rfl
theorem acB (x0):aj [2,3] (kq x0)=(kq x0):=by kernel_rfl
theorem acC (x0):aj [2,3] (l8 x0)=(l8 x0):=by kernel_rfl
def sD (k0:Int→Option R) (x0:Int):Option R:=
k0 x0
theorem ao6 (x0):exec cl N OV (l8 x0) K=(sD (fun y0=>K .ret [(2,.v U2 y0)]) x0):=by
 kernel_rfl
def sF (N:Nat) (k0:Int→Option R) (k1:Int→Option R) (x0:V0):Option R:=
(sE (sA (sC N k0 ((sD k1)))) x0)
theorem ao8 (x0):exec cl N AO [(0,.v U5 x0)] K=(sF N (fun y0=>K .ret (kq y0)) (fun y0=>K .ret [(2,.v U2 y0)]) x0):=by
 simp only [bX,bZ,bY,b5,ao7,AN,OU,ao3,OT,aV,cx,ao5,ct,cw,cq,acB,acC,ao6]
 rfl
theorem aiO (y0):ag d45 .ret (kq y0)=some [.v U2 y0]:=by kernel_rfl
theorem aiP (y0):ag d45 .ret [(2,.v U2 y0)]=some [.v U2 y0]:=by kernel_rfl
def pZ (N:Nat) (x0:V0) (k:Int→Option R):Option R:=
(sF N k k x0)
theorem YG (x0) (k:List E→Option R):exec cl N F6 [(0,.v U5 x0)] (fun e env=>(ag d45 e env).bind k)=pZ N x0 (fun r0=>k [.v U2 r0]):=by
 simp only [F6,ao8,aiO,aiP,ar]
 rfl
def HJ (S:V0→Option (Int)):aO:=cI 45 U5 S fun b=> [.v U2 b]
def ib (N:Nat) (x0:V0):Option (Int):=pZ N x0 (fun (r0:Int)=>some (r0))
def Jq (cm:ae→V0→Option (Int)) (ib:V0→Option (Int)) (cy:Int→Int→Option (Int)) (ic:V0→V0→Option (Int)) (k0:Int→Option R) (x0 x1:V0) (x2:ae):Option R:=
(cm x2 x0).bind fun r1341=>
(cm x2 x1).bind fun r1342=>
(cy r1341 r1342).bind fun r1343=>
(ic x0 x1).bind fun r1344=>
(ib [r1343,r1344]).bind fun r1345=>
k0 r1345
theorem ao2 (cm) (ib) (cy) (ic) (h38:(nV cm).holds cl) (h45:(HJ ib).holds cl) (h46:(nW cy).holds cl) (h47:(HK ic).holds cl) (x0 x1 x2):exec cl N OR [(0,.v U5 x0),(1,.v U5 x1),(2,.at ak x2)] K=(Jq cm ib cy ic (fun y0=>K .ret [(5,.v U2 y0)]) x0 x1 x2):=by
 rw [←aM h38]
 rw [←aM h45]
 rw [←aM h46]
 rw [←aM h47]
 kernel_rfl
theorem aiN (y0):ag d44 .ret [(5,.v U2 y0)]=some [.v U2 y0]:=by kernel_rfl
def Cg (cm:ae→V0→Option (Int)) (ib:V0→Option (Int)) (cy:Int→Int→Option (Int)) (ic:V0→V0→Option (Int)) (x0 x1:V0) (x2:ae) (k:Int→Option R):Option R:=
(Jq cm ib cy ic k x0 x1 x2)
theorem YF (cm) (ib) (cy) (ic) (h38:(nV cm).holds cl) (h45:(HJ ib).holds cl) (h46:(nW cy).holds cl) (h47:(HK ic).holds cl) (x0 x1 x2) (k:List E→Option R):exec cl N F5 [(0,.v U5 x0),(1,.v U5 x1),(2,.at ak x2)] (fun e env=>(ag d44 e env).bind k)=Cg cm ib cy ic x0 x1 x2 (fun r0=>k [.v U2 r0]):=by
 simp only [F5,ao2 cm ib cy ic h38 h45 h46 h47,aiN,ar]
 rfl
def HI (S:V0→V0→ae→Option (Int)):aO:={A:=V0×V0×ae×Unit,B:=Int,f:=44,enc:=fun a=> [.v U5 a.1,.v U5 a.2.1,.at ak a.2.2.1],dec:=(bg (bG U5) (bg (bG U5) (bg (pn ak) cj))),S:=fun a=>S a.1 a.2.1 a.2.2.1,av:=fun b=> [.v U2 b],ok:=(gi (T:=U5) (gi (T:=U5) (BA (T:=ak) (fun es b h=>iq h))))}
def gD (N:Nat) (x0:V0) (x1:V0) (x2:ae):Option (Int):=Cg (cm N) (ib N) (cy N) (ic N) x0 x1 x2 (fun (r0:Int)=>some (r0))
def Jl (bS:ae→V4→Option (Int)) (aX:aI→a8→Option gQ) (bM:aI→a8→Option kg) (eX:zq→V7→Option Dx) (gD:V0→V0→ae→Option (Int)) (k0:V7→Int→Option R) (k1:V7→Int→Option R) (k2:Int→V7→Option R) (x0:ae) (x1:V4):Option R:=
(bS x0 x1).bind fun r1349=>
ad (r1349 != (0:Int)) (k0 [] r1349) (let v1351:a8:=((-1:Int),(-1:Int),(0:Int),())
(aX (x0,x1,[],()) v1351).bind fun r1352=>
ad (r1352.2==(0:Int)) (k1 [] (9:Int)) (ad (decide (r1352.2 > (200:Int))) (k1 [] (3:Int)) ((bM r1352.1 v1351).bind fun r1355=>
(eX (fun (x1356:zo)=>((gD x1356.1 x1356.2.1 x0).bind fun b1357=>some [.v U2 b1357]).bind (jZ U2)) r1355.2).bind fun r1358=>
k2 (0:Int) r1358)))
theorem anw (bS) (aX) (bM) (eX) (gD) (h40:(nc bS).holds cl) (h41:(gG aX).holds cl) (h42:(kO bM).holds cl) (h43:(jU eX).holds cl) (h44:(HI gD).holds cl) (x0 x1):exec cl N NH (nh x0 x1) K=(Jl bS aX bM eX gD (fun y0 y1=>K .ret (QT y0 y1)) (fun y0 y1=>K .ret (QU y0 y1)) (fun y0 y1=>K .ret (QV y0 y1)) x0 x1):=by
 rw [←aM h40]
 rw [←aM h41]
 rw [←aM h42]
 rw [←aM h43]
 rw [←aM h44]
 kernel_rfl
theorem aik (y0 y1):ag d16 .ret (QT y0 y1)=some [.own true 27 U5 .no y0,.v U2 y1]:=by kernel_rfl
theorem ail (y0 y1):ag d16 .ret (QU y0 y1)=some [.own true 27 U5 .no y0,.v U2 y1]:=by kernel_rfl
theorem aim (y0 y1):ag d16 .ret (QV y0 y1)=some [.own true 27 U5 .no y1,.v U2 y0]:=by kernel_rfl
def g16 (bS:ae→V4→Option (Int)) (aX:aI→a8→Option gQ) (bM:aI→a8→Option kg) (eX:zq→V7→Option Dx) (gD:V0→V0→ae→Option (Int)) (x0:ae) (x1:V4) (k:V7→Int→Option R):Option R:=
(Jl bS aX bM eX gD k k (fun y0 y1=>k y1 y0) x0 x1)
theorem Yo (bS) (aX) (bM) (eX) (gD) (h40:(nc bS).holds cl) (h41:(gG aX).holds cl) (h42:(kO bM).holds cl) (h43:(jU eX).holds cl) (h44:(HI gD).holds cl) (x0 x1) (k:List E→Option R):exec cl N E8 (nh x0 x1) (fun e env=>(ag d16 e env).bind k)=g16 bS aX bM eX gD x0 x1 (fun r0 r1=>k [.own true 27 U5 .no r0,.v U2 r1]):=by
 simp only [E8,anw bS aX bM eX gD h40 h41 h42 h43 h44,aik,ail,aim,ar]
 rfl
def nT (S:ae→V4→Option mU):aO:=er 16 ak .str S fun b=> [.own true 27 U5 .no b.1,.v U2 b.2]
def cg (N:Nat) (x0:ae) (x1:V4):Option mU:=g16 (bS N) (aX N) (bM N) (eX N) (gD N) x0 x1 (fun (r0:V7) (r1:Int)=>some (r0,r1))
def I9 (cg:ae→V4→Option mU) (cm:ae→V0→Option (Int)) (k0:V0→Int→Int→Option R) (k1:V0→Int→Int→Option R) (x0:ae) (x1:V4):Option R:=
(cg x0 x1).bind fun r1366=>
ad (r1366.2 != (0:Int)) (k0 [] (0:Int) r1366.2) (if 0≤(0:Int)∧(0:Int) < (r1366.1.length:Int) then
if ((0:Int).toNat) < r1366.1.length then
if 0≤(0:Int)∧(0:Int) < (r1366.1.length:Int) then
if ((0:Int).toNat) < r1366.1.length then
(cm x0 (r1366.1.getD ((0:Int).toNat) [])).bind fun r1370=>
k1 (r1366.1.getD ((0:Int).toNat) []) r1370 (0:Int)
else none
else none
else none
else none)
theorem amG (cg) (cm) (h16:(nT cg).holds cl) (h38:(nV cm).holds cl) (x0 x1):exec cl N MZ (nh x0 x1) K=(I9 cg cm (fun y0 y1 y2=>K .ret (QW y0 y1 y2)) (fun y0 y1 y2=>K .ret [(4,.v U5 y0),(5,.v U2 y1),(6,.v U2 y2)]) x0 x1):=by
 rw [←aM h16]
 rw [←aM h38]
 kernel_rfl
theorem ahT (y0 y1 y2):ag d13 .ret (QW y0 y1 y2)=some [.v U5 y0,.v U2 y1,.v U2 y2]:=by kernel_rfl
theorem ahU (y0 y1 y2):ag d13 .ret [(4,.v U5 y0),(5,.v U2 y1),(6,.v U2 y2)]=some [.v U5 y0,.v U2 y1,.v U2 y2]:=by kernel_rfl
def g13 (cg:ae→V4→Option mU) (cm:ae→V0→Option (Int)) (x0:ae) (x1:V4) (k:V0→Int→Int→Option R):Option R:=
(I9 cg cm k k x0 x1)
theorem X2 (cg) (cm) (h16:(nT cg).holds cl) (h38:(nV cm).holds cl) (x0 x1) (k:List E→Option R):exec cl N Ep (nh x0 x1) (fun e env=>(ag d13 e env).bind k)=g13 cg cm x0 x1 (fun r0 r1 r2=>k [.v U5 r0,.v U2 r1,.v U2 r2]):=by
 simp only [Ep,amG cg cm h16 h38,ahT,ahU,ar]
 rfl
def Hv (S:ae→V4→Option zn):aO:=er 13 ak .str S fun b=> [.v U5 b.1,.v U2 b.2.1,.v U2 b.2.2]
def gN (N:Nat) (x0:ae) (x1:V4):Option zn:=g13 (cg N) (cm N) x0 x1 (fun (r0:V0) (r1:Int) (r2:Int)=>some (r0,r1,r2))
def xD (k0:V0→ae→V4→Option R) (x0:ae) (x1:V0):Option R:=
k0 x1 x0 ([]:List UInt8)
theorem apu (x0 x1):exec cl N AS (iu x0 x1) K=(xD (fun y0 y1 y2=>exec cl N AR [(1,.v U5 y0),(2,.loc ak .no y1),(6,.sb 123 5 y2)] K) x0 x1):=by
 delta AS
 generalize AR=q
 revert q
 refine id ?_
 intro q
 kernel_rfl
def xz (k0:ae→V4→V0→Int→Int→Option R) (x0:V0) (x1:ae) (x2:V4):Option R:=
k0 x1 x2 x0 (x0.length:Int) (0:Int)
theorem apq (x0 x1 x2):exec cl N O9 [(1,.v U5 x0),(2,.loc ak .no x1),(6,.sb 123 5 x2)] K=(xz (fun y0 y1 y2 y3 y4=>K .normal (lI y0 y1 y2 y3 y4)) x0 x1 x2):=by
 kernel_rfl
theorem Ul (x0 x1 x2 x3 x4):aj [2,6,9,10,11] (lI x0 x1 x2 x3 x4)=(lI x0 x1 x2 x3 x4):=by kernel_rfl
def xA (cG:V4→V4→Option V6) (k0:V4→Bool→Option R) (k1:ae→V4→V0→Int→Int→Option R) (k2:ae→V4→V0→Int→Int→Option R) (x0:ae) (x1:V4) (x2:V0) (x3 x4:Int):Option R:=
ad (decide (x4 < x3)) (if 0≤x4∧x4 < (x2.length:Int) then
ad (decide ((x2.getD x4.toNat (0:Int)) < (0:Int))) (k0 ([]:List UInt8) false) (ad (decide ((x2.getD x4.toNat (0:Int))≥(x0.2.1.length:Int))) (k0 ([]:List UInt8) false) (if 0≤(x2.getD x4.toNat (0:Int))∧(x2.getD x4.toNat (0:Int)) < (x0.2.1.length:Int) then
(cG x1 ((x0.2.1.getD (x2.getD x4.toNat (0:Int)).toNat ([],([],((0:Int),((0:Int),()))))).1)).bind fun r1384=>
k1 x0 r1384 x2 x3 (IntKind.i64.wrap (x4+(1:Int)))
else none))
else none) (k2 x0 x1 x2 x3 x4)
theorem apr (cG) (h84:(im cG).holds cl) (x0 x1 x2 x3 x4):exec cl N Gm (lI x0 x1 x2 x3 x4) K=(xA cG (fun y0 y1=>K .ret (H6 y0 y1)) (fun y0 y1 y2 y3 y4=>K .normal (lI y0 y1 y2 y3 y4)) (fun y0 y1 y2 y3 y4=>K (.exit 0) (lI y0 y1 y2 y3 y4)) x0 x1 x2 x3 x4):=by
 rw [←aM h84]
 kernel_rfl
def tf {R:Type} (cG:V4→V4→Option V6) (k0:V4→Bool→Option R) (k1:ae→V4→V0→Int→Int→Option R):Nat→ae→V4→V0→Int→Int→Option R
 | 0,_,_,_,_,_=>none
 | m+1,x0,x1,x2,x3,x4=>(xA cG k0 (tf cG k0 k1 m) k1 x0 x1 x2 x3 x4)
theorem ae2 (cG) (h84:(im cG).holds cl):∀ (m) (x0 x1 x2 x3 x4),iter [2,6,9,10,11] (fun env K=>exec cl N Gm env K) K m (lI x0 x1 x2 x3 x4)=tf cG (fun y0 y1=>K .ret (H6 y0 y1)) (fun y0 y1 y2 y3 y4=>K (.exit 0) (lI y0 y1 y2 y3 y4)) m x0 x1 x2 x3 x4:=by
 intro m
 induction m with
 | zero=>intros; rfl
 | succ m ih=>
   intro x0 x1 x2 x3 x4
   simp only [b9,apr cG h84,cb,ca,cc,Ul,ih]
   rfl
theorem acL (x0 x1):aj [4,5,6] (H6 x0 x1)=(rS x0 x1):=by kernel_rfl
theorem acM (x0 x1 x2 x3 x4):aj [4,5,6] (lI x0 x1 x2 x3 x4)=(uM x1):=by kernel_rfl
def xB (N:Nat) (cG:V4→V4→Option V6) (k0:V4→Bool→Option R) (k1:V4→Option R) (x0:ae) (x1:V4) (x2:V0) (x3 x4:Int):Option R:=
tf cG k0 (fun y0 y1 y2 y3 y4=>k1 y1) N x0 x1 x2 x3 x4
theorem aps (cG) (h84:(im cG).holds cl) (x0 x1 x2 x3 x4):exec cl N Gn (lI x0 x1 x2 x3 x4) K=(xB N cG (fun y0 y1=>K .ret (rS y0 y1)) (fun y0=>K (.exit 0) (uM y0)) x0 x1 x2 x3 x4):=by
 simp only [Gn,aV,b8,Ul,ae2 cG h84,acL,acM]
 rfl
theorem acN (x0 x1):aj [4,5,6] (rS x0 x1)=(rS x0 x1):=by kernel_rfl
theorem acO (x0):aj [4,5,6] (uM x0)=(uM x0):=by kernel_rfl
def xC (ej:V4→Option V6) (k0:V4→Bool→Option R) (x0:V4):Option R:=
(ej x0).bind fun r1386=>
k0 r1386 true
theorem apt (ej) (h85:(jj ej).holds cl) (x0):exec cl N Pc (uM x0) K=(xC ej (fun y0 y1=>K .ret [(4,.v .str y0),(5,.v .bool y1)]) x0):=by
 rw [←aM h85]
 kernel_rfl
def xE (N:Nat) (cG:V4→V4→Option V6) (ej:V4→Option V6) (k0:V4→Bool→Option R) (k1:V4→Bool→Option R) (x0:ae) (x1:V0):Option R:=
(xD (xz (xB N cG k0 ((xC ej k1)))) x0 x1)
theorem apv (cG) (ej) (h84:(im cG).holds cl) (h85:(jj ej).holds cl) (x0 x1):exec cl N AS (iu x0 x1) K=(xE N cG ej (fun y0 y1=>K .ret (rS y0 y1)) (fun y0 y1=>K .ret [(4,.v .str y0),(5,.v .bool y1)]) x0 x1):=by
 simp only [bX,bZ,bY,b5,apu,AR,Pb,apq,Pa,aV,cx,aps cG h84,ct,cw,cq,acN,acO,apt ej h85]
 rfl
theorem ai0 (y0 y1):ag d57 .ret (rS y0 y1)=some [.v .str y0,.v .bool y1]:=by kernel_rfl
theorem ai1 (y0 y1):ag d57 .ret [(4,.v .str y0),(5,.v .bool y1)]=some [.v .str y0,.v .bool y1]:=by kernel_rfl
def sI (N:Nat) (cG:V4→V4→Option V6) (ej:V4→Option V6) (x0:ae) (x1:V0) (k:V4→Bool→Option R):Option R:=
(xE N cG ej k k x0 x1)
theorem YL (cG) (ej) (h84:(im cG).holds cl) (h85:(jj ej).holds cl) (x0 x1) (k:List E→Option R):exec cl N Gk (iu x0 x1) (fun e env=>(ag d57 e env).bind k)=sI N cG ej x0 x1 (fun r0 r1=>k [.v .str r0,.v .bool r1]):=by
 simp only [Gk,apv cG ej h84 h85,ai0,ai1,ar]
 rfl
def nX (S:ae→V0→Option mT):aO:=er 57 ak U5 S fun b=> [.v .str b.1,.v .bool b.2]
def cB (N:Nat) (x0:ae) (x1:V0):Option mT:=sI N (cG N) (ej N) x0 x1 (fun (r0:V4) (r1:Bool)=>some (r0,r1))
def Ju (cB:ae→V0→Option mT) (eA:ae→Option (Int)) (k0:Int→Option R) (k1:Int→Option R) (x0:ae) (x1:V0):Option R:=
(eA x0).bind fun r1388=>
ad (r1388 != (0:Int)) (k0 r1388) (ad (decide ((x1.length:Int) > (16:Int))) (k0 (3:Int)) ((cB x0 x1).bind fun r1391=>
ad (!r1391.2) (k1 (6:Int)) (k1 (0:Int))))
theorem apo (cB) (eA) (h57:(nX cB).holds cl) (h70:(uG eA).holds cl) (x0 x1):exec cl N O8 (iu x0 x1) K=(Ju cB eA (fun y0=>K .ret [(1,.dead),(2,.dead),(4,.v U2 y0)]) (fun y0=>K .ret [(4,.v U2 y0)]) x0 x1):=by
 rw [←aM h57]
 rw [←aM h70]
 kernel_rfl
theorem aiY (y0):ag d55 .ret [(1,.dead),(2,.dead),(4,.v U2 y0)]=some [.v U2 y0]:=by kernel_rfl
theorem aiZ (y0):ag d55 .ret [(4,.v U2 y0)]=some [.v U2 y0]:=by kernel_rfl
def Cj (cB:ae→V0→Option mT) (eA:ae→Option (Int)) (x0:ae) (x1:V0) (k:Int→Option R):Option R:=
(Ju cB eA k k x0 x1)
theorem YK (cB) (eA) (h57:(nX cB).holds cl) (h70:(uG eA).holds cl) (x0 x1) (k:List E→Option R):exec cl N Gj (iu x0 x1) (fun e env=>(ag d55 e env).bind k)=Cj cB eA x0 x1 (fun r0=>k [.v U2 r0]):=by
 simp only [Gj,apo cB eA h57 h70,aiY,aiZ,ar]
 rfl
def nd (S:ae→V0→Option (Int)):aO:=er 55 ak U5 S fun b=> [.v U2 b]
def bT (N:Nat) (x0:ae) (x1:V0):Option (Int):=Cj (cB N) (eA N) x0 x1 (fun (r0:Int)=>some (r0))
def pT (bT:ae→V0→Option (Int)) (k0:V0→Int→Option R) (k1:V0→ae→V0→Int→Option R) (x0:ae) (x1:V0):Option R:=
(bT x0 x1).bind fun r1399=>
ad (r1399 != (0:Int)) (k0 [] r1399) (k1 x1 x0 [] (0:Int))
theorem an3 (bT) (h55:(nd bT).holds cl) (x0 x1):exec cl N Aw (iu x0 x1) K=(pT bT (fun y0 y1=>K .ret (H7 y0 y1)) (fun y0 y1 y2 y3=>exec cl N Av (QX y0 y1 y2 y3) K) x0 x1):=by
 rw [←aM h55]
 delta Aw
 generalize Av=q
 revert q
 refine id ?_
 intro q
 kernel_rfl
def pM (k0:ae→V0→Int→V0→Int→Int→Option R) (x0:V0) (x1:ae) (x2:V0) (x3:Int):Option R:=
k0 x1 x2 x3 x0 (x0.length:Int) (0:Int)
theorem anW (x0 x1 x2 x3):exec cl N NV (QX x0 x1 x2 x3) K=(pM (fun y0 y1 y2 y3 y4 y5=>K .normal (gR y0 y1 y2 y3 y4 y5)) x0 x1 x2 x3):=by
 kernel_rfl
theorem Kj (x0 x1 x2 x3 x4 x5):aj [2,7,8,17,18,19] (gR x0 x1 x2 x3 x4 x5)=(gR x0 x1 x2 x3 x4 x5):=by kernel_rfl
def pP (k0:ae→V0→Int→V0→Int→Int→Option R) (k1:ae→V0→Int→V0→Int→Int→Option R) (x0:ae) (x1:V0) (x2:Int) (x3:V0) (x4 x5:Int):Option R:=
ad (decide (x5 < x4)) (k0 x0 x1 x2 x3 x4 x5) (k1 x0 x1 x2 x3 x4 x5)
theorem anZ (x0 x1 x2 x3 x4 x5):exec cl N uq (gR x0 x1 x2 x3 x4 x5) K=(pP (fun y0 y1 y2 y3 y4 y5=>exec cl N Au (gR y0 y1 y2 y3 y4 y5) K) (fun y0 y1 y2 y3 y4 y5=>K (.exit 0) (gR y0 y1 y2 y3 y4 y5)) x0 x1 x2 x3 x4 x5):=by
 delta uq
 generalize Au=q
 revert q
 refine id ?_
 intro q
 kernel_rfl
def pN (k0:ae→V0→Int→Int→V0→Int→Int→Option R) (x0:ae) (x1:V0) (x2:Int) (x3:V0) (x4 x5:Int):Option R:=
if 0≤x5∧x5 < (x3.length:Int) then
k0 x0 x1 x2 (x3.getD x5.toNat (0:Int)) x3 x4 x5
else none
theorem anX (x0 x1 x2 x3 x4 x5):exec cl N NW (gR x0 x1 x2 x3 x4 x5) K=(pN (fun y0 y1 y2 y3 y4 y5 y6=>K .normal (pt y0 y1 y2 y3 y4 y5 y6)) x0 x1 x2 x3 x4 x5):=by
 kernel_rfl
def pV (k0:ae→V0→Int→Int→V0→Int→Int→Int→Int→Option R) (x0:ae) (x1:V0) (x2 x3:Int) (x4:V0) (x5 x6:Int):Option R:=
if 0≤x3∧x3 < (x0.2.1.length:Int) then
k0 x0 x1 x2 x3 x4 x5 x6 (((x0.2.1.getD x3.toNat ([],([],((0:Int),((0:Int),()))))).2.1).length:Int) (0:Int)
else none
theorem an5 (x0 x1 x2 x3 x4 x5 x6):exec cl N N2 (pt x0 x1 x2 x3 x4 x5 x6) K=(pV (fun y0 y1 y2 y3 y4 y5 y6 y7 y8=>K .normal (lJ y0 y1 y2 y3 y4 y5 y6 y7 y8)) x0 x1 x2 x3 x4 x5 x6):=by
 kernel_rfl
theorem T9 (x0 x1 x2 x3 x4 x5 x6 x7 x8):aj [2,7,8,10,17,18,19,29,30] (lJ x0 x1 x2 x3 x4 x5 x6 x7 x8)=(lJ x0 x1 x2 x3 x4 x5 x6 x7 x8):=by kernel_rfl
def pW (k0:ae→V0→Int→Int→V0→Int→Int→Int→Int→Option R) (k1:ae→V0→Int→Int→V0→Int→Int→Int→Int→Option R) (x0:ae) (x1:V0) (x2 x3:Int) (x4:V0) (x5 x6 x7 x8:Int):Option R:=
ad (decide (x8 < x7)) (if x1.length+[x2].length≤17592186044416 then
k0 x0 (x1++[x2]) x2 x3 x4 x5 x6 x7 (IntKind.i64.wrap (x8+(1:Int)))
else none) (k1 x0 x1 x2 x3 x4 x5 x6 x7 x8)
theorem an6 (x0 x1 x2 x3 x4 x5 x6 x7 x8):exec cl N Fu (lJ x0 x1 x2 x3 x4 x5 x6 x7 x8) K=(pW (fun y0 y1 y2 y3 y4 y5 y6 y7 y8=>K .normal (lJ y0 y1 y2 y3 y4 y5 y6 y7 y8)) (fun y0 y1 y2 y3 y4 y5 y6 y7 y8=>K (.exit 2) (lJ y0 y1 y2 y3 y4 y5 y6 y7 y8)) x0 x1 x2 x3 x4 x5 x6 x7 x8):=by
 kernel_rfl
def s7 {R:Type} (k0:ae→V0→Int→Int→V0→Int→Int→Int→Int→Option R):Nat→ae→V0→Int→Int→V0→Int→Int→Int→Int→Option R
 | 0,_,_,_,_,_,_,_,_,_=>none
 | m+1,x0,x1,x2,x3,x4,x5,x6,x7,x8=>(pW (s7 k0 m) k0 x0 x1 x2 x3 x4 x5 x6 x7 x8)
theorem aeO:∀ (m) (x0 x1 x2 x3 x4 x5 x6 x7 x8),iter [2,7,8,10,17,18,19,29,30] (fun env K=>exec cl N Fu env K) K m (lJ x0 x1 x2 x3 x4 x5 x6 x7 x8)=s7 (fun y0 y1 y2 y3 y4 y5 y6 y7 y8=>K (.exit 2) (lJ y0 y1 y2 y3 y4 y5 y6 y7 y8)) m x0 x1 x2 x3 x4 x5 x6 x7 x8:=by
 intro m
 induction m with
 | zero=>intros; rfl
 | succ m ih=>
   intro x0 x1 x2 x3 x4 x5 x6 x7 x8
   simp only [b9,an6,cb,ca,cc,T9,ih]
   rfl
theorem ab4 (x0 x1 x2 x3 x4 x5 x6 x7 x8):aj [2,7,8,10,17,18,19] (lJ x0 x1 x2 x3 x4 x5 x6 x7 x8)=(pt x0 x1 x2 x3 x4 x5 x6):=by kernel_rfl
def pX (N:Nat) (k0:ae→V0→Int→Int→V0→Int→Int→Option R) (x0:ae) (x1:V0) (x2 x3:Int) (x4:V0) (x5 x6 x7 x8:Int):Option R:=
s7 (fun y0 y1 y2 y3 y4 y5 y6 y7 y8=>k0 y0 y1 y2 y3 y4 y5 y6) N x0 x1 x2 x3 x4 x5 x6 x7 x8
theorem an7 (x0 x1 x2 x3 x4 x5 x6 x7 x8):exec cl N Fv (lJ x0 x1 x2 x3 x4 x5 x6 x7 x8) K=(pX N (fun y0 y1 y2 y3 y4 y5 y6=>K (.exit 2) (pt y0 y1 y2 y3 y4 y5 y6)) x0 x1 x2 x3 x4 x5 x6 x7 x8):=by
 simp only [Fv,aV,b8,T9,aeO,ab4]
 rfl
theorem ab5 (x0 x1 x2 x3 x4 x5 x6):aj [2,7,8,10,17,18,19] (pt x0 x1 x2 x3 x4 x5 x6)=(pt x0 x1 x2 x3 x4 x5 x6):=by kernel_rfl
def pY (k0:ae→V0→Int→V0→Int→Int→Option R) (x0:ae) (x1:V0) (x2 x3:Int) (x4:V0) (x5 x6:Int):Option R:=
if 0≤x3∧x3 < (x0.2.1.length:Int) then
k0 x0 x1 (IntKind.i64.wrap (x2+(((x0.2.1.getD x3.toNat ([],([],((0:Int),((0:Int),()))))).1).length:Int))) x4 x5 x6
else none
theorem an8 (x0 x1 x2 x3 x4 x5 x6):exec cl N N5 (pt x0 x1 x2 x3 x4 x5 x6) K=(pY (fun y0 y1 y2 y3 y4 y5=>K .normal (gR y0 y1 y2 y3 y4 y5)) x0 x1 x2 x3 x4 x5 x6):=by
 kernel_rfl
def pO (k0:ae→V0→Int→V0→Int→Int→Option R) (x0:ae) (x1:V0) (x2:Int) (x3:V0) (x4 x5:Int):Option R:=
k0 x0 x1 x2 x3 x4 (IntKind.i64.wrap (x5+(1:Int)))
theorem anY (x0 x1 x2 x3 x4 x5):exec cl N NY (gR x0 x1 x2 x3 x4 x5) K=(pO (fun y0 y1 y2 y3 y4 y5=>K .normal (gR y0 y1 y2 y3 y4 y5)) x0 x1 x2 x3 x4 x5):=by
 kernel_rfl
def pQ (N:Nat) (k0:ae→V0→Int→V0→Int→Int→Option R) (k1:ae→V0→Int→V0→Int→Int→Option R) (x0:ae) (x1:V0) (x2:Int) (x3:V0) (x4 x5:Int):Option R:=
(pP (pN (pV (pX N ((pY ((pO k0))))))) k1 x0 x1 x2 x3 x4 x5)
theorem an0 (x0 x1 x2 x3 x4 x5):exec cl N uq (gR x0 x1 x2 x3 x4 x5) K=(pQ N (fun y0 y1 y2 y3 y4 y5=>K .normal (gR y0 y1 y2 y3 y4 y5)) (fun y0 y1 y2 y3 y4 y5=>K (.exit 0) (gR y0 y1 y2 y3 y4 y5)) x0 x1 x2 x3 x4 x5):=by
 simp only [bX,bZ,bY,b5,anZ,Au,NX,aV,cx,N7,anX,N6,N4,an5,N3,an7,ct,cw,cq,ab5,an8,Kj,anY]
 rfl
def qp {R:Type} (N:Nat) (k0:ae→V0→Int→V0→Int→Int→Option R):Nat→ae→V0→Int→V0→Int→Int→Option R
 | 0,_,_,_,_,_,_=>none
 | m+1,x0,x1,x2,x3,x4,x5=>(pQ N (qp N k0 m) k0 x0 x1 x2 x3 x4 x5)
theorem aeN:∀ (m) (x0 x1 x2 x3 x4 x5),iter [2,7,8,17,18,19] (fun env K=>exec cl N uq env K) K m (gR x0 x1 x2 x3 x4 x5)=qp N (fun y0 y1 y2 y3 y4 y5=>K (.exit 0) (gR y0 y1 y2 y3 y4 y5)) m x0 x1 x2 x3 x4 x5:=by
 intro m
 induction m with
 | zero=>intros; rfl
 | succ m ih=>
   intro x0 x1 x2 x3 x4 x5
   simp only [b9,an0,cb,ca,cc,Kj,ih]
   rfl
theorem ab6 (x0 x1 x2 x3 x4 x5):aj [7] (gR x0 x1 x2 x3 x4 x5)=(uN x1):=by kernel_rfl
def pR (N:Nat) (k0:V0→Option R) (x0:ae) (x1:V0) (x2:Int) (x3:V0) (x4 x5:Int):Option R:=
qp N (fun y0 y1 y2 y3 y4 y5=>k0 y1) N x0 x1 x2 x3 x4 x5
theorem an1 (x0 x1 x2 x3 x4 x5):exec cl N Ft (gR x0 x1 x2 x3 x4 x5) K=(pR N (fun y0=>K (.exit 0) (uN y0)) x0 x1 x2 x3 x4 x5):=by
 simp only [Ft,aV,b8,Kj,aeN,ab6]
 rfl
theorem ab7 (x0):aj [7] (uN x0)=(uN x0):=by kernel_rfl
def pS (k0:Int→V0→Option R) (x0:V0):Option R:=
k0 (0:Int) x0
theorem an2 (x0):exec cl N N1 (uN x0) K=(pS (fun y0 y1=>K .ret (H9 y0 y1)) x0):=by
 kernel_rfl
def pU (N:Nat) (bT:ae→V0→Option (Int)) (k0:V0→Int→Option R) (k1:Int→V0→Option R) (x0:ae) (x1:V0):Option R:=
(pT bT k0 (pM (pR N ((pS k1)))) x0 x1)
theorem an4 (bT) (h55:(nd bT).holds cl) (x0 x1):exec cl N Aw (iu x0 x1) K=(pU N bT (fun y0 y1=>K .ret (H7 y0 y1)) (fun y0 y1=>K .ret (H9 y0 y1)) x0 x1):=by
 simp only [bX,bZ,bY,b5,an3 bT h55,Av,N0,anW,NZ,aV,cx,an1,ct,cw,cq,ab7,an2]
 rfl
theorem ait (y0 y1):ag d24 .ret (H7 y0 y1)=some [.own true 3 U2 .no y0,.v U2 y1]:=by kernel_rfl
theorem aiu (y0 y1):ag d24 .ret (H9 y0 y1)=some [.own true 3 U2 .no y1,.v U2 y0]:=by kernel_rfl
def g24 (N:Nat) (bT:ae→V0→Option (Int)) (x0:ae) (x1:V0) (k:V0→Int→Option R):Option R:=
(pU N bT k (fun y0 y1=>k y1 y0) x0 x1)
theorem Yt (bT) (h55:(nd bT).holds cl) (x0 x1) (k:List E→Option R):exec cl N Fs (iu x0 x1) (fun e env=>(ag d24 e env).bind k)=g24 N bT x0 x1 (fun r0 r1=>k [.own true 3 U2 .no r0,.v U2 r1]):=by
 simp only [Fs,an4 bT h55,ait,aiu,ar]
 rfl
def nU (S:ae→V0→Option V8):aO:=er 24 ak U5 S fun b=> [.own true 3 U2 .no b.1,.v U2 b.2]
def ck (N:Nat) (x0:ae) (x1:V0):Option V8:=g24 N (bT N) x0 x1 (fun (r0:V0) (r1:Int)=>some (r0,r1))
def Sh (bS:ae→V4→Option (Int)) (k0:Int→Int→Option R) (k1:V4→ae→V2→Int→Option R) (x0:ae) (x1:V4):Option R:=
(bS x0 x1).bind fun r1419=>
ad (r1419 != (0:Int)) (k0 (0:Int) r1419) (let v1421:Int:=(IntKind.i64.wrap ((x1.length:Int)+(1:Int)))
if 0≤v1421∧v1421≤v1421∧v1421≤((140737488355328:Nat):Int) then
if 0≤(0:Int)∧(0:Int) < ((ka v1421.toNat false).length:Int) then
if ((0:Int).toNat) < (ka v1421.toNat false).length then
k1 x1 x0 ((ka v1421.toNat false).set ((0:Int).toNat) true) (0:Int)
else none
else none
else none)
theorem anH (bS) (h40:(nc bS).holds cl) (x0 x1):exec cl N Ao (nh x0 x1) K=(Sh bS (fun y0 y1=>K .ret (Ia y0 y1)) (fun y0 y1 y2 y3=>exec cl N Am (QY y0 y1 y2 y3) K) x0 x1):=by
 rw [←aM h40]
 delta Ao
 generalize Am=q
 revert q
 refine id ?_
 intro q
 kernel_rfl
def Se (k0:V4→ae→V2→Int→Int→Int→Option R) (x0:V4) (x1:ae) (x2:V2) (x3:Int):Option R:=
k0 x0 x1 x2 x3 (x2.length:Int) (0:Int)
theorem anE (x0 x1 x2 x3):exec cl N NM (QY x0 x1 x2 x3) K=(Se (fun y0 y1 y2 y3 y4 y5=>K .normal (fT y0 y1 y2 y3 y4 y5)) x0 x1 x2 x3):=by
 kernel_rfl
theorem Ki (x0 x1 x2 x3 x4 x5):aj [1,2,7,8,25,26,27] (fT x0 x1 x2 x3 x4 x5)=(fT x0 x1 x2 x3 x4 x5):=by kernel_rfl
def Sn (k0:V4→ae→V2→Int→Int→Int→Option R) (k1:V4→ae→V2→Int→Int→Int→Option R) (x0:V4) (x1:ae) (x2:V2) (x3 x4 x5:Int):Option R:=
ad (decide (x5 < x4)) (k0 x0 x1 x2 x3 x4 x5) (k1 x0 x1 x2 x3 x4 x5)
theorem anN (x0 x1 x2 x3 x4 x5):exec cl N uk (fT x0 x1 x2 x3 x4 x5) K=(Sn (fun y0 y1 y2 y3 y4 y5=>exec cl N Aq (fT y0 y1 y2 y3 y4 y5) K) (fun y0 y1 y2 y3 y4 y5=>K (.exit 0) (fT y0 y1 y2 y3 y4 y5)) x0 x1 x2 x3 x4 x5):=by
 delta uk
 generalize Aq=q
 revert q
 refine id ?_
 intro q
 kernel_rfl
def Sk (k0:V4→ae→V2→Int→Int→Int→Int→Option R) (k1:V4→ae→V2→Int→Int→Int→Int→b7→Int→Int→Option R) (x0:V4) (x1:ae) (x2:V2) (x3 x4 x5:Int):Option R:=
if 0≤x5∧x5 < (x2.length:Int) then
if x5.toNat < x2.length then
ad (!(x2.getD x5.toNat false)) (k0 x0 x1 x2 x3 x5 x4 x5) (k1 x0 x1 x2 x5 x5 x4 x5 x1.2.1 (x1.2.1.length:Int) (0:Int))
else none
else none
theorem anK (x0 x1 x2 x3 x4 x5):exec cl N Fk (fT x0 x1 x2 x3 x4 x5) K=(Sk (fun y0 y1 y2 y3 y4 y5 y6=>K (.exit 1) (QZ y0 y1 y2 y3 y4 y5 y6)) (fun y0 y1 y2 y3 y4 y5 y6 y7 y8 y9=>exec cl N Ap (lK y0 y1 y2 y3 y4 y5 y6 y7 y8 y9) K) x0 x1 x2 x3 x4 x5):=by
 delta Fk
 generalize Ap=q
 revert q
 refine id ?_
 intro q
 kernel_rfl
theorem T7 (x0 x1 x2 x3 x4 x5 x6 x7 x8 x9):aj [1,2,7,8,9,25,26,27,36,37,38] (lK x0 x1 x2 x3 x4 x5 x6 x7 x8 x9)=(lK x0 x1 x2 x3 x4 x5 x6 x7 x8 x9):=by kernel_rfl
def Sf (aU:V4→V4→Option (Bool)) (k0:V4→ae→V2→Int→Int→Int→Int→b7→Int→Int→Option R) (k1:V4→ae→V2→Int→Int→Int→Int→b7→Int→Int→Option R) (x0:V4) (x1:ae) (x2:V2) (x3 x4 x5 x6:Int) (x7:b7) (x8 x9:Int):Option R:=
ad (decide (x9 < x8)) (if 0≤x9∧x9 < (x7.length:Int) then
if 0≤x4∧x4≤(x0.length:Int)∧(x0.length:Int)≤(x0.length:Int) then
(aU ((x0.drop x4.toNat).take ((x0.length:Int).toNat - x4.toNat)) ((x7.getD x9.toNat ([],([],((0:Int),((0:Int),()))))).1)).bind fun r1426=>
ad r1426 (let v1427:Int:=(IntKind.i64.wrap (x4+(((x7.getD x9.toNat ([],([],((0:Int),((0:Int),()))))).1).length:Int)))
if 0≤v1427∧v1427 < (x2.length:Int) then
if v1427.toNat < x2.length then
k0 x0 x1 (x2.set v1427.toNat true) x3 x4 x5 x6 x7 x8 (IntKind.i64.wrap (x9+(1:Int)))
else none
else none) (k0 x0 x1 x2 x3 x4 x5 x6 x7 x8 (IntKind.i64.wrap (x9+(1:Int))))
else none
else none) (k1 x0 x1 x2 x3 x4 x5 x6 x7 x8 x9)
theorem anF (aU) (h54:(gw aU).holds cl) (x0 x1 x2 x3 x4 x5 x6 x7 x8 x9):exec cl N Fi (lK x0 x1 x2 x3 x4 x5 x6 x7 x8 x9) K=(Sf aU (fun y0 y1 y2 y3 y4 y5 y6 y7 y8 y9=>K .normal (lK y0 y1 y2 y3 y4 y5 y6 y7 y8 y9)) (fun y0 y1 y2 y3 y4 y5 y6 y7 y8 y9=>K (.exit 2) (lK y0 y1 y2 y3 y4 y5 y6 y7 y8 y9)) x0 x1 x2 x3 x4 x5 x6 x7 x8 x9):=by
 rw [←aM h54]
 kernel_rfl
def Kt {R:Type} (aU:V4→V4→Option (Bool)) (k0:V4→ae→V2→Int→Int→Int→Int→b7→Int→Int→Option R):Nat→V4→ae→V2→Int→Int→Int→Int→b7→Int→Int→Option R
 | 0,_,_,_,_,_,_,_,_,_,_=>none
 | m+1,x0,x1,x2,x3,x4,x5,x6,x7,x8,x9=>(Sf aU (Kt aU k0 m) k0 x0 x1 x2 x3 x4 x5 x6 x7 x8 x9)
theorem aeK (aU) (h54:(gw aU).holds cl):∀ (m) (x0 x1 x2 x3 x4 x5 x6 x7 x8 x9),iter [1,2,7,8,9,25,26,27,36,37,38] (fun env K=>exec cl N Fi env K) K m (lK x0 x1 x2 x3 x4 x5 x6 x7 x8 x9)=Kt aU (fun y0 y1 y2 y3 y4 y5 y6 y7 y8 y9=>K (.exit 2) (lK y0 y1 y2 y3 y4 y5 y6 y7 y8 y9)) m x0 x1 x2 x3 x4 x5 x6 x7 x8 x9:=by
 intro m
 induction m with
 | zero=>intros; rfl
 | succ m ih=>
   intro x0 x1 x2 x3 x4 x5 x6 x7 x8 x9
   simp only [b9,anF aU h54,cb,ca,cc,T7,ih]
   rfl
theorem abY (x0 x1 x2 x3 x4 x5 x6 x7 x8 x9):aj [1,2,7,8,25,26,27] (lK x0 x1 x2 x3 x4 x5 x6 x7 x8 x9)=(fT x0 x1 x2 x3 x5 x6):=by kernel_rfl
def Sj (N:Nat) (aU:V4→V4→Option (Bool)) (k0:V4→ae→V2→Int→Int→Int→Option R) (x0:V4) (x1:ae) (x2:V2) (x3 x4 x5 x6:Int) (x7:b7) (x8 x9:Int):Option R:=
Kt aU (fun y0 y1 y2 y3 y4 y5 y6 y7 y8 y9=>k0 y0 y1 y2 y3 y5 y6) N x0 x1 x2 x3 x4 x5 x6 x7 x8 x9
theorem anJ (aU) (h54:(gw aU).holds cl) (x0 x1 x2 x3 x4 x5 x6 x7 x8 x9):exec cl N Fj (lK x0 x1 x2 x3 x4 x5 x6 x7 x8 x9) K=(Sj N aU (fun y0 y1 y2 y3 y4 y5=>K (.exit 2) (fT y0 y1 y2 y3 y4 y5)) x0 x1 x2 x3 x4 x5 x6 x7 x8 x9):=by
 simp only [Fj,aV,b8,T7,aeK aU h54,abY]
 rfl
theorem abZ (x0 x1 x2 x3 x4 x5 x6):aj [1,2,7,8,25,26,27] (QZ x0 x1 x2 x3 x4 x5 x6)=(fT x0 x1 x2 x3 x5 x6):=by kernel_rfl
def Sl (N:Nat) (aU:V4→V4→Option (Bool)) (k0:V4→ae→V2→Int→Int→Int→Option R) (x0:V4) (x1:ae) (x2:V2) (x3 x4 x5:Int):Option R:=
(Sk (fun y0 y1 y2 y3 y4 y5 y6=>(k0 y0 y1 y2 y3 y5 y6)) (Sj N aU k0) x0 x1 x2 x3 x4 x5)
theorem anL (aU) (h54:(gw aU).holds cl) (x0 x1 x2 x3 x4 x5):exec cl N Fl (fT x0 x1 x2 x3 x4 x5) K=(Sl N aU (fun y0 y1 y2 y3 y4 y5=>K .normal (fT y0 y1 y2 y3 y4 y5)) x0 x1 x2 x3 x4 x5):=by
 simp only [Fl,aV,cx,bX,bZ,bY,b5,anK,Ap,anJ aU h54,ct,cw,cq,Ki,abZ]
 rfl
def Sm (k0:V4→ae→V2→Int→Int→Int→Option R) (x0:V4) (x1:ae) (x2:V2) (x3 x4 x5:Int):Option R:=
k0 x0 x1 x2 x3 x4 (IntKind.i64.wrap (x5+(1:Int)))
theorem anM (x0 x1 x2 x3 x4 x5):exec cl N NQ (fT x0 x1 x2 x3 x4 x5) K=(Sm (fun y0 y1 y2 y3 y4 y5=>K .normal (fT y0 y1 y2 y3 y4 y5)) x0 x1 x2 x3 x4 x5):=by
 kernel_rfl
def Sp (N:Nat) (aU:V4→V4→Option (Bool)) (k0:V4→ae→V2→Int→Int→Int→Option R) (k1:V4→ae→V2→Int→Int→Int→Option R) (x0:V4) (x1:ae) (x2:V2) (x3 x4 x5:Int):Option R:=
(Sn (Sl N aU (Sm k0)) k1 x0 x1 x2 x3 x4 x5)
theorem anO (aU) (h54:(gw aU).holds cl) (x0 x1 x2 x3 x4 x5):exec cl N uk (fT x0 x1 x2 x3 x4 x5) K=(Sp N aU (fun y0 y1 y2 y3 y4 y5=>K .normal (fT y0 y1 y2 y3 y4 y5)) (fun y0 y1 y2 y3 y4 y5=>K (.exit 0) (fT y0 y1 y2 y3 y4 y5)) x0 x1 x2 x3 x4 x5):=by
 simp only [bX,bZ,bY,b5,anN,Aq,anL aU h54,anM]
 rfl
def Ku {R:Type} (N:Nat) (aU:V4→V4→Option (Bool)) (k0:V4→ae→V2→Int→Int→Int→Option R):Nat→V4→ae→V2→Int→Int→Int→Option R
 | 0,_,_,_,_,_,_=>none
 | m+1,x0,x1,x2,x3,x4,x5=>(Sp N aU (Ku N aU k0 m) k0 x0 x1 x2 x3 x4 x5)
theorem aeL (aU) (h54:(gw aU).holds cl):∀ (m) (x0 x1 x2 x3 x4 x5),iter [1,2,7,8,25,26,27] (fun env K=>exec cl N uk env K) K m (fT x0 x1 x2 x3 x4 x5)=Ku N aU (fun y0 y1 y2 y3 y4 y5=>K (.exit 0) (fT y0 y1 y2 y3 y4 y5)) m x0 x1 x2 x3 x4 x5:=by
 intro m
 induction m with
 | zero=>intros; rfl
 | succ m ih=>
   intro x0 x1 x2 x3 x4 x5
   simp only [b9,anO aU h54,cb,ca,cc,Ki,ih]
   rfl
theorem ab0 (x0 x1 x2 x3 x4 x5):aj [8] (fT x0 x1 x2 x3 x4 x5)=[(8,.v U2 x3)]:=by kernel_rfl
def Sq (N:Nat) (aU:V4→V4→Option (Bool)) (k0:Int→Option R) (x0:V4) (x1:ae) (x2:V2) (x3 x4 x5:Int):Option R:=
Ku N aU (fun y0 y1 y2 y3 y4 y5=>k0 y3) N x0 x1 x2 x3 x4 x5
theorem anP (aU) (h54:(gw aU).holds cl) (x0 x1 x2 x3 x4 x5):exec cl N Fm (fT x0 x1 x2 x3 x4 x5) K=(Sq N aU (fun y0=>K (.exit 0) [(8,.v U2 y0)]) x0 x1 x2 x3 x4 x5):=by
 simp only [Fm,aV,b8,Ki,aeL aU h54,ab0]
 rfl
theorem ab1 (x0):aj [8] [(8,.v U2 x0)]=[(8,.v U2 x0)]:=by kernel_rfl
def Sg (k0:Int→Int→Option R) (x0:Int):Option R:=
k0 x0 (0:Int)
theorem anG (x0):exec cl N NP [(8,.v U2 x0)] K=(Sg (fun y0 y1=>K .ret [(4,.v U2 y0),(5,.v U2 y1)]) x0):=by
 kernel_rfl
def Si (N:Nat) (bS:ae→V4→Option (Int)) (aU:V4→V4→Option (Bool)) (k0:Int→Int→Option R) (k1:Int→Int→Option R) (x0:ae) (x1:V4):Option R:=
(Sh bS k0 (Se (Sq N aU ((Sg k1)))) x0 x1)
theorem anI (bS) (aU) (h40:(nc bS).holds cl) (h54:(gw aU).holds cl) (x0 x1):exec cl N Ao (nh x0 x1) K=(Si N bS aU (fun y0 y1=>K .ret (Ia y0 y1)) (fun y0 y1=>K .ret [(4,.v U2 y0),(5,.v U2 y1)]) x0 x1):=by
 simp only [bX,bZ,bY,b5,anH bS h40,Am,NO,anE,NN,aV,cx,anP aU h54,ct,cw,cq,ab1,anG]
 rfl
theorem aip (y0 y1):ag d20 .ret (Ia y0 y1)=some [.v U2 y0,.v U2 y1]:=by kernel_rfl
theorem aiq (y0 y1):ag d20 .ret [(4,.v U2 y0),(5,.v U2 y1)]=some [.v U2 y0,.v U2 y1]:=by kernel_rfl
def g20 (N:Nat) (bS:ae→V4→Option (Int)) (aU:V4→V4→Option (Bool)) (x0:ae) (x1:V4) (k:Int→Int→Option R):Option R:=
(Si N bS aU k k x0 x1)
theorem Yr (bS) (aU) (h40:(nc bS).holds cl) (h54:(gw aU).holds cl) (x0 x1) (k:List E→Option R):exec cl N Fh (nh x0 x1) (fun e env=>(ag d20 e env).bind k)=g20 N bS aU x0 x1 (fun r0 r1=>k [.v U2 r0,.v U2 r1]):=by
 simp only [Fh,anI bS aU h40 h54,aip,aiq,ar]
 rfl
def HH (S:ae→V4→Option V1):aO:=er 20 ak .str S fun b=> [.v U2 b.1,.v U2 b.2]
def iO (N:Nat) (x0:ae) (x1:V4):Option V1:=g20 N (bS N) (aU N) x0 x1 (fun (r0:Int) (r1:Int)=>some (r0,r1))
def Sx (k0:Bool→Option R) (k1:V0→V0→Option R) (x0 x1:V0):Option R:=
ad ((x0.length:Int) != (x1.length:Int)) (k0 false) (k1 x0 x1)
theorem apl (x0 x1):exec cl N AQ (kR x0 x1) K=(Sx (fun y0=>K .ret (iS y0)) (fun y0 y1=>exec cl N AP (ni y0 y1) K) x0 x1):=by
 delta AQ
 generalize AP=q
 revert q
 refine id ?_
 intro q
 kernel_rfl
def Ss (k0:V0→V0→Int→Option R) (x0 x1:V0):Option R:=
k0 x0 x1 (0:Int)
theorem apg (x0 x1):exec cl N O3 (ni x0 x1) K=(Ss (fun y0 y1 y2=>K .normal (lL y0 y1 y2)) x0 x1):=by
 kernel_rfl
theorem Uk (x0 x1 x2):aj [0,1,5] (lL x0 x1 x2)=(lL x0 x1 x2):=by kernel_rfl
def Su (k0:Bool→Option R) (k1:V0→V0→Int→Option R) (k2:V0→V0→Int→Option R) (x0 x1:V0) (x2:Int):Option R:=
ad (decide (x2 < (x0.length:Int))) (if 0≤x2∧x2 < (x0.length:Int) then
if 0≤x2∧x2 < (x1.length:Int) then
ad ((x0.getD x2.toNat (0:Int)) != (x1.getD x2.toNat (0:Int))) (k0 false) (k1 x0 x1 (IntKind.i64.wrap (x2+(1:Int))))
else none
else none) (k2 x0 x1 x2)
theorem aph (x0 x1 x2):exec cl N Gg (lL x0 x1 x2) K=(Su (fun y0=>K .ret (nj y0)) (fun y0 y1 y2=>K .normal (lL y0 y1 y2)) (fun y0 y1 y2=>K (.exit 0) (lL y0 y1 y2)) x0 x1 x2):=by
 kernel_rfl
def Kv {R:Type} (k0:Bool→Option R) (k1:V0→V0→Int→Option R):Nat→V0→V0→Int→Option R
 | 0,_,_,_=>none
 | m+1,x0,x1,x2=>(Su k0 (Kv k0 k1 m) k1 x0 x1 x2)
theorem ae1:∀ (m) (x0 x1 x2),iter [0,1,5] (fun env K=>exec cl N Gg env K) K m (lL x0 x1 x2)=Kv (fun y0=>K .ret (nj y0)) (fun y0 y1 y2=>K (.exit 0) (lL y0 y1 y2)) m x0 x1 x2:=by
 intro m
 induction m with
 | zero=>intros; rfl
 | succ m ih=>
   intro x0 x1 x2
   simp only [b9,aph,cb,ca,cc,Uk,ih]
   rfl
theorem acH (x0):aj [4] (nj x0)=[(4,.v .bool x0)]:=by kernel_rfl
theorem acI (x0 x1 x2):aj [4] (lL x0 x1 x2)=[(4,.dead)]:=by kernel_rfl
def Sv (N:Nat) (k0:Bool→Option R) (k1:Option R) (x0 x1:V0) (x2:Int):Option R:=
Kv k0 (fun y0 y1 y2=>k1) N x0 x1 x2
theorem apj (x0 x1 x2):exec cl N Gh (lL x0 x1 x2) K=(Sv N (fun y0=>K .ret [(4,.v .bool y0)]) (K (.exit 0) [(4,.dead)]) x0 x1 x2):=by
 simp only [Gh,aV,b8,Uk,ae1,acH,acI]
 rfl
theorem acJ (x0):aj [4] [(4,.v .bool x0)]=[(4,.v .bool x0)]:=by kernel_rfl
theorem acK:aj [4] [(4,.dead)]=[(4,.dead)]:=by kernel_rfl
def Sw (k0:Bool→Option R):Option R:=
k0 true
theorem apk:exec cl N O6 [(4,.dead)] K=(Sw (fun y0=>K .ret [(4,.v .bool y0)])):=by
 kernel_rfl
def Sy (N:Nat) (k0:Bool→Option R) (k1:Bool→Option R) (x0 x1:V0):Option R:=
(Sx k0 (Ss (Sv N k1 (Sw k1))) x0 x1)
theorem apm (x0 x1):exec cl N AQ (kR x0 x1) K=(Sy N (fun y0=>K .ret (iS y0)) (fun y0=>K .ret [(4,.v .bool y0)]) x0 x1):=by
 simp only [bX,bZ,bY,b5,apl,AP,O5,apg,O4,aV,cx,apj,ct,cw,cq,acJ,acK,apk]
 rfl
theorem aiV (y0):ag d53 .ret (iS y0)=some [.v .bool y0]:=by kernel_rfl
theorem aiW (y0):ag d53 .ret [(4,.v .bool y0)]=some [.v .bool y0]:=by kernel_rfl
def Js (N:Nat) (x0 x1:V0) (k:Bool→Option R):Option R:=
(Sy N k k x0 x1)
theorem YJ (x0 x1) (k:List E→Option R):exec cl N Gf (kR x0 x1) (fun e env=>(ag d53 e env).bind k)=Js N x0 x1 (fun r0=>k [.v .bool r0]):=by
 simp only [Gf,apm,aiV,aiW,ar]
 rfl
def rL (S:V0→V0→Option (Bool)):aO:=er 53 U5 U5 S fun b=> [.v .bool b]
def dR (N:Nat) (x0:V0) (x1:V0):Option (Bool):=Js N x0 x1 (fun (r0:Bool)=>some (r0))
def Sc (k0:Bool→Option R) (k1:V7→V7→Option R) (x0 x1:V7):Option R:=
ad ((x0.length:Int) != (x1.length:Int)) (k0 false) (k1 x0 x1)
theorem anC (x0 x1):exec cl N Al [(0,.v U7 x0),(1,.v U7 x1)] K=(Sc (fun y0=>K .ret (iS y0)) (fun y0 y1=>exec cl N Ak [(0,.v U7 y0),(1,.v U7 y1),(4,.dead)] K) x0 x1):=by
 delta Al
 generalize Ak=q
 revert q
 refine id ?_
 intro q
 kernel_rfl
def R8 (k0:V7→V7→Int→Option R) (x0 x1:V7):Option R:=
k0 x0 x1 (0:Int)
theorem anx (x0 x1):exec cl N NI [(0,.v U7 x0),(1,.v U7 x1),(4,.dead)] K=(R8 (fun y0 y1 y2=>K .normal (lM y0 y1 y2)) x0 x1):=by
 kernel_rfl
theorem T6 (x0 x1 x2):aj [0,1,5] (lM x0 x1 x2)=(lM x0 x1 x2):=by kernel_rfl
def R9 (dR:V0→V0→Option (Bool)) (k0:Bool→Option R) (k1:V7→V7→Int→Option R) (k2:V7→V7→Int→Option R) (x0 x1:V7) (x2:Int):Option R:=
ad (decide (x2 < (x0.length:Int))) (if 0≤x2∧x2 < (x0.length:Int) then
if 0≤x2∧x2 < (x1.length:Int) then
(dR (x0.getD x2.toNat []) (x1.getD x2.toNat [])).bind fun r1453=>
ad (!r1453) (k0 false) (k1 x0 x1 (IntKind.i64.wrap (x2+(1:Int))))
else none
else none) (k2 x0 x1 x2)
theorem anz (dR) (h53:(rL dR).holds cl) (x0 x1 x2):exec cl N Ff (lM x0 x1 x2) K=(R9 dR (fun y0=>K .ret (nj y0)) (fun y0 y1 y2=>K .normal (lM y0 y1 y2)) (fun y0 y1 y2=>K (.exit 0) (lM y0 y1 y2)) x0 x1 x2):=by
 rw [←aM h53]
 kernel_rfl
def Ks {R:Type} (dR:V0→V0→Option (Bool)) (k0:Bool→Option R) (k1:V7→V7→Int→Option R):Nat→V7→V7→Int→Option R
 | 0,_,_,_=>none
 | m+1,x0,x1,x2=>(R9 dR k0 (Ks dR k0 k1 m) k1 x0 x1 x2)
theorem aeJ (dR) (h53:(rL dR).holds cl):∀ (m) (x0 x1 x2),iter [0,1,5] (fun env K=>exec cl N Ff env K) K m (lM x0 x1 x2)=Ks dR (fun y0=>K .ret (nj y0)) (fun y0 y1 y2=>K (.exit 0) (lM y0 y1 y2)) m x0 x1 x2:=by
 intro m
 induction m with
 | zero=>intros; rfl
 | succ m ih=>
   intro x0 x1 x2
   simp only [b9,anz dR h53,cb,ca,cc,T6,ih]
   rfl
theorem abU (x0):aj [4] (nj x0)=[(4,.v .bool x0)]:=by kernel_rfl
theorem abV (x0 x1 x2):aj [4] (lM x0 x1 x2)=[(4,.dead)]:=by kernel_rfl
def Sa (N:Nat) (dR:V0→V0→Option (Bool)) (k0:Bool→Option R) (k1:Option R) (x0 x1:V7) (x2:Int):Option R:=
Ks dR k0 (fun y0 y1 y2=>k1) N x0 x1 x2
theorem anA (dR) (h53:(rL dR).holds cl) (x0 x1 x2):exec cl N Fg (lM x0 x1 x2) K=(Sa N dR (fun y0=>K .ret [(4,.v .bool y0)]) (K (.exit 0) [(4,.dead)]) x0 x1 x2):=by
 simp only [Fg,aV,b8,T6,aeJ dR h53,abU,abV]
 rfl
theorem abW (x0):aj [4] [(4,.v .bool x0)]=[(4,.v .bool x0)]:=by kernel_rfl
theorem abX:aj [4] [(4,.dead)]=[(4,.dead)]:=by kernel_rfl
def Sb (k0:Bool→Option R):Option R:=
k0 true
theorem anB:exec cl N NL [(4,.dead)] K=(Sb (fun y0=>K .ret [(4,.v .bool y0)])):=by
 kernel_rfl
def Sd (N:Nat) (dR:V0→V0→Option (Bool)) (k0:Bool→Option R) (k1:Bool→Option R) (x0 x1:V7):Option R:=
(Sc k0 (R8 (Sa N dR k1 (Sb k1))) x0 x1)
theorem anD (dR) (h53:(rL dR).holds cl) (x0 x1):exec cl N Al [(0,.v U7 x0),(1,.v U7 x1)] K=(Sd N dR (fun y0=>K .ret (iS y0)) (fun y0=>K .ret [(4,.v .bool y0)]) x0 x1):=by
 simp only [bX,bZ,bY,b5,anC,Ak,NK,anx,NJ,aV,cx,anA dR h53,ct,cw,cq,abW,abX,anB]
 rfl
theorem ain (y0):ag d19 .ret (iS y0)=some [.v .bool y0]:=by kernel_rfl
theorem aio (y0):ag d19 .ret [(4,.v .bool y0)]=some [.v .bool y0]:=by kernel_rfl
def g19 (N:Nat) (dR:V0→V0→Option (Bool)) (x0 x1:V7) (k:Bool→Option R):Option R:=
(Sd N dR k k x0 x1)
theorem Yq (dR) (h53:(rL dR).holds cl) (x0 x1) (k:List E→Option R):exec cl N Fe [(0,.v U7 x0),(1,.v U7 x1)] (fun e env=>(ag d19 e env).bind k)=g19 N dR x0 x1 (fun r0=>k [.v .bool r0]):=by
 simp only [Fe,anD dR h53,ain,aio,ar]
 rfl
def HG (S:V7→V7→Option (Bool)):aO:=er 19 U7 U7 S fun b=> [.v .bool b]
def iN (N:Nat) (x0:V7) (x1:V7):Option (Bool):=g19 N (dR N) x0 x1 (fun (r0:Bool)=>some (r0))
def wz (k0:Bool→Option R) (k1:V0→V0→Option R) (x0 x1:V0):Option R:=
ad ((x0.length:Int) != (x1.length:Int)) (k0 false) (k1 x0 x1)
theorem ano (x0 x1):exec cl N Aj (kR x0 x1) K=(wz (fun y0=>K .ret (iS y0)) (fun y0 y1=>exec cl N Ai (ni y0 y1) K) x0 x1):=by
 delta Aj
 generalize Ai=q
 revert q
 refine id ?_
 intro q
 kernel_rfl
def wq (k0:V0→V0→Int→Int→Option R) (x0 x1:V0):Option R:=
k0 x0 x1 (x0.length:Int) (0:Int)
theorem ank (x0 x1):exec cl N Nw (ni x0 x1) K=(wq (fun y0 y1 y2 y3=>K .normal (lN y0 y1 y2 y3)) x0 x1):=by
 kernel_rfl
theorem T5 (x0 x1 x2 x3):aj [0,1,12,13] (lN x0 x1 x2 x3)=(lN x0 x1 x2 x3):=by kernel_rfl
def wu (k0:Bool→Option R) (k1:V0→V0→Int→Int→Option R) (k2:V0→V0→Int→Int→Option R) (x0 x1:V0) (x2 x3:Int):Option R:=
ad (decide (x3 < x2)) (if 0≤x3∧x3 < (x0.length:Int) then
if 0≤x3∧x3 < (x1.length:Int) then
ad ((x0.getD x3.toNat (0:Int)) != (x1.getD x3.toNat (0:Int))) (k0 false) (k1 x0 x1 x2 (IntKind.i64.wrap (x3+(1:Int))))
else none
else none) (k2 x0 x1 x2 x3)
theorem anl (x0 x1 x2 x3):exec cl N E6 (lN x0 x1 x2 x3) K=(wu (fun y0=>K .ret (rZ y0)) (fun y0 y1 y2 y3=>K .normal (lN y0 y1 y2 y3)) (fun y0 y1 y2 y3=>K (.exit 0) (lN y0 y1 y2 y3)) x0 x1 x2 x3):=by
 kernel_rfl
def s4 {R:Type} (k0:Bool→Option R) (k1:V0→V0→Int→Int→Option R):Nat→V0→V0→Int→Int→Option R
 | 0,_,_,_,_=>none
 | m+1,x0,x1,x2,x3=>(wu k0 (s4 k0 k1 m) k1 x0 x1 x2 x3)
theorem aeH:∀ (m) (x0 x1 x2 x3),iter [0,1,12,13] (fun env K=>exec cl N E6 env K) K m (lN x0 x1 x2 x3)=s4 (fun y0=>K .ret (rZ y0)) (fun y0 y1 y2 y3=>K (.exit 0) (lN y0 y1 y2 y3)) m x0 x1 x2 x3:=by
 intro m
 induction m with
 | zero=>intros; rfl
 | succ m ih=>
   intro x0 x1 x2 x3
   simp only [b9,anl,cb,ca,cc,T5,ih]
   rfl
theorem abK (x0):aj [4] (rZ x0)=[(4,.v .bool x0)]:=by kernel_rfl
theorem abL (x0 x1 x2 x3):aj [4] (lN x0 x1 x2 x3)=[(4,.dead)]:=by kernel_rfl
def wv (N:Nat) (k0:Bool→Option R) (k1:Option R) (x0 x1:V0) (x2 x3:Int):Option R:=
s4 k0 (fun y0 y1 y2 y3=>k1) N x0 x1 x2 x3
theorem anm (x0 x1 x2 x3):exec cl N E7 (lN x0 x1 x2 x3) K=(wv N (fun y0=>K .ret [(4,.v .bool y0)]) (K (.exit 0) [(4,.dead)]) x0 x1 x2 x3):=by
 simp only [E7,aV,b8,T5,aeH,abK,abL]
 rfl
theorem abM (x0):aj [4] [(4,.v .bool x0)]=[(4,.v .bool x0)]:=by kernel_rfl
theorem abN:aj [4] [(4,.dead)]=[(4,.dead)]:=by kernel_rfl
def wx (k0:Bool→Option R):Option R:=
k0 true
theorem ann:exec cl N Nz [(4,.dead)] K=(wx (fun y0=>K .ret [(4,.v .bool y0)])):=by
 kernel_rfl
def wA (N:Nat) (k0:Bool→Option R) (k1:Bool→Option R) (x0 x1:V0):Option R:=
(wz k0 (wq (wv N k1 (wx k1))) x0 x1)
theorem anp (x0 x1):exec cl N Aj (kR x0 x1) K=(wA N (fun y0=>K .ret (iS y0)) (fun y0=>K .ret [(4,.v .bool y0)]) x0 x1):=by
 simp only [bX,bZ,bY,b5,ano,Ai,Ny,ank,Nx,aV,cx,anm,ct,cw,cq,abM,abN,ann]
 rfl
theorem aih (y0):ag d15 .ret (iS y0)=some [.v .bool y0]:=by kernel_rfl
theorem aii (y0):ag d15 .ret [(4,.v .bool y0)]=some [.v .bool y0]:=by kernel_rfl
def g15 (N:Nat) (x0 x1:V0) (k:Bool→Option R):Option R:=
(wA N k k x0 x1)
theorem Yf (x0 x1) (k:List E→Option R):exec cl N ET (kR x0 x1) (fun e env=>(ag d15 e env).bind k)=g15 N x0 x1 (fun r0=>k [.v .bool r0]):=by
 simp only [ET,anp,aih,aii,ar]
 rfl
def Hy (S:V0→V0→Option (Bool)):aO:=er 15 U5 U5 S fun b=> [.v .bool b]
def gO (N:Nat) (x0:V0) (x1:V0):Option (Bool):=g15 N x0 x1 (fun (r0:Bool)=>some (r0))
def IY (gN:ae→V4→Option zn) (gO:V0→V0→Option (Bool)) (cg:ae→V4→Option mU) (iN:V7→V7→Option (Bool)) (iO:ae→V4→Option V1) (ck:ae→V0→Option V8) (dC:Option gr) (k0:Bool→Option R) (k1:Bool→Option R):Option R:=
(dC).bind fun r1467=>
(cg r1467 ([97,114,109,97]:List UInt8)).bind fun r1468=>
(cg r1467 ([116,114,111,105,97,101]:List UInt8)).bind fun r1469=>
(gN r1467 ([105,97,109]:List UInt8)).bind fun r1470=>
(ck r1467 [(38:Int),(40:Int),(3:Int),(23:Int),(18:Int)]).bind fun r1471=>
(iO r1467 ([97,114,109,113]:List UInt8)).bind fun r1472=>
ad (r1468.2 != (0:Int)) (k0 false) (ad (r1469.2 != (0:Int)) (k0 false) (ad (r1470.2.2 != (0:Int)) (k0 false) (ad (r1471.2 != (0:Int)) (k0 false) (ad (r1472.2 != (0:Int)) (k0 false) (ad (r1472.1 != (3:Int)) (k0 false) (ad (r1470.2.1 != (1:Int)) (k0 false) ((iN r1468.1 [[(0:Int),(40:Int),(41:Int),(0:Int)]]).bind fun r1480=>
ad r1480 ((iN r1469.1 [[(38:Int),(40:Int),(3:Int),(23:Int),(18:Int)],[(38:Int),(40:Int),(3:Int),(2:Int),(18:Int)],[(38:Int),(40:Int),(3:Int),(23:Int),(0:Int),(1:Int)],[(38:Int),(40:Int),(3:Int),(2:Int),(0:Int),(1:Int)]]).bind fun r1481=>
ad r1481 ((gO r1470.1 [(22:Int),(0:Int),(41:Int)]).bind fun r1482=>
ad r1482 ((gO r1471.1 [(0:Int),(1:Int),(2:Int),(3:Int),(3:Int),(4:Int)]).bind fun r1483=>
k1 r1483) (k1 false)) (k1 false)) (k1 false))))))))
theorem alV (gN) (gO) (cg) (iN) (iO) (ck) (dC) (h13:(Hv gN).holds cl) (h15:(Hy gO).holds cl) (h16:(nT cg).holds cl) (h19:(HG iN).holds cl) (h20:(HH iO).holds cl) (h24:(nU ck).holds cl) (h37:(pg dC).holds cl):exec cl N Mt [] K=(IY gN gO cg iN iO ck dC (fun y0=>K .ret (Q0 y0)) (fun y0=>K .ret [(0,.v .bool y0)])):=by
 rw [←aM h13]
 rw [←aM h15]
 rw [←aM h16]
 rw [←aM h19]
 rw [←aM h20]
 rw [←aM h24]
 rw [←aM h37]
 kernel_rfl
theorem ahB (y0):ag d11 .ret (Q0 y0)=some [.v .bool y0]:=by kernel_rfl
theorem ahC (y0):ag d11 .ret [(0,.v .bool y0)]=some [.v .bool y0]:=by kernel_rfl
def g11 (gN:ae→V4→Option zn) (gO:V0→V0→Option (Bool)) (cg:ae→V4→Option mU) (iN:V7→V7→Option (Bool)) (iO:ae→V4→Option V1) (ck:ae→V0→Option V8) (dC:Option gr) (k:Bool→Option R):Option R:=
(IY gN gO cg iN iO ck dC k k)
theorem XM (gN) (gO) (cg) (iN) (iO) (ck) (dC) (h13:(Hv gN).holds cl) (h15:(Hy gO).holds cl) (h16:(nT cg).holds cl) (h19:(HG iN).holds cl) (h20:(HH iO).holds cl) (h24:(nU ck).holds cl) (h37:(pg dC).holds cl) (k:List E→Option R):exec cl N DQ [] (fun e env=>(ag d11 e env).bind k)=g11 gN gO cg iN iO ck dC (fun r0=>k [.v .bool r0]):=by
 simp only [DQ,alV gN gO cg iN iO ck dC h13 h15 h16 h19 h20 h24 h37,ahB,ahC,ar]
 rfl
def uC (S:Option (Bool)):aO:={A:=Unit,B:=Bool,f:=11,enc:=fun a=> [],dec:=cj,S:=fun a=>S,av:=fun b=> [.v .bool b],ok:=(fun es b h=>iq h)}
def eO (N:Nat):Option (Bool):=g11 (gN N) (gO N) (cg N) (iN N) (iO N) (ck N) (dC N) (fun (r0:Bool)=>some (r0))
def Sz (eP:V4→Option qZ) (k0:ae→Option R):Option R:=
(eP ([111,114,116,104,111,103,114,97,112,104,121,32,103,114,101,101,107,10,97,32,97,47,118,51,32,49,32,97,110,121,119,104,101,114,101,10,105,32,105,47,118,51,32,49,32,97,110,121,119,104,101,114,101,10,117,32,117,47,118,51,32,49,32,97,110,121,119,104,101,114,101,10,97,95,32,97,95,47,118,50,32,49,32,97,110,121,119,104,101,114,101,10,105,95,32,105,95,47,118,50,32,49,32,97,110,121,119,104,101,114,101,10,117,95,32,117,95,47,118,50,32,49,32,97,110,121,119,104,101,114,101,10,97,94,32,97,94,47,118,49,32,49,32,97,110,121,119,104,101,114,101,10,105,94,32,105,94,47,118,49,32,49,32,97,110,121,119,104,101,114,101,10,117,94,32,117,94,47,118,49,32,49,32,97,110,121,119,104,101,114,101,10,101,32,101,47,118,49,32,49,32,97,110,121,119,104,101,114,101,10,111,32,111,47,118,49,32,49,32,97,110,121,119,104,101,114,101,10,101,95,32,101,95,47,118,50,32,49,32,97,110,121,119,104,101,114,101,10,111,95,32,111,95,47,118,50,32,49,32,97,110,121,119,104,101,114,101,10,97,105,32,97,105,47,100,50,32,49,32,97,110,121,119,104,101,114,101,10,97,117,32,97,117,47,100,50,32,49,32,97,110,121,119,104,101,114,101,10,101,105,32,101,105,47,100,50,32,49,32,97,110,121,119,104,101,114,101,10,101,117,32,101,117,47,100,50,32,49,32,97,110,121,119,104,101,114,101,10,111,105,32,111,105,47,100,50,32,49,32,97,110,121,119,104,101,114,101,10,111,117,32,111,117,47,100,50,32,49,32,97,110,121,119,104,101,114,101,10,117,105,32,117,105,47,100,50,32,49,32,97,110,121,119,104,101,114,101,10,112,104,32,112,104,47,109,32,48,32,97,110,121,119,104,101,114,101,10,116,104,32,116,104,47,109,32,48,32,97,110,121,119,104,101,114,101,10,107,104,32,107,104,47,109,32,48,32,97,110,121,119,104,101,114,101,10,112,32,112,47,109,32,48,32,97,110,121,119,104,101,114,101,10,116,32,116,47,109,32,48,32,97,110,121,119,104,101,114,101,10,107,32,107,47,109,32,48,32,97,110,121,119,104,101,114,101,10,98,32,98,47,109,32,48,32,97,110,121,119,104,101,114,101,10,100,32,100,47,109,32,48,32,97,110,121,119,104,101,114,101,10,103,32,103,47,109,32,48,32,97,110,121,119,104,101,114,101,10,114,104,32,114,104,47,108,32,48,32,97,110,121,119,104,101,114,101,10,108,32,108,47,108,32,48,32,97,110,121,119,104,101,114,101,10,114,32,114,47,108,32,48,32,97,110,121,119,104,101,114,101,10,109,32,109,47,110,32,48,32,97,110,121,119,104,101,114,101,10,110,32,110,47,110,32,48,32,97,110,121,119,104,101,114,101,10,115,32,115,47,115,32,48,32,97,110,121,119,104,101,114,101,10,112,115,32,112,115,47,120,32,48,32,97,110,121,119,104,101,114,101,10,107,115,32,107,115,47,120,32,48,32,97,110,121,119,104,101,114,101,10,120,32,120,47,120,32,48,32,97,110,121,119,104,101,114,101,10,122,32,122,47,120,32,48,32,97,110,121,119,104,101,114,101,10,104,32,104,47,98,32,48,32,115,116,97,114,116,10]:List UInt8)).bind fun r1496=>
k0 r1496.1
theorem apC (eP) (h69:(uF eP).holds cl):exec cl N Pl [] K=(Sz eP (fun y0=>K .ret [(0,.loc ak .no y0)])):=by
 rw [←aM h69]
 kernel_rfl
theorem ai6 (y0):ag d64 .ret [(0,.loc ak .no y0)]=some [.v ak y0]:=by kernel_rfl
def JC (eP:V4→Option qZ) (k:ae→Option R):Option R:=
(Sz eP k)
theorem YN (eP) (h69:(uF eP).holds cl) (k:List E→Option R):exec cl N Gt [] (fun e env=>(ag d64 e env).bind k)=JC eP (fun r0=>k [.v ak r0]):=by
 simp only [Gt,apC eP h69,ai6,ar]
 rfl
def uE (S:Option gr):aO:={A:=Unit,B:=ae,f:=64,enc:=fun a=> [],dec:=cj,S:=fun a=>S,av:=fun b=> [.v ak b],ok:=(fun es b h=>iq h)}
def fr (N:Nat):Option gr:=JC (eP N) (fun (r0:ae)=>some (r0))
def Jn (dK:ae→Option V1) (k0:Int→Option R) (x0:ae):Option R:=
(dK x0).bind fun r1527=>
k0 r1527.2
theorem aov (dK) (h67:(rN dK).holds cl) (x0):exec cl N Ou [(0,.v ak x0)] K=(Jn dK (fun y0=>K .ret [(2,.v U2 y0)]) x0):=by
 rw [←aM h67]
 kernel_rfl
theorem aiD (y0):ag d35 .ret [(2,.v U2 y0)]=some [.v U2 y0]:=by kernel_rfl
def Ce (dK:ae→Option V1) (x0:ae) (k:Int→Option R):Option R:=
(Jn dK k x0)
theorem Yy (dK) (h67:(rN dK).holds cl) (x0) (k:List E→Option R):exec cl N FL [(0,.v ak x0)] (fun e env=>(ag d35 e env).bind k)=Ce dK x0 (fun r0=>k [.v U2 r0]):=by
 simp only [FL,aov dK h67,aiD,ar]
 rfl
def rJ (S:ae→Option (Int)):aO:=cI 35 ak S fun b=> [.v U2 b]
def cP (N:Nat) (x0:ae):Option (Int):=Ce (dK N) x0 (fun (r0:Int)=>some (r0))
def ju (dC:Option gr) (fr:Option gr) (k0:dU→ae→ae→Option R) (x0:dU):Option R:=
(dC).bind fun r1532=>
ad ((mL x0.1 (2:Int))==(1:Int)) ((fr).bind fun r1535=>
k0 x0 ([],([],())) r1535) (k0 x0 ([],([],())) r1532)
theorem aop (dC) (fr) (h37:(pg dC).holds cl) (h64:(uE fr).holds cl) (x0):exec cl N AD [(0,.v fi x0)] K=(ju dC fr (fun y0 y1 y2=>exec cl N AB (pv y0 y1 y2) K) x0):=by
 rw [←aM h37]
 rw [←aM h64]
 delta AD
 generalize AB=q
 revert q
 refine id ?_
 intro q
 kernel_rfl
def jq (k0:dU→ae→ae→Int→Option R) (x0:dU) (x1 x2:ae):Option R:=
k0 x0 x1 x2 (0:Int)
theorem aom (x0 x1 x2):exec cl N Oi (pv x0 x1 x2) K=(jq (fun y0 y1 y2 y3=>K .normal (lO y0 y1 y2 y3)) x0 x1 x2):=by
 kernel_rfl
theorem Uc (x0 x1 x2 x3):aj [1,2,3,4] (lO x0 x1 x2 x3)=(lO x0 x1 x2 x3):=by kernel_rfl
def jr (k0:dU→ae→ae→Int→Option R) (k1:dU→ae→ae→Int→Option R) (x0:dU) (x1 x2:ae) (x3:Int):Option R:=
ad (decide (x3 < (x0.2.1.length:Int))) (ad (decide (x3 < (20:Int))) (if 0≤x3∧x3 < (x0.2.1.length:Int) then
if (x2.2.1.length:Int)=0 then none else
let v1539:Int:=(mL (IntKind.i64.wrap (x0.2.1.getD x3.toNat (0:Int))) (x2.2.1.length:Int))
if 0≤v1539∧v1539 < (x2.2.1.length:Int) then
ad ((x2.2.1.getD v1539.toNat ([],([],((0:Int),((0:Int),()))))).1==([97]:List UInt8)) (k0 x0 x1 x2 (IntKind.i64.wrap (x3+(1:Int)))) (ad ((x2.2.1.getD v1539.toNat ([],([],((0:Int),((0:Int),()))))).1==([101]:List UInt8)) (k0 x0 x1 x2 (IntKind.i64.wrap (x3+(1:Int)))) (ad ((x2.2.1.getD v1539.toNat ([],([],((0:Int),((0:Int),()))))).1==([114]:List UInt8)) (k0 x0 x1 x2 (IntKind.i64.wrap (x3+(1:Int)))) (ad ((x2.2.1.getD v1539.toNat ([],([],((0:Int),((0:Int),()))))).1==([116]:List UInt8)) (k0 x0 x1 x2 (IntKind.i64.wrap (x3+(1:Int)))) (ad (decide ((x2.2.1.length:Int) < (8:Int))) (k0 x0 x1 x2 (IntKind.i64.wrap (x3+(1:Int)))) (if 0≤(0:Int)∧(0:Int)≤v1539∧v1539≤(x2.2.1.length:Int)∧(x2.2.1.length:Int)≤(x2.2.1.length:Int) then
let v1550:b7:=((x2.2.1.drop (0:Int).toNat).take (v1539.toNat - (0:Int).toNat))
if ([]:List aT).length+v1550.length≤2513169434916 then
let v1551:Int:=(IntKind.i64.wrap (v1539+(1:Int)))
if 0≤v1551∧v1551≤(x2.2.1.length:Int)∧(x2.2.1.length:Int)≤(x2.2.1.length:Int)∧(x2.2.1.length:Int)≤(x2.2.1.length:Int) then
let v1552:b7:=((x2.2.1.drop v1551.toNat).take ((x2.2.1.length:Int).toNat - v1551.toNat))
if (([]:List aT)++v1550).length+v1552.length≤2513169434916 then
k0 x0 x1 (x2.1,(((([]:List aT)++v1550)++v1552),x2.2.2)) (IntKind.i64.wrap (x3+(1:Int)))
else none
else none
else none
else none)))))
else none
else none) (k1 x0 x1 x2 x3)) (k1 x0 x1 x2 x3)
theorem aon (x0 x1 x2 x3):exec cl N FH (lO x0 x1 x2 x3) K=(jr (fun y0 y1 y2 y3=>K .normal (lO y0 y1 y2 y3)) (fun y0 y1 y2 y3=>K (.exit 0) (lO y0 y1 y2 y3)) x0 x1 x2 x3):=by
 kernel_rfl
def iw {R:Type} (k0:dU→ae→ae→Int→Option R):Nat→dU→ae→ae→Int→Option R
 | 0,_,_,_,_=>none
 | m+1,x0,x1,x2,x3=>(jr (iw k0 m) k0 x0 x1 x2 x3)
theorem aeS:∀ (m) (x0 x1 x2 x3),iter [1,2,3,4] (fun env K=>exec cl N FH env K) K m (lO x0 x1 x2 x3)=iw (fun y0 y1 y2 y3=>K (.exit 0) (lO y0 y1 y2 y3)) m x0 x1 x2 x3:=by
 intro m
 induction m with
 | zero=>intros; rfl
 | succ m ih=>
   intro x0 x1 x2 x3
   simp only [b9,aon,cb,ca,cc,Uc,ih]
   rfl
theorem ach (x0 x1 x2 x3):aj [1,2,3] (lO x0 x1 x2 x3)=(pv x0 x1 x2):=by kernel_rfl
def jw (N:Nat) (k0:dU→ae→ae→Option R) (x0:dU) (x1 x2:ae) (x3:Int):Option R:=
iw (fun y0 y1 y2 y3=>k0 y0 y1 y2) N x0 x1 x2 x3
theorem aor (x0 x1 x2 x3):exec cl N FI (lO x0 x1 x2 x3) K=(jw N (fun y0 y1 y2=>K (.exit 0) (pv y0 y1 y2)) x0 x1 x2 x3):=by
 simp only [FI,aV,b8,Uc,aeS,ach]
 rfl
theorem aci (x0 x1 x2):aj [1,2,3] (pv x0 x1 x2)=(pv x0 x1 x2):=by kernel_rfl
def jx (k0:dU→ae→ae→Int→Option R) (x0:dU) (x1 x2:ae):Option R:=
k0 x0 x1 x2 (0:Int)
theorem aos (x0 x1 x2):exec cl N Oo (pv x0 x1 x2) K=(jx (fun y0 y1 y2 y3=>K .normal (lP y0 y1 y2 y3)) x0 x1 x2):=by
 kernel_rfl
theorem Ud (x0 x1 x2 x3):aj [1,2,3,7] (lP x0 x1 x2 x3)=(lP x0 x1 x2 x3):=by kernel_rfl
def jy (cP:ae→Option (Int)) (k0:dU→ae→ae→Int→Option R) (k1:dU→ae→ae→Int→Option R) (x0:dU) (x1 x2:ae) (x3:Int):Option R:=
ad (decide (x3 < (x0.2.2.1.length:Int))) (ad (decide (x3 < (6:Int))) (if 0≤x3∧x3 < (x0.2.2.1.length:Int) then
if (x2.2.1.length:Int)=0 then none else
let v1557:Int:=(mL (IntKind.i64.wrap (x0.2.2.1.getD x3.toNat (0:Int))) (x2.2.1.length:Int))
if 0≤v1557∧v1557 < (x2.2.1.length:Int) then
if 0≤x3∧x3 < (x0.2.2.1.length:Int) then
let v1560:Int:=(mL (IntKind.i64.wrap (IntKind.u8.wrap (Int.tdiv (x0.2.2.1.getD x3.toNat (0:Int)) (16:Int)))) (5:Int))
if 0≤x3∧x3 < (x0.2.2.1.length:Int) then
let v1562:Int:=(mL (IntKind.i64.wrap (x0.2.2.1.getD x3.toNat (0:Int))) (5:Int))
if ([]:List aT).length+x2.2.1.length≤2513169434916 then
if (([]:List aT)++x2.2.1).length+[((x2.2.1.getD v1557.toNat ([],([],((0:Int),((0:Int),()))))).1,((x2.2.1.getD v1557.toNat ([],([],((0:Int),((0:Int),()))))).2.1,(v1562,(v1560,(x2.2.1.getD v1557.toNat ([],([],((0:Int),((0:Int),()))))).2.2.2.2))))].length≤2513169434916 then
let v1563:ae:=(x2.1,((([]:List aT)++x2.2.1)++[((x2.2.1.getD v1557.toNat ([],([],((0:Int),((0:Int),()))))).1,((x2.2.1.getD v1557.toNat ([],([],((0:Int),((0:Int),()))))).2.1,(v1562,(v1560,(x2.2.1.getD v1557.toNat ([],([],((0:Int),((0:Int),()))))).2.2.2.2))))]),())
(cP v1563).bind fun r1564=>
ad (r1564==(0:Int)) (k0 x0 x1 v1563 (IntKind.i64.wrap (x3+(1:Int)))) (k0 x0 x1 x2 (IntKind.i64.wrap (x3+(1:Int))))
else none
else none
else none
else none
else none
else none) (k1 x0 x1 x2 x3)) (k1 x0 x1 x2 x3)
theorem aot (cP) (h35:(rJ cP).holds cl) (x0 x1 x2 x3):exec cl N FJ (lP x0 x1 x2 x3) K=(jy cP (fun y0 y1 y2 y3=>K .normal (lP y0 y1 y2 y3)) (fun y0 y1 y2 y3=>K (.exit 2) (lP y0 y1 y2 y3)) x0 x1 x2 x3):=by
 rw [←aM h35]
 kernel_rfl
def kC {R:Type} (cP:ae→Option (Int)) (k0:dU→ae→ae→Int→Option R):Nat→dU→ae→ae→Int→Option R
 | 0,_,_,_,_=>none
 | m+1,x0,x1,x2,x3=>(jy cP (kC cP k0 m) k0 x0 x1 x2 x3)
theorem aeT (cP) (h35:(rJ cP).holds cl):∀ (m) (x0 x1 x2 x3),iter [1,2,3,7] (fun env K=>exec cl N FJ env K) K m (lP x0 x1 x2 x3)=kC cP (fun y0 y1 y2 y3=>K (.exit 2) (lP y0 y1 y2 y3)) m x0 x1 x2 x3:=by
 intro m
 induction m with
 | zero=>intros; rfl
 | succ m ih=>
   intro x0 x1 x2 x3
   simp only [b9,aot cP h35,cb,ca,cc,Ud,ih]
   rfl
theorem acj (x0 x1 x2 x3):aj [2,3] (lP x0 x1 x2 x3)=(uO x1 x2):=by kernel_rfl
def jz (N:Nat) (cP:ae→Option (Int)) (k0:ae→ae→Option R) (x0:dU) (x1 x2:ae) (x3:Int):Option R:=
kC cP (fun y0 y1 y2 y3=>k0 y1 y2) N x0 x1 x2 x3
theorem aou (cP) (h35:(rJ cP).holds cl) (x0 x1 x2 x3):exec cl N FK (lP x0 x1 x2 x3) K=(jz N cP (fun y0 y1=>K (.exit 2) (uO y0 y1)) x0 x1 x2 x3):=by
 simp only [FK,aV,b8,Ud,aeT cP h35,acj]
 rfl
theorem ack (x0 x1):aj [2,3] (uO x0 x1)=(uO x0 x1):=by kernel_rfl
def jt (k0:ae→Option R) (x0 x1:ae):Option R:=
k0 x1
theorem aoo (x0 x1):exec cl N Oj (uO x0 x1) K=(jt (fun y0=>K .ret [(2,.loc ak .no y0)]) x0 x1):=by
 kernel_rfl
def jv (N:Nat) (cP:ae→Option (Int)) (dC:Option gr) (fr:Option gr) (k0:ae→Option R) (x0:dU):Option R:=
(ju dC fr (jq (jw N ((jx (jz N cP ((jt k0))))))) x0)
theorem aoq (cP) (dC) (fr) (h35:(rJ cP).holds cl) (h37:(pg dC).holds cl) (h64:(uE fr).holds cl) (x0):exec cl N AD [(0,.v fi x0)] K=(jv N cP dC fr (fun y0=>K .ret [(2,.loc ak .no y0)]) x0):=by
 simp only [bX,bZ,bY,b5,aop dC fr h37 h64,AB,On,aom,Om,aV,cx,aor,ct,cw,cq,aci,Ol,Ot,aos,Oq,aou cP h35,ack,aoo]
 rfl
theorem aiC (y0):ag d32 .ret [(2,.loc ak .no y0)]=some [.v ak y0]:=by kernel_rfl
def iU (N:Nat) (cP:ae→Option (Int)) (dC:Option gr) (fr:Option gr) (x0:dU) (k:ae→Option R):Option R:=
(jv N cP dC fr k x0)
theorem Yx (cP) (dC) (fr) (h35:(rJ cP).holds cl) (h37:(pg dC).holds cl) (h64:(uE fr).holds cl) (x0) (k:List E→Option R):exec cl N FG [(0,.v fi x0)] (fun e env=>(ag d32 e env).bind k)=iU N cP dC fr x0 (fun r0=>k [.v ak r0]):=by
 simp only [FG,aoq cP dC fr h35 h37 h64,aiC,ar]
 rfl
def uD (S:dU→Option gr):aO:=cI 32 fi S fun b=> [.v ak b]
def fD (N:Nat) (x0:dU):Option gr:=iU N (cP N) (dC N) (fr N) x0 (fun (r0:ae)=>some (r0))
def Jm (bT:ae→V0→Option (Int)) (cB:ae→V0→Option mT) (k0:V4→Int→Option R) (k1:V4→Int→Option R) (x0:ae) (x1:V0):Option R:=
(bT x0 x1).bind fun r1577=>
ad (r1577 != (0:Int)) (k0 ([]:List UInt8) r1577) ((cB x0 x1).bind fun r1579=>
k1 r1579.1 (0:Int))
theorem an9 (bT) (cB) (h55:(nd bT).holds cl) (h57:(nX cB).holds cl) (x0 x1):exec cl N N8 (iu x0 x1) K=(Jm bT cB (fun y0 y1=>K .ret [(1,.dead),(2,.dead),(4,.v .str y0),(5,.v U2 y1)]) (fun y0 y1=>K .ret [(4,.v .str y0),(5,.v U2 y1)]) x0 x1):=by
 rw [←aM h55]
 rw [←aM h57]
 kernel_rfl
theorem aiv (y0 y1):ag d26 .ret [(1,.dead),(2,.dead),(4,.v .str y0),(5,.v U2 y1)]=some [.v .str y0,.v U2 y1]:=by kernel_rfl
theorem aiw (y0 y1):ag d26 .ret [(4,.v .str y0),(5,.v U2 y1)]=some [.v .str y0,.v U2 y1]:=by kernel_rfl
def Cd (bT:ae→V0→Option (Int)) (cB:ae→V0→Option mT) (x0:ae) (x1:V0) (k:V4→Int→Option R):Option R:=
(Jm bT cB k k x0 x1)
theorem Yu (bT) (cB) (h55:(nd bT).holds cl) (h57:(nX cB).holds cl) (x0 x1) (k:List E→Option R):exec cl N Fx (iu x0 x1) (fun e env=>(ag d26 e env).bind k)=Cd bT cB x0 x1 (fun r0 r1=>k [.v .str r0,.v U2 r1]):=by
 simp only [Fx,an9 bT cB h55 h57,aiv,aiw,ar]
 rfl
def rH (S:ae→V0→Option kL):aO:=er 26 ak U5 S fun b=> [.v .str b.1,.v U2 b.2]
def dz (N:Nat) (x0:ae) (x1:V0):Option kL:=Cd (bT N) (cB N) x0 x1 (fun (r0:V4) (r1:Int)=>some (r0,r1))
def wM (bT:ae→V0→Option (Int)) (k0:aA→Int→Option R) (k1:V0→ae→aA→Option R) (x0:ae) (x1:V0):Option R:=
(bT x0 x1).bind fun r1585=>
ad (r1585 != (0:Int)) (k0 [] r1585) (k1 x1 x0 [])
theorem anU (bT) (h55:(nd bT).holds cl) (x0 x1):exec cl N As (iu x0 x1) K=(wM bT (fun y0 y1=>K .ret (Ic y0 y1)) (fun y0 y1 y2=>exec cl N Ar [(1,.v U5 y0),(2,.loc ak .no y1),(7,.own true 40 aB .no y2)] K) x0 x1):=by
 rw [←aM h55]
 delta As
 generalize Ar=q
 revert q
 refine id ?_
 intro q
 kernel_rfl
def wI (k0:ae→aA→V0→Int→Int→Option R) (x0:V0) (x1:ae) (x2:aA):Option R:=
k0 x1 x2 x0 (x0.length:Int) (0:Int)
theorem anQ (x0 x1 x2):exec cl N NR [(1,.v U5 x0),(2,.loc ak .no x1),(7,.own true 40 aB .no x2)] K=(wI (fun y0 y1 y2 y3 y4=>K .normal (lR y0 y1 y2 y3 y4)) x0 x1 x2):=by
 kernel_rfl
theorem T8 (x0 x1 x2 x3 x4):aj [2,7,16,17,18] (lR x0 x1 x2 x3 x4)=(lR x0 x1 x2 x3 x4):=by kernel_rfl
def wJ (k0:ae→aA→V0→Int→Int→Option R) (k1:ae→aA→V0→Int→Int→Option R) (x0:ae) (x1:aA) (x2:V0) (x3 x4:Int):Option R:=
ad (decide (x4 < x3)) (if 0≤x4∧x4 < (x2.length:Int) then
if 0≤(x2.getD x4.toNat (0:Int))∧(x2.getD x4.toNat (0:Int)) < (x0.2.1.length:Int) then
if x1.length+((x0.2.1.getD (x2.getD x4.toNat (0:Int)).toNat ([],([],((0:Int),((0:Int),()))))).2.1).length≤4398046511104 then
k0 x0 (x1++(x0.2.1.getD (x2.getD x4.toNat (0:Int)).toNat ([],([],((0:Int),((0:Int),()))))).2.1) x2 x3 (IntKind.i64.wrap (x4+(1:Int)))
else none
else none
else none) (k1 x0 x1 x2 x3 x4)
theorem anR (x0 x1 x2 x3 x4):exec cl N Fp (lR x0 x1 x2 x3 x4) K=(wJ (fun y0 y1 y2 y3 y4=>K .normal (lR y0 y1 y2 y3 y4)) (fun y0 y1 y2 y3 y4=>K (.exit 0) (lR y0 y1 y2 y3 y4)) x0 x1 x2 x3 x4):=by
 kernel_rfl
def s6 {R:Type} (k0:ae→aA→V0→Int→Int→Option R):Nat→ae→aA→V0→Int→Int→Option R
 | 0,_,_,_,_,_=>none
 | m+1,x0,x1,x2,x3,x4=>(wJ (s6 k0 m) k0 x0 x1 x2 x3 x4)
theorem aeM:∀ (m) (x0 x1 x2 x3 x4),iter [2,7,16,17,18] (fun env K=>exec cl N Fp env K) K m (lR x0 x1 x2 x3 x4)=s6 (fun y0 y1 y2 y3 y4=>K (.exit 0) (lR y0 y1 y2 y3 y4)) m x0 x1 x2 x3 x4:=by
 intro m
 induction m with
 | zero=>intros; rfl
 | succ m ih=>
   intro x0 x1 x2 x3 x4
   simp only [b9,anR,cb,ca,cc,T8,ih]
   rfl
theorem ab2 (x0 x1 x2 x3 x4):aj [7] (lR x0 x1 x2 x3 x4)=(uP x1):=by kernel_rfl
def wK (N:Nat) (k0:aA→Option R) (x0:ae) (x1:aA) (x2:V0) (x3 x4:Int):Option R:=
s6 (fun y0 y1 y2 y3 y4=>k0 y1) N x0 x1 x2 x3 x4
theorem anS (x0 x1 x2 x3 x4):exec cl N Fq (lR x0 x1 x2 x3 x4) K=(wK N (fun y0=>K (.exit 0) (uP y0)) x0 x1 x2 x3 x4):=by
 simp only [Fq,aV,b8,T8,aeM,ab2]
 rfl
theorem ab3 (x0):aj [7] (uP x0)=(uP x0):=by kernel_rfl
def wL (k0:Int→aA→Option R) (x0:aA):Option R:=
k0 (0:Int) x0
theorem anT (x0):exec cl N NU (uP x0) K=(wL (fun y0 y1=>K .ret (Ie y0 y1)) x0):=by
 kernel_rfl
def wN (N:Nat) (bT:ae→V0→Option (Int)) (k0:aA→Int→Option R) (k1:Int→aA→Option R) (x0:ae) (x1:V0):Option R:=
(wM bT k0 (wI (wK N ((wL k1)))) x0 x1)
theorem anV (bT) (h55:(nd bT).holds cl) (x0 x1):exec cl N As (iu x0 x1) K=(wN N bT (fun y0 y1=>K .ret (Ic y0 y1)) (fun y0 y1=>K .ret (Ie y0 y1)) x0 x1):=by
 simp only [bX,bZ,bY,b5,anU bT h55,Ar,NT,anQ,NS,aV,cx,anS,ct,cw,cq,ab3,anT]
 rfl
theorem air (y0 y1):ag d22 .ret (Ic y0 y1)=some [.own true 40 aB .no y0,.v U2 y1]:=by kernel_rfl
theorem ais (y0 y1):ag d22 .ret (Ie y0 y1)=some [.own true 40 aB .no y1,.v U2 y0]:=by kernel_rfl
def g22 (N:Nat) (bT:ae→V0→Option (Int)) (x0:ae) (x1:V0) (k:aA→Int→Option R):Option R:=
(wN N bT k (fun y0 y1=>k y1 y0) x0 x1)
theorem Ys (bT) (h55:(nd bT).holds cl) (x0 x1) (k:List E→Option R):exec cl N Fo (iu x0 x1) (fun e env=>(ag d22 e env).bind k)=g22 N bT x0 x1 (fun r0 r1=>k [.own true 40 aB .no r0,.v U2 r1]):=by
 simp only [Fo,anV bT h55,air,ais,ar]
 rfl
def rG (S:ae→V0→Option ke):aO:=er 22 ak U5 S fun b=> [.own true 40 aB .no b.1,.v U2 b.2]
def dy (N:Nat) (x0:ae) (x1:V0):Option ke:=g22 N (bT N) x0 x1 (fun (r0:aA) (r1:Int)=>some (r0,r1))
def wY (bS:ae→V4→Option (Int)) (cB:ae→V0→Option mT) (k0:Int→Int→Option R) (k1:Int→Int→Option R) (k2:V0→ae→Option R) (x0:ae) (x1:V4) (x2:V0):Option R:=
(bS x0 x1).bind fun r1613=>
ad (r1613 != (0:Int)) (k0 (0:Int) r1613) ((cB x0 x2).bind fun r1615=>
ad (!r1615.2) (k1 (0:Int) (6:Int)) (ad (r1615.1 != x1) (k1 (0:Int) (1:Int)) (k2 x2 x0)))
theorem aok (bS) (cB) (h40:(nc bS).holds cl) (h57:(nX cB).holds cl) (x0 x1 x2):exec cl N AA (Ig x0 x1 x2) K=(wY bS cB (fun y0 y1=>K .ret (Ih y0 y1)) (fun y0 y1=>K .ret (pw y0 y1)) (fun y0 y1=>exec cl N Az (px y0 y1) K) x0 x1 x2):=by
 rw [←aM h40]
 rw [←aM h57]
 delta AA
 generalize Az=q
 revert q
 refine id ?_
 intro q
 kernel_rfl
def wU (k0:V0→ae→V0→Int→Int→Option R) (x0:V0) (x1:ae):Option R:=
k0 x0 x1 x0 (x0.length:Int) (0:Int)
theorem aog (x0 x1):exec cl N Oe (px x0 x1) K=(wU (fun y0 y1 y2 y3 y4=>K .normal (lS y0 y1 y2 y3 y4)) x0 x1):=by
 kernel_rfl
theorem Ub (x0 x1 x2 x3 x4):aj [2,3,34,35,36] (lS x0 x1 x2 x3 x4)=(lS x0 x1 x2 x3 x4):=by kernel_rfl
def wV (aS:ae→Int→aA→aA→Option (Bool)) (k0:Int→Int→Option R) (k1:V0→ae→V0→Int→Int→Option R) (k2:V0→ae→V0→Int→Int→Option R) (x0:V0) (x1:ae) (x2:V0) (x3 x4:Int):Option R:=
ad (decide (x4 < x3)) (if 0≤x4∧x4 < (x2.length:Int) then
ad (decide (x4 > (0:Int))) (let v1619:Int:=(IntKind.i64.wrap (x4 - (1:Int)))
if 0≤v1619∧v1619 < (x0.length:Int) then
if 0≤(x0.getD v1619.toNat (0:Int))∧(x0.getD v1619.toNat (0:Int)) < (x1.2.1.length:Int) then
ad (decide ((IntKind.i64.wrap (x4+(1:Int))) < (x0.length:Int))) (let v1622:Int:=(IntKind.i64.wrap (x4+(1:Int)))
if 0≤v1622∧v1622 < (x0.length:Int) then
if 0≤(x0.getD v1622.toNat (0:Int))∧(x0.getD v1622.toNat (0:Int)) < (x1.2.1.length:Int) then
(aS x1 (x2.getD x4.toNat (0:Int)) ((x1.2.1.getD (x0.getD v1619.toNat (0:Int)).toNat ([],([],((0:Int),((0:Int),()))))).2.1) ((x1.2.1.getD (x0.getD v1622.toNat (0:Int)).toNat ([],([],((0:Int),((0:Int),()))))).2.1)).bind fun r1623=>
ad (!r1623) (k0 (0:Int) (19:Int)) (k1 x0 x1 x2 x3 (IntKind.i64.wrap (x4+(1:Int))))
else none
else none) ((aS x1 (x2.getD x4.toNat (0:Int)) ((x1.2.1.getD (x0.getD v1619.toNat (0:Int)).toNat ([],([],((0:Int),((0:Int),()))))).2.1) []).bind fun r1625=>
ad (!r1625) (k0 (0:Int) (19:Int)) (k1 x0 x1 x2 x3 (IntKind.i64.wrap (x4+(1:Int)))))
else none
else none) (ad (decide ((IntKind.i64.wrap (x4+(1:Int))) < (x0.length:Int))) (let v1629:Int:=(IntKind.i64.wrap (x4+(1:Int)))
if 0≤v1629∧v1629 < (x0.length:Int) then
if 0≤(x0.getD v1629.toNat (0:Int))∧(x0.getD v1629.toNat (0:Int)) < (x1.2.1.length:Int) then
(aS x1 (x2.getD x4.toNat (0:Int)) [] ((x1.2.1.getD (x0.getD v1629.toNat (0:Int)).toNat ([],([],((0:Int),((0:Int),()))))).2.1)).bind fun r1630=>
ad (!r1630) (k0 (0:Int) (19:Int)) (k1 x0 x1 x2 x3 (IntKind.i64.wrap (x4+(1:Int))))
else none
else none) ((aS x1 (x2.getD x4.toNat (0:Int)) [] []).bind fun r1632=>
ad (!r1632) (k0 (0:Int) (19:Int)) (k1 x0 x1 x2 x3 (IntKind.i64.wrap (x4+(1:Int))))))
else none) (k2 x0 x1 x2 x3 x4)
theorem aoh (aS) (h60:(gx aS).holds cl) (x0 x1 x2 x3 x4):exec cl N FE (lS x0 x1 x2 x3 x4) K=(wV aS (fun y0 y1=>K .ret (Ii y0 y1)) (fun y0 y1 y2 y3 y4=>K .normal (lS y0 y1 y2 y3 y4)) (fun y0 y1 y2 y3 y4=>K (.exit 1) (lS y0 y1 y2 y3 y4)) x0 x1 x2 x3 x4):=by
 rw [←aM h60]
 kernel_rfl
def ns {R:Type} (aS:ae→Int→aA→aA→Option (Bool)) (k0:Int→Int→Option R) (k1:V0→ae→V0→Int→Int→Option R):Nat→V0→ae→V0→Int→Int→Option R
 | 0,_,_,_,_,_=>none
 | m+1,x0,x1,x2,x3,x4=>(wV aS k0 (ns aS k0 k1 m) k1 x0 x1 x2 x3 x4)
theorem aeQ (aS) (h60:(gx aS).holds cl):∀ (m) (x0 x1 x2 x3 x4),iter [2,3,34,35,36] (fun env K=>exec cl N FE env K) K m (lS x0 x1 x2 x3 x4)=ns aS (fun y0 y1=>K .ret (Ii y0 y1)) (fun y0 y1 y2 y3 y4=>K (.exit 1) (lS y0 y1 y2 y3 y4)) m x0 x1 x2 x3 x4:=by
 intro m
 induction m with
 | zero=>intros; rfl
 | succ m ih=>
   intro x0 x1 x2 x3 x4
   simp only [b9,aoh aS h60,cb,ca,cc,Ub,ih]
   rfl
theorem acd (x0 x1):aj [2,3,6,7] (Ii x0 x1)=(pw x0 x1):=by kernel_rfl
theorem ace (x0 x1 x2 x3 x4):aj [2,3,6,7] (lS x0 x1 x2 x3 x4)=(px x0 x1):=by kernel_rfl
def wW (N:Nat) (aS:ae→Int→aA→aA→Option (Bool)) (k0:Int→Int→Option R) (k1:V0→ae→Option R) (x0:V0) (x1:ae) (x2:V0) (x3 x4:Int):Option R:=
ns aS k0 (fun y0 y1 y2 y3 y4=>k1 y0 y1) N x0 x1 x2 x3 x4
theorem aoi (aS) (h60:(gx aS).holds cl) (x0 x1 x2 x3 x4):exec cl N FF (lS x0 x1 x2 x3 x4) K=(wW N aS (fun y0 y1=>K .ret (pw y0 y1)) (fun y0 y1=>K (.exit 1) (px y0 y1)) x0 x1 x2 x3 x4):=by
 simp only [FF,aV,b8,Ub,aeQ aS h60,acd,ace]
 rfl
theorem acf (x0 x1):aj [2,3,6,7] (pw x0 x1)=(pw x0 x1):=by kernel_rfl
theorem acg (x0 x1):aj [2,3,6,7] (px x0 x1)=(px x0 x1):=by kernel_rfl
def wX (cm:ae→V0→Option (Int)) (k0:Int→Int→Option R) (x0:V0) (x1:ae):Option R:=
(cm x1 x0).bind fun r1634=>
k0 r1634 (0:Int)
theorem aoj (cm) (h38:(nV cm).holds cl) (x0 x1):exec cl N Oh (px x0 x1) K=(wX cm (fun y0 y1=>K .ret [(6,.v U2 y0),(7,.v U2 y1)]) x0 x1):=by
 rw [←aM h38]
 kernel_rfl
def wZ (N:Nat) (cm:ae→V0→Option (Int)) (bS:ae→V4→Option (Int)) (cB:ae→V0→Option mT) (aS:ae→Int→aA→aA→Option (Bool)) (k0:Int→Int→Option R) (k1:Int→Int→Option R) (k2:Int→Int→Option R) (x0:ae) (x1:V4) (x2:V0):Option R:=
(wY bS cB k0 k1 (wU (wW N aS k1 ((wX cm k2)))) x0 x1 x2)
theorem aol (cm) (bS) (cB) (aS) (h38:(nV cm).holds cl) (h40:(nc bS).holds cl) (h57:(nX cB).holds cl) (h60:(gx aS).holds cl) (x0 x1 x2):exec cl N AA (Ig x0 x1 x2) K=(wZ N cm bS cB aS (fun y0 y1=>K .ret (Ih y0 y1)) (fun y0 y1=>K .ret (pw y0 y1)) (fun y0 y1=>K .ret [(6,.v U2 y0),(7,.v U2 y1)]) x0 x1 x2):=by
 simp only [bX,bZ,bY,b5,aok bS cB h40 h57,Az,Og,aog,Of,aV,cx,aoi aS h60,ct,cw,cq,acf,acg,aoj cm h38]
 rfl
theorem aiz (y0 y1):ag d29 .ret (Ih y0 y1)=some [.v U2 y0,.v U2 y1]:=by kernel_rfl
theorem aiA (y0 y1):ag d29 .ret (pw y0 y1)=some [.v U2 y0,.v U2 y1]:=by kernel_rfl
theorem aiB (y0 y1):ag d29 .ret [(6,.v U2 y0),(7,.v U2 y1)]=some [.v U2 y0,.v U2 y1]:=by kernel_rfl
def sv (N:Nat) (cm:ae→V0→Option (Int)) (bS:ae→V4→Option (Int)) (cB:ae→V0→Option mT) (aS:ae→Int→aA→aA→Option (Bool)) (x0:ae) (x1:V4) (x2:V0) (k:Int→Int→Option R):Option R:=
(wZ N cm bS cB aS k k k x0 x1 x2)
theorem Yw (cm) (bS) (cB) (aS) (h38:(nV cm).holds cl) (h40:(nc bS).holds cl) (h57:(nX cB).holds cl) (h60:(gx aS).holds cl) (x0 x1 x2) (k:List E→Option R):exec cl N FC (Ig x0 x1 x2) (fun e env=>(ag d29 e env).bind k)=sv N cm bS cB aS x0 x1 x2 (fun r0 r1=>k [.v U2 r0,.v U2 r1]):=by
 simp only [FC,aol cm bS cB aS h38 h40 h57 h60,aiz,aiA,aiB,ar]
 rfl
def rI (S:ae→V4→V0→Option V1):aO:=QK 29 ak .str U5 S fun b=> [.v U2 b.1,.v U2 b.2]
def dA (N:Nat) (x0:ae) (x1:V4) (x2:V0):Option V1:=sv N (cm N) (bS N) (cB N) (aS N) x0 x1 x2 (fun (r0:Int) (r1:Int)=>some (r0,r1))
def JD (dT:Int→Option (Bool)) (k0:Bool→Option R) (x0 x1:Int):Option R:=
(dT x0).bind fun r1649=>
ad r1649 ((dT x1).bind fun r1650=>
ad (!r1650) (k0 true) (k0 (decide (x0 < x1)))) (k0 (decide (x0 < x1)))
theorem apO (dT) (h77:(uI dT).holds cl) (x0 x1):exec cl N Ps (rW x0 x1) K=(JD dT (fun y0=>K .ret [(4,.v .bool y0)]) x0 x1):=by
 rw [←aM h77]
 kernel_rfl
theorem ai9 (y0):ag d68 .ret [(4,.v .bool y0)]=some [.v .bool y0]:=by kernel_rfl
def Cl (dT:Int→Option (Bool)) (x0 x1:Int) (k:Bool→Option R):Option R:=
(JD dT k x0 x1)
theorem YP (dT) (h77:(uI dT).holds cl) (x0 x1) (k:List E→Option R):exec cl N Gz (rW x0 x1) (fun e env=>(ag d68 e env).bind k)=Cl dT x0 x1 (fun r0=>k [.v .bool r0]):=by
 simp only [Gz,apO dT h77,ai9,ar]
 rfl
def rO (S:Int→Int→Option (Bool)):aO:=er 68 U2 U2 S fun b=> [.v .bool b]
def dE (N:Nat) (x0:Int) (x1:Int):Option (Bool):=Cl (dT N) x0 x1 (fun (r0:Bool)=>some (r0))
def w0 (k0:V0→Option R) (x0:V0):Option R:=
k0 x0
theorem aow (x0):exec cl N Ov [(0,.v U5 x0)] K=(w0 (fun y0=>K .normal [(0,.v U5 y0)]) x0):=by
 kernel_rfl
def w3 (k0:V0→Int→Option R) (x0:V0):Option R:=
k0 x0 (IntKind.i64.wrap ((x0.length:Int) - (1:Int)))
theorem aox (x0):exec cl N Ow [(0,.v U5 x0)] K=(w3 (fun y0 y1=>K .normal (kp y0 y1)) x0):=by
 kernel_rfl
theorem Ue (x0 x1):aj [0,3] (kp x0 x1)=(kp x0 x1):=by kernel_rfl
def w4 (dE:Int→Int→Option (Bool)) (k0:Bool→Option R) (k1:V0→Int→Option R) (k2:V0→Int→Option R) (x0:V0) (x1:Int):Option R:=
ad (decide (x1 > (0:Int))) (if 0≤x1∧x1 < (x0.length:Int) then
let v1657:Int:=(IntKind.i64.wrap (x1 - (1:Int)))
if 0≤v1657∧v1657 < (x0.length:Int) then
(dE (x0.getD x1.toNat (0:Int)) (x0.getD v1657.toNat (0:Int))).bind fun r1658=>
ad r1658 (k0 false) (k1 x0 (IntKind.i64.wrap (x1 - (1:Int))))
else none
else none) (k2 x0 x1)
theorem aoy (dE) (h68:(rO dE).holds cl) (x0 x1):exec cl N FN (kp x0 x1) K=(w4 dE (fun y0=>K .ret (rU y0)) (fun y0 y1=>K .normal (kp y0 y1)) (fun y0 y1=>K (.exit 0) (kp y0 y1)) x0 x1):=by
 rw [←aM h68]
 kernel_rfl
def s9 {R:Type} (dE:Int→Int→Option (Bool)) (k0:Bool→Option R) (k1:V0→Int→Option R):Nat→V0→Int→Option R
 | 0,_,_=>none
 | m+1,x0,x1=>(w4 dE k0 (s9 dE k0 k1 m) k1 x0 x1)
theorem aeU (dE) (h68:(rO dE).holds cl):∀ (m) (x0 x1),iter [0,3] (fun env K=>exec cl N FN env K) K m (kp x0 x1)=s9 dE (fun y0=>K .ret (rU y0)) (fun y0 y1=>K (.exit 0) (kp y0 y1)) m x0 x1:=by
 intro m
 induction m with
 | zero=>intros; rfl
 | succ m ih=>
   intro x0 x1
   simp only [b9,aoy dE h68,cb,ca,cc,Ue,ih]
   rfl
theorem acm (x0):aj [2] (rU x0)=[(2,.v .bool x0)]:=by kernel_rfl
theorem acn (x0 x1):aj [2] (kp x0 x1)=[(2,.dead)]:=by kernel_rfl
def w7 (N:Nat) (dE:Int→Int→Option (Bool)) (k0:Bool→Option R) (k1:Option R) (x0:V0) (x1:Int):Option R:=
s9 dE k0 (fun y0 y1=>k1) N x0 x1
theorem aoz (dE) (h68:(rO dE).holds cl) (x0 x1):exec cl N FO (kp x0 x1) K=(w7 N dE (fun y0=>K .ret [(2,.v .bool y0)]) (K (.exit 0) [(2,.dead)]) x0 x1):=by
 simp only [FO,aV,b8,Ue,aeU dE h68,acm,acn]
 rfl
theorem aco (x0):aj [2] [(2,.v .bool x0)]=[(2,.v .bool x0)]:=by kernel_rfl
theorem acp:aj [2] [(2,.dead)]=[(2,.dead)]:=by kernel_rfl
def w8 (k0:Bool→Option R):Option R:=
k0 true
theorem aoA:exec cl N Oz [(2,.dead)] K=(w8 (fun y0=>K .ret [(2,.v .bool y0)])):=by
 kernel_rfl
def w9 (N:Nat) (dE:Int→Int→Option (Bool)) (k0:Bool→Option R) (x0:V0):Option R:=
(w0 (w3 (w7 N dE k0 (w8 k0))) x0)
theorem aoB (dE) (h68:(rO dE).holds cl) (x0):exec cl N FP [(0,.v U5 x0)] K=(w9 N dE (fun y0=>K .ret [(2,.v .bool y0)]) x0):=by
 simp only [FP,bX,bZ,bY,b5,aow,OA,Oy,aox,Ox,aV,cx,aoz dE h68,ct,cw,cq,aco,acp,aoA]
 rfl
theorem aiE (y0):ag d36 .ret [(2,.v .bool y0)]=some [.v .bool y0]:=by kernel_rfl
def sw (N:Nat) (dE:Int→Int→Option (Bool)) (x0:V0) (k:Bool→Option R):Option R:=
(w9 N dE k x0)
theorem Yz (dE) (h68:(rO dE).holds cl) (x0) (k:List E→Option R):exec cl N FM [(0,.v U5 x0)] (fun e env=>(ag d36 e env).bind k)=sw N dE x0 (fun r0=>k [.v .bool r0]):=by
 simp only [FM,aoB dE h68,aiE,ar]
 rfl
def rK (S:V0→Option (Bool)):aO:=cI 36 U5 S fun b=> [.v .bool b]
def dB (N:Nat) (x0:V0):Option (Bool):=sw N (dE N) x0 (fun (r0:Bool)=>some (r0))
def vg (eO:Option (Bool)) (cg:ae→V4→Option mU) (fD:dU→Option gr) (k0:Bool→Option R) (k1:Bool→Option R) (k2:V4→ae→V7→Int→Option R) (x0:dU) (x1:V4):Option R:=
(eO).bind fun r1663=>
ad (!r1663) ((eO).bind fun r1664=>
k0 r1664) (ad (decide ((x0.2.1.length:Int) > (20:Int))) ((eO).bind fun r1666=>
k0 r1666) (ad (decide ((x0.2.2.1.length:Int) > (20:Int))) ((eO).bind fun r1668=>
k0 r1668) (ad (decide ((x1.length:Int) > (40:Int))) ((eO).bind fun r1670=>
k0 r1670) ((fD x0).bind fun r1671=>
(cg r1671 x1).bind fun r1672=>
ad (r1672.2 != (0:Int)) (k1 ((r1672.1.length:Int)==(0:Int))) (k2 x1 r1671 r1672.1 (0:Int))))))
theorem alg (eO) (cg) (fD) (h11:(uC eO).holds cl) (h16:(nT cg).holds cl) (h32:(uD fD).holds cl) (x0 x1):exec cl N zH [(0,.v fi x0),(1,.v .str x1)] K=(vg eO cg fD (fun y0=>K .ret (Ij y0)) (fun y0=>K .ret (Il y0)) (fun y0 y1 y2 y3=>exec cl N zG (Q1 y0 y1 y2 y3) K) x0 x1):=by
 rw [←aM h11]
 rw [←aM h16]
 rw [←aM h32]
 delta zH
 generalize zG=q
 revert q
 refine id ?_
 intro q
 kernel_rfl
def vc (k0:V4→ae→V7→Int→Int→Int→Option R) (x0:V4) (x1:ae) (x2:V7) (x3:Int):Option R:=
k0 x0 x1 x2 x3 (x2.length:Int) (0:Int)
theorem alc (x0 x1 x2 x3):exec cl N L2 (Q1 x0 x1 x2 x3) K=(vc (fun y0 y1 y2 y3 y4 y5=>K .normal (lT y0 y1 y2 y3 y4 y5)) x0 x1 x2 x3):=by
 kernel_rfl
theorem TK (x0 x1 x2 x3 x4 x5):aj [1,5,6,8,52,53,54] (lT x0 x1 x2 x3 x4 x5)=(lT x0 x1 x2 x3 x4 x5):=by kernel_rfl
def vd (dy:ae→V0→Option ke) (ck:ae→V0→Option V8) (dz:ae→V0→Option kL) (dA:ae→V4→V0→Option V1) (dB:V0→Option (Bool)) (k0:Bool→Option R) (k1:V4→ae→V7→Int→Int→Int→Option R) (k2:V4→ae→V7→Int→Int→Int→Option R) (x0:V4) (x1:ae) (x2:V7) (x3 x4 x5:Int):Option R:=
ad (decide (x5 < x4)) (if 0≤x5∧x5 < (x2.length:Int) then
if x5.toNat < x2.length then
(dz x1 (x2.getD x5.toNat [])).bind fun r1677=>
(dy x1 (x2.getD x5.toNat [])).bind fun r1678=>
(ck x1 (x2.getD x5.toNat [])).bind fun r1679=>
(dA x1 x0 (x2.getD x5.toNat [])).bind fun r1680=>
ad (r1677.2 != (0:Int)) (k0 false) (ad (r1678.2 != (0:Int)) (k0 false) (ad (r1679.2 != (0:Int)) (k0 false) (ad (r1680.2 != (0:Int)) (k0 false) (ad (r1677.1 != x0) (k0 false) (ad ((r1678.1.length:Int) != (r1679.1.length:Int)) (k0 false) ((dB r1679.1).bind fun r1687=>
ad (!r1687) (k0 false) (ad (decide (r1680.1 < x3)) (k0 false) (k1 x0 x1 x2 r1680.1 x4 (IntKind.i64.wrap (x5+(1:Int)))))))))))
else none
else none) (k2 x0 x1 x2 x3 x4 x5)
theorem ald (dy) (ck) (dz) (dA) (dB) (h22:(rG dy).holds cl) (h24:(nU ck).holds cl) (h26:(rH dz).holds cl) (h29:(rI dA).holds cl) (h36:(rK dB).holds cl) (x0 x1 x2 x3 x4 x5):exec cl N DO (lT x0 x1 x2 x3 x4 x5) K=(vd dy ck dz dA dB (fun y0=>K .ret (Im y0)) (fun y0 y1 y2 y3 y4 y5=>K .normal (lT y0 y1 y2 y3 y4 y5)) (fun y0 y1 y2 y3 y4 y5=>K (.exit 0) (lT y0 y1 y2 y3 y4 y5)) x0 x1 x2 x3 x4 x5):=by
 rw [←aM h22]
 rw [←aM h24]
 rw [←aM h26]
 rw [←aM h29]
 rw [←aM h36]
 kernel_rfl
def sV {R:Type} (dy:ae→V0→Option ke) (ck:ae→V0→Option V8) (dz:ae→V0→Option kL) (dA:ae→V4→V0→Option V1) (dB:V0→Option (Bool)) (k0:Bool→Option R) (k1:V4→ae→V7→Int→Int→Int→Option R):Nat→V4→ae→V7→Int→Int→Int→Option R
 | 0,_,_,_,_,_,_=>none
 | m+1,x0,x1,x2,x3,x4,x5=>(vd dy ck dz dA dB k0 (sV dy ck dz dA dB k0 k1 m) k1 x0 x1 x2 x3 x4 x5)
theorem aep (dy) (ck) (dz) (dA) (dB) (h22:(rG dy).holds cl) (h24:(nU ck).holds cl) (h26:(rH dz).holds cl) (h29:(rI dA).holds cl) (h36:(rK dB).holds cl):∀ (m) (x0 x1 x2 x3 x4 x5),iter [1,5,6,8,52,53,54] (fun env K=>exec cl N DO env K) K m (lT x0 x1 x2 x3 x4 x5)=sV dy ck dz dA dB (fun y0=>K .ret (Im y0)) (fun y0 y1 y2 y3 y4 y5=>K (.exit 0) (lT y0 y1 y2 y3 y4 y5)) m x0 x1 x2 x3 x4 x5:=by
 intro m
 induction m with
 | zero=>intros; rfl
 | succ m ih=>
   intro x0 x1 x2 x3 x4 x5
   simp only [b9,ald dy ck dz dA dB h22 h24 h26 h29 h36,cb,ca,cc,TK,ih]
   rfl
theorem aaN (x0):aj [4] (Im x0)=[(4,.v .bool x0)]:=by kernel_rfl
theorem aaO (x0 x1 x2 x3 x4 x5):aj [4] (lT x0 x1 x2 x3 x4 x5)=[(4,.dead)]:=by kernel_rfl
def ve (N:Nat) (dy:ae→V0→Option ke) (ck:ae→V0→Option V8) (dz:ae→V0→Option kL) (dA:ae→V4→V0→Option V1) (dB:V0→Option (Bool)) (k0:Bool→Option R) (k1:Option R) (x0:V4) (x1:ae) (x2:V7) (x3 x4 x5:Int):Option R:=
sV dy ck dz dA dB k0 (fun y0 y1 y2 y3 y4 y5=>k1) N x0 x1 x2 x3 x4 x5
theorem ale (dy) (ck) (dz) (dA) (dB) (h22:(rG dy).holds cl) (h24:(nU ck).holds cl) (h26:(rH dz).holds cl) (h29:(rI dA).holds cl) (h36:(rK dB).holds cl) (x0 x1 x2 x3 x4 x5):exec cl N DP (lT x0 x1 x2 x3 x4 x5) K=(ve N dy ck dz dA dB (fun y0=>K .ret [(4,.v .bool y0)]) (K (.exit 0) [(4,.dead)]) x0 x1 x2 x3 x4 x5):=by
 simp only [DP,aV,b8,TK,aep dy ck dz dA dB h22 h24 h26 h29 h36,aaN,aaO]
 rfl
theorem aaP (x0):aj [4] [(4,.v .bool x0)]=[(4,.v .bool x0)]:=by kernel_rfl
theorem aaQ:aj [4] [(4,.dead)]=[(4,.dead)]:=by kernel_rfl
def vf (k0:Bool→Option R):Option R:=
k0 true
theorem alf:exec cl N L5 [(4,.dead)] K=(vf (fun y0=>K .ret [(4,.v .bool y0)])):=by
 kernel_rfl
def vh (N:Nat) (eO:Option (Bool)) (cg:ae→V4→Option mU) (dy:ae→V0→Option ke) (ck:ae→V0→Option V8) (dz:ae→V0→Option kL) (dA:ae→V4→V0→Option V1) (fD:dU→Option gr) (dB:V0→Option (Bool)) (k0:Bool→Option R) (k1:Bool→Option R) (k2:Bool→Option R) (x0:dU) (x1:V4):Option R:=
(vg eO cg fD k0 k1 (vc (ve N dy ck dz dA dB k2 (vf k2))) x0 x1)
theorem alh (eO) (cg) (dy) (ck) (dz) (dA) (fD) (dB) (h11:(uC eO).holds cl) (h16:(nT cg).holds cl) (h22:(rG dy).holds cl) (h24:(nU ck).holds cl) (h26:(rH dz).holds cl) (h29:(rI dA).holds cl) (h32:(uD fD).holds cl) (h36:(rK dB).holds cl) (x0 x1):exec cl N zH [(0,.v fi x0),(1,.v .str x1)] K=(vh N eO cg dy ck dz dA fD dB (fun y0=>K .ret (Ij y0)) (fun y0=>K .ret (Il y0)) (fun y0=>K .ret [(4,.v .bool y0)]) x0 x1):=by
 simp only [bX,bZ,bY,b5,alg eO cg fD h11 h16 h32,zG,L4,alc,L3,aV,cx,ale dy ck dz dA dB h22 h24 h26 h29 h36,ct,cw,cq,aaP,aaQ,alf]
 rfl
theorem ahk (y0):ag d10 .ret (Ij y0)=some [.v .bool y0]:=by kernel_rfl
theorem ahl (y0):ag d10 .ret (Il y0)=some [.v .bool y0]:=by kernel_rfl
theorem ahm (y0):ag d10 .ret [(4,.v .bool y0)]=some [.v .bool y0]:=by kernel_rfl
def g10 (N:Nat) (eO:Option (Bool)) (cg:ae→V4→Option mU) (dy:ae→V0→Option ke) (ck:ae→V0→Option V8) (dz:ae→V0→Option kL) (dA:ae→V4→V0→Option V1) (fD:dU→Option gr) (dB:V0→Option (Bool)) (x0:dU) (x1:V4) (k:Bool→Option R):Option R:=
(vh N eO cg dy ck dz dA fD dB k k k x0 x1)
theorem XL (eO) (cg) (dy) (ck) (dz) (dA) (fD) (dB) (h11:(uC eO).holds cl) (h16:(nT cg).holds cl) (h22:(rG dy).holds cl) (h24:(nU ck).holds cl) (h26:(rH dz).holds cl) (h29:(rI dA).holds cl) (h32:(uD fD).holds cl) (h36:(rK dB).holds cl) (x0 x1) (k:List E→Option R):exec cl N DN [(0,.v fi x0),(1,.v .str x1)] (fun e env=>(ag d10 e env).bind k)=g10 N eO cg dy ck dz dA fD dB x0 x1 (fun r0=>k [.v .bool r0]):=by
 simp only [DN,alh eO cg dy ck dz dA fD dB h11 h16 h22 h24 h26 h29 h32 h36,ahk,ahl,ahm,ar]
 rfl
def ar7 (S:dU→V4→Option (Bool)):aO:=er 10 fi .str S fun b=> [.v .bool b]
def Dv (N:Nat) (x0:dU) (x1:V4):Option (Bool):=g10 N (eO N) (cg N) (dy N) (ck N) (dz N) (dA N) (fD N) (dB N) x0 x1 (fun (r0:Bool)=>some (r0))
end Go.Fw.L19
