/- Own work. -/
import Derived.Test.YtooiookccchmeaaGreatFwMy13a
import Derived.Test.YtooiookccchmeaaGreatFwB4
set_option linter.unusedVariables false
set_option linter.unusedSimpArgs false
open Int renaming tmod → mM
open List renaming replicate → kd
open Option renaming bind_some → ar
namespace Go.Fw.L19
open Go Go.Fw
set_option maxRecDepth 100000
variable {N:Nat} {cl:az} {R:Type} {K:KE R}
def Km (k0:V4→Option R) (k1:aG→V4→Int→Option R) (x0:aG) (x1:V4):Option R:=
ad ((x0.length:Int)==(0:Int)) (k0 ([]:List UInt8)) (ad ((x0.length:Int)==(1:Int)) (if 0≤(0:Int)∧(0:Int) < (x0.length:Int) then
k0 (x0.getD (0:Int).toNat [])
else none) (ad (decide ((x1.length:Int) > (0:Int))) (let v1110:Int:=(IntKind.i64.wrap ((x0.length:Int) - (1:Int)))
if v1110=0 then none else
ad (decide ((x1.length:Int)≥(IntKind.i64.wrap (Int.tdiv (9223372036854775807:Int) v1110)))) (none /- operation makeInterface -/) (k1 x0 x1 (IntKind.i64.wrap ((0:Int)+(IntKind.i64.wrap ((x1.length:Int) * (IntKind.i64.wrap ((x0.length:Int) - (1:Int))))))))) (k1 x0 x1 (0:Int))))
theorem arR (x0 x1):exec cl N BG [(0,.v U1 x0),(1,.v .str x1)] K=(Km (fun y0=>K .ret (Ja y0)) (fun y0 y1 y2=>exec cl N BF (pB y0 y1 y2) K) x0 x1):=by
 delta BG
 generalize BF=q
 revert q
 refine id ?_
 intro q
 kernel_rfl
def Ki (k0:aG→V4→Int→aG→Int→Int→Option R) (x0:aG) (x1:V4) (x2:Int):Option R:=
k0 x0 x1 x2 x0 (x0.length:Int) (0:Int)
theorem arN (x0 x1 x2):exec cl N QS (pB x0 x1 x2) K=(Ki (fun y0 y1 y2 y3 y4 y5=>K .normal (ml y0 y1 y2 y3 y4 y5)) x0 x1 x2):=by
 kernel_rfl
theorem Vh (x0 x1 x2 x3 x4 x5):aj [0,1,5,39,40,41] (ml x0 x1 x2 x3 x4 x5)=(ml x0 x1 x2 x3 x4 x5):=by kernel_rfl
def Kj (k0:aG→V4→Int→aG→Int→Int→Option R) (k1:aG→V4→Int→aG→Int→Int→Option R) (x0:aG) (x1:V4) (x2:Int) (x3:aG) (x4 x5:Int):Option R:=
ad (decide (x5 < x4)) (if 0≤x5∧x5 < (x3.length:Int) then
ad (decide (((x3.getD x5.toNat []).length:Int) > (IntKind.i64.wrap ((9223372036854775807:Int) - x2)))) (none /- operation makeInterface -/) (k0 x0 x1 (IntKind.i64.wrap (x2+((x3.getD x5.toNat []).length:Int))) x3 x4 (IntKind.i64.wrap (x5+(1:Int))))
else none) (k1 x0 x1 x2 x3 x4 x5)
theorem arO (x0 x1 x2 x3 x4 x5):exec cl N HL (ml x0 x1 x2 x3 x4 x5) K=(Kj (fun y0 y1 y2 y3 y4 y5=>K .normal (ml y0 y1 y2 y3 y4 y5)) (fun y0 y1 y2 y3 y4 y5=>K (.exit 1) (ml y0 y1 y2 y3 y4 y5)) x0 x1 x2 x3 x4 x5):=by
 kernel_rfl
def KX {R:Type} (k0:aG→V4→Int→aG→Int→Int→Option R):Nat→aG→V4→Int→aG→Int→Int→Option R
 | 0,_,_,_,_,_,_=>none
 | m+1,x0,x1,x2,x3,x4,x5=>(Kj (KX k0 m) k0 x0 x1 x2 x3 x4 x5)
theorem afU:∀ (m) (x0 x1 x2 x3 x4 x5),iter [0,1,5,39,40,41] (fun env K=>exec cl N HL env K) K m (ml x0 x1 x2 x3 x4 x5)=KX (fun y0 y1 y2 y3 y4 y5=>K (.exit 1) (ml y0 y1 y2 y3 y4 y5)) m x0 x1 x2 x3 x4 x5:=by
 intro m
 induction m with
 | zero=>intros; rfl
 | succ m ih=>
   intro x0 x1 x2 x3 x4 x5
   simp only [bZ,arO,b6,b5,b7,Vh,ih]
   rfl
theorem ad3 (x0 x1 x2 x3 x4 x5):aj [0,1,5] (ml x0 x1 x2 x3 x4 x5)=(pB x0 x1 x2):=by kernel_rfl
def Kk (N:Nat) (k0:aG→V4→Int→Option R) (x0:aG) (x1:V4) (x2:Int) (x3:aG) (x4 x5:Int):Option R:=
KX (fun y0 y1 y2 y3 y4 y5=>k0 y0 y1 y2) N x0 x1 x2 x3 x4 x5
theorem arP (x0 x1 x2 x3 x4 x5):exec cl N HM (ml x0 x1 x2 x3 x4 x5) K=(Kk N (fun y0 y1 y2=>K (.exit 1) (pB y0 y1 y2)) x0 x1 x2 x3 x4 x5):=by
 simp only [HM,aT,bX,Vh,afU,ad3]
 rfl
theorem ad4 (x0 x1 x2):aj [0,1,5] (pB x0 x1 x2)=(pB x0 x1 x2):=by kernel_rfl
def Kl (x0:aG) (x1:V4) (x2:Int):Option R:=
none /- lent:sb -/
theorem arQ (x0 x1 x2):exec cl N HN (pB x0 x1 x2) K=(Kl x0 x1 x2):=by
 delta HN
 generalize QT=q
 revert q
 refine id ?_
 intro q
 kernel_rfl
def Kn (N:Nat) (k0:V4→Option R) (x0:aG) (x1:V4):Option R:=
(Km k0 (Ki (Kk N Kl)) x0 x1)
theorem arS (x0 x1):exec cl N BG [(0,.v U1 x0),(1,.v .str x1)] K=(Kn N (fun y0=>K .ret (Ja y0)) x0 x1):=by
 simp only [bY,b9,b8,ca,arR,BF,QV,arN,QU,aT,cx,arP,ct,cw,cq,ad4,arQ]
 rfl
theorem akj (y0):ag d99 .ret (Ja y0)=some [.v .str y0]:=by kernel_rfl
def CV (N:Nat) (x0:aG) (x1:V4) (k:V4→Option R):Option R:=
(Kn N k x0 x1)
theorem Zv (x0 x1) (k:List E→Option R):exec cl N HK [(0,.v U1 x0),(1,.v .str x1)] (fun e env=>(ag d99 e env).bind k)=CV N x0 x1 (fun r0=>k [.v .str r0]):=by
 simp only [HK,arS,akj,ar]
 rfl
def B5 (S:aG→V4→Option V6):aQ:=eA 99 U1 .str S fun b=> [.v .str b]
def fL (N:Nat) (x0:aG) (x1:V4):Option V6:=CV N x0 x1 (fun (r0:V4)=>some (r0))
def xV (k0:aG→Option R) (x0:aG):Option R:=
k0 x0
theorem aqK (x0):exec cl N P8 [(0,.v U1 x0)] K=(xV (fun y0=>K .normal [(0,.v U1 y0)]) x0):=by
 kernel_rfl
def xW (k0:aG→aG→Int→Int→Option R) (x0:aG):Option R:=
k0 x0 x0 (x0.length:Int) (0:Int)
theorem aqL (x0):exec cl N P9 [(0,.v U1 x0)] K=(xW (fun y0 y1 y2 y3=>K .normal (mn y0 y1 y2 y3)) x0):=by
 kernel_rfl
theorem UY (x0 x1 x2 x3):aj [0,7,8,9] (mn x0 x1 x2 x3)=(mn x0 x1 x2 x3):=by kernel_rfl
def xX (db:V0→cb→Option (Bool)) (dq:Int→Option (Bool)) (k0:V4→Int→Option R) (k1:aG→aG→Int→Int→Option R) (k2:aG→aG→Int→Int→Option R) (x0 x1:aG) (x2 x3:Int):Option R:=
ad (decide (x3 < x2)) (if 0≤x3∧x3 < (x1.length:Int) then
ad ((x1.getD x3.toNat [])==([]:List UInt8)) (k0 ([]:List UInt8) (7:Int)) ((db ((x1.getD x3.toNat []).map fun b=>(b.toNat:Int)) (fun (x1125:V3)=>((dq x1125.1).bind fun b1126=>some [.v .bool b1126]).bind (j7 .bool))).bind fun r1127=>
ad r1127 (k0 ([]:List UInt8) (2:Int)) (k1 x0 x1 x2 (IntKind.i64.wrap (x3+(1:Int)))))
else none) (k2 x0 x1 x2 x3)
theorem aqM (db) (dq) (h96:(rU db).holds cl) (h97:(rV dq).holds cl) (x0 x1 x2 x3):exec cl N Ha (mn x0 x1 x2 x3) K=(xX db dq (fun y0 y1=>K .ret (Jb y0 y1)) (fun y0 y1 y2 y3=>K .normal (mn y0 y1 y2 y3)) (fun y0 y1 y2 y3=>K (.exit 0) (mn y0 y1 y2 y3)) x0 x1 x2 x3):=by
 rw [←aN h96]
 rw [←aN h97]
 kernel_rfl
def qB {R:Type} (db:V0→cb→Option (Bool)) (dq:Int→Option (Bool)) (k0:V4→Int→Option R) (k1:aG→aG→Int→Int→Option R):Nat→aG→aG→Int→Int→Option R
 | 0,_,_,_,_=>none
 | m+1,x0,x1,x2,x3=>(xX db dq k0 (qB db dq k0 k1 m) k1 x0 x1 x2 x3)
theorem afL (db) (dq) (h96:(rU db).holds cl) (h97:(rV dq).holds cl):∀ (m) (x0 x1 x2 x3),iter [0,7,8,9] (fun env K=>exec cl N Ha env K) K m (mn x0 x1 x2 x3)=qB db dq (fun y0 y1=>K .ret (Jb y0 y1)) (fun y0 y1 y2 y3=>K (.exit 0) (mn y0 y1 y2 y3)) m x0 x1 x2 x3:=by
 intro m
 induction m with
 | zero=>intros; rfl
 | succ m ih=>
   intro x0 x1 x2 x3
   simp only [bZ,aqM db dq h96 h97,b6,b5,b7,UY,ih]
   rfl
theorem adB (x0 x1):aj [0,2,3] (Jb x0 x1)=(sc x0 x1):=by kernel_rfl
theorem adC (x0 x1 x2 x3):aj [0,2,3] (mn x0 x1 x2 x3)=(va x0):=by kernel_rfl
def xY (N:Nat) (db:V0→cb→Option (Bool)) (dq:Int→Option (Bool)) (k0:V4→Int→Option R) (k1:aG→Option R) (x0 x1:aG) (x2 x3:Int):Option R:=
qB db dq k0 (fun y0 y1 y2 y3=>k1 y0) N x0 x1 x2 x3
theorem aqN (db) (dq) (h96:(rU db).holds cl) (h97:(rV dq).holds cl) (x0 x1 x2 x3):exec cl N Hb (mn x0 x1 x2 x3) K=(xY N db dq (fun y0 y1=>K .ret (sc y0 y1)) (fun y0=>K (.exit 0) (va y0)) x0 x1 x2 x3):=by
 simp only [Hb,aT,bX,UY,afL db dq h96 h97,adB,adC]
 rfl
theorem adD (x0 x1):aj [0,2,3] (sc x0 x1)=(sc x0 x1):=by kernel_rfl
theorem adE (x0):aj [0,2,3] (va x0)=(va x0):=by kernel_rfl
def xZ (fL:aG→V4→Option V6) (k0:V4→Int→Option R) (k1:V4→Int→Option R) (x0:aG):Option R:=
(fL x0 ([32]:List UInt8)).bind fun r1129=>
ad (decide ((r1129.length:Int) > (120:Int))) (k0 ([]:List UInt8) (3:Int)) (k1 r1129 (0:Int))
theorem aqO (fL) (h99:(B5 fL).holds cl) (x0):exec cl N Qc (va x0) K=(xZ fL (fun y0 y1=>K .ret (Ir y0 y1)) (fun y0 y1=>K .ret [(2,.v .str y0),(3,.v U2 y1)]) x0):=by
 rw [←aN h99]
 kernel_rfl
def ya (N:Nat) (db:V0→cb→Option (Bool)) (dq:Int→Option (Bool)) (fL:aG→V4→Option V6) (k0:V4→Int→Option R) (k1:V4→Int→Option R) (k2:V4→Int→Option R) (x0:aG):Option R:=
(xV (xW (xY N db dq k0 ((xZ fL k1 k2)))) x0)
theorem aqP (db) (dq) (fL) (h96:(rU db).holds cl) (h97:(rV dq).holds cl) (h99:(B5 fL).holds cl) (x0):exec cl N Hc [(0,.v U1 x0)] K=(ya N db dq fL (fun y0 y1=>K .ret (sc y0 y1)) (fun y0 y1=>K .ret (Ir y0 y1)) (fun y0 y1=>K .ret [(2,.v .str y0),(3,.v U2 y1)]) x0):=by
 simp only [Hc,bY,b9,b8,ca,aqK,Qd,Qb,aqL,Qa,aT,cx,aqN db dq h96 h97,ct,cw,cq,adD,adE,aqO fL h99]
 rfl
theorem ajS (y0 y1):ag d71 .ret (sc y0 y1)=some [.v .str y0,.v U2 y1]:=by kernel_rfl
theorem ajT (y0 y1):ag d71 .ret (Ir y0 y1)=some [.v .str y0,.v U2 y1]:=by kernel_rfl
theorem ajU (y0 y1):ag d71 .ret [(2,.v .str y0),(3,.v U2 y1)]=some [.v .str y0,.v U2 y1]:=by kernel_rfl
def sV (N:Nat) (db:V0→cb→Option (Bool)) (dq:Int→Option (Bool)) (fL:aG→V4→Option V6) (x0:aG) (k:V4→Int→Option R):Option R:=
(ya N db dq fL k k k x0)
theorem Zh (db) (dq) (fL) (h96:(rU db).holds cl) (h97:(rV dq).holds cl) (h99:(B5 fL).holds cl) (x0) (k:List E→Option R):exec cl N G9 [(0,.v U1 x0)] (fun e env=>(ag d71 e env).bind k)=sV N db dq fL x0 (fun r0 r1=>k [.v .str r0,.v U2 r1]):=by
 simp only [G9,aqP db dq fL h96 h97 h99,ajS,ajT,ajU,ar]
 rfl
def Ih (S:aG→Option zO):aQ:=cG 71 U1 S fun b=> [.v .str b.1,.v U2 b.2]
def ij (N:Nat) (x0:aG):Option zO:=sV N (db N) (dq N) (fL N) x0 (fun (r0:V4) (r1:Int)=>some (r0,r1))
def JS (ey:ae→Option (Int)) (ij:aG→Option zO) (ez:V4→Option V6) (k0:Int→Option R) (k1:Int→Option R) (x0:ae) (x1:V4):Option R:=
(ey x0).bind fun r1134=>
ad (r1134 != (0:Int)) (k0 r1134) (ad (x1==([]:List UInt8)) (k0 (7:Int)) (ad (decide ((x1.length:Int) > (16:Int))) (k0 (3:Int)) ((ij [x1]).bind fun r1138=>
ad (r1138.2 != (0:Int)) (k1 (2:Int)) ((ez x1).bind fun r1140=>
ad (r1140 != x1) (k1 (2:Int)) (k1 (0:Int))))))
theorem apq (ey) (ij) (ez) (h70:(uZ ey).holds cl) (h71:(Ih ij).holds cl) (h72:(u0 ez).holds cl) (x0 x1):exec cl N O6 (nf x0 x1) K=(JS ey ij ez (fun y0=>K .ret [(1,.dead),(4,.v U2 y0)]) (fun y0=>K .ret [(4,.v U2 y0)]) x0 x1):=by
 rw [←aN h70]
 rw [←aN h71]
 rw [←aN h72]
 kernel_rfl
theorem ajj (y0):ag d40 .ret [(1,.dead),(4,.v U2 y0)]=some [.v U2 y0]:=by kernel_rfl
theorem ajk (y0):ag d40 .ret [(4,.v U2 y0)]=some [.v U2 y0]:=by kernel_rfl
def CK (ey:ae→Option (Int)) (ij:aG→Option zO) (ez:V4→Option V6) (x0:ae) (x1:V4) (k:Int→Option R):Option R:=
(JS ey ij ez k k x0 x1)
theorem Y1 (ey) (ij) (ez) (h70:(uZ ey).holds cl) (h71:(Ih ij).holds cl) (h72:(u0 ez).holds cl) (x0 x1) (k:List E→Option R):exec cl N Gm (nf x0 x1) (fun e env=>(ag d40 e env).bind k)=CK ey ij ez x0 x1 (fun r0=>k [.v U2 r0]):=by
 simp only [Gm,apq ey ij ez h70 h71 h72,ajj,ajk,ar]
 rfl
def rQ (S:ae→V4→Option (Int)):aQ:=eA 40 ak .str S fun b=> [.v U2 b]
def dF (N:Nat) (x0:ae) (x1:V4):Option (Int):=CK (ey N) (ij N) (ez N) x0 x1 (fun (r0:Int)=>some (r0))
def J6 (k0:aA→Option R) (k1:aA→Option R) (x0:aJ) (x1:Int):Option R:=
ad (decide (x1 < (0:Int))) (k0 []) (if 0≤x1∧x1 < (x0.1.2.1.length:Int) then
k1 ((x0.1.2.1.getD x1.toNat ([],([],((0:Int),((0:Int),()))))).2.1)
else none)
theorem aqW (x0 x1):exec cl N Qi [(0,.at bG x0),(1,.v U2 x1)] K=(J6 (fun y0=>K .ret (Rp y0)) (fun y0=>K .ret [(4,.v bt y0)]) x0 x1):=by
 kernel_rfl
theorem ajW (y0):ag d73 .ret (Rp y0)=some [.v bt y0]:=by kernel_rfl
theorem ajX (y0):ag d73 .ret [(4,.v bt y0)]=some [.v bt y0]:=by kernel_rfl
def sX (x0:aJ) (x1:Int) (k:aA→Option R):Option R:=
(J6 k k x0 x1)
theorem Kq (x0 x1) (k:List E→Option R):exec cl N Hg [(0,.at bG x0),(1,.v U2 x1)] (fun e env=>(ag d73 e env).bind k)=sX x0 x1 (fun r0=>k [.v bt r0]):=by
 simp only [Hg,aqW,ajW,ajX,ar]
 rfl
def jk (S:aJ→Int→Option lq):aQ:={A:=aJ×Int×Unit,B:=aA,f:=73,enc:=fun a=> [.at bG a.1,.v U2 a.2.1],dec:=(ba (pg bG) (ba (bL U2) ck)),S:=fun a=>S a.1 a.2.1,av:=fun b=> [.v bt b],ok:=(B6 (T:=bG) (gi (T:=U2) (fun es b h=>ir h)))}
def bC (N:Nat) (x0:aJ) (x1:Int):Option lq:=sX x0 x1 (fun (r0:aA)=>some (r0))
def Ka (k0:Bool→Option R) (x0:aR):Option R:=
ad (x0.1==(1:Int)) (k0 true) (k0 (x0.1==(2:Int)))
theorem aq6 (x0):exec cl N Qq [(0,.v aD x0)] K=(Ka (fun y0=>K .ret [(2,.v .bool y0)]) x0):=by
 kernel_rfl
theorem aj3 (y0):ag d87 .ret [(2,.v .bool y0)]=some [.v .bool y0]:=by kernel_rfl
def sZ (x0:aR) (k:Bool→Option R):Option R:=
(Ka k x0)
theorem Kt (x0) (k:List E→Option R):exec cl N Hn [(0,.v aD x0)] (fun e env=>(ag d87 e env).bind k)=sZ x0 (fun r0=>k [.v .bool r0]):=by
 simp only [Hn,aq6,aj3,ar]
 rfl
def nd (S:aR→Option (Bool)):aQ:=cG 87 aD S fun b=> [.v .bool b]
def cX (N:Nat) (x0:aR):Option (Bool):=sZ x0 (fun (r0:Bool)=>some (r0))
def JY (k0:Int→aA→aA→ae→Option R) (x0:ae) (x1:Int) (x2 x3:aA):Option R:=
k0 x1 x2 x3 x0
theorem aqc (x0 x1 x2 x3):exec cl N PE (Is x0 x1 x2 x3) K=(JY (fun y0 y1 y2 y3=>K .normal [(1,.v U2 y0),(2,.v bt y1),(3,.v bt y2),(4,.loc ak .no y3)]) x0 x1 x2 x3):=by
 kernel_rfl
def JZ (k0:Bool→Option R) (k1:Int→aA→aA→ae→Option R) (x0:Int) (x1 x2:aA) (x3:ae):Option R:=
ad (decide (x0 < (0:Int))) (k0 false) (ad (decide (x0≥(x3.2.1.length:Int))) (k0 false) (k1 x0 x1 x2 x3))
theorem aqd (x0 x1 x2 x3):exec cl N PF [(1,.v U2 x0),(2,.v bt x1),(3,.v bt x2),(4,.loc ak .no x3)] K=(JZ (fun y0=>K .ret (It y0)) (fun y0 y1 y2 y3=>K .normal (Rq y0 y1 y2 y3)) x0 x1 x2 x3):=by
 kernel_rfl
def J0 (cX:aR→Option (Bool)) (k0:Int→aA→ae→Bool→Option R) (x0:Int) (x1 x2:aA) (x3:ae):Option R:=
ad (decide ((x2.length:Int) > (0:Int))) (if 0≤(0:Int)∧(0:Int) < (x2.length:Int) then
(cX (x2.getD (0:Int).toNat ((0:Int),((0:Int),([],()))))).bind fun r1213=>
k0 x0 x1 x3 r1213
else none) (k0 x0 x1 x3 false)
theorem aqe (cX) (h87:(nd cX).holds cl) (x0 x1 x2 x3):exec cl N PG (Rq x0 x1 x2 x3) K=(J0 cX (fun y0 y1 y2 y3=>K .normal [(1,.v U2 y0),(2,.v bt y1),(4,.loc ak .no y2),(9,.v .bool y3)]) x0 x1 x2 x3):=by
 rw [←aN h87]
 kernel_rfl
def J1 (cX:aR→Option (Bool)) (k0:Bool→Option R) (x0:Int) (x1:aA) (x2:ae) (x3:Bool):Option R:=
if 0≤x0∧x0 < (x2.2.1.length:Int) then
ad ((x2.2.1.getD x0.toNat ([],([],((0:Int),((0:Int),()))))).2.2.2.1==(0:Int)) (k0 true) (ad ((x2.2.1.getD x0.toNat ([],([],((0:Int),((0:Int),()))))).2.2.2.1==(1:Int)) (k0 x3) (ad ((x2.2.1.getD x0.toNat ([],([],((0:Int),((0:Int),()))))).2.2.2.1==(2:Int)) (ad x3 (k0 ((x1.length:Int)==(0:Int))) (k0 false)) (ad ((x2.2.1.getD x0.toNat ([],([],((0:Int),((0:Int),()))))).2.2.2.1==(3:Int)) (ad x3 (ad (decide ((x1.length:Int) > (0:Int))) (let v1220:Int:=(IntKind.i64.wrap ((x1.length:Int) - (1:Int)))
if 0≤v1220∧v1220 < (x1.length:Int) then
(cX (x1.getD v1220.toNat ((0:Int),((0:Int),([],()))))).bind fun r1221=>
k0 r1221
else none) (k0 false)) (k0 false)) (ad ((x2.2.1.getD x0.toNat ([],([],((0:Int),((0:Int),()))))).2.2.2.1==(4:Int)) (k0 (!x3)) (k0 false)))))
else none
theorem aqf (cX) (h87:(nd cX).holds cl) (x0 x1 x2 x3):exec cl N PH [(1,.v U2 x0),(2,.v bt x1),(4,.loc ak .no x2),(9,.v .bool x3)] K=(J1 cX (fun y0=>K .ret [(8,.v .bool y0)]) x0 x1 x2 x3):=by
 rw [←aN h87]
 kernel_rfl
def J2 (cX:aR→Option (Bool)) (k0:Bool→Option R) (k1:Bool→Option R) (x0:ae) (x1:Int) (x2 x3:aA):Option R:=
(JY (JZ k0 (J0 cX (J1 cX k1))) x0 x1 x2 x3)
theorem aqg (cX) (h87:(nd cX).holds cl) (x0 x1 x2 x3):exec cl N GS (Is x0 x1 x2 x3) K=(J2 cX (fun y0=>K .ret (It y0)) (fun y0=>K .ret [(8,.v .bool y0)]) x0 x1 x2 x3):=by
 simp only [GS,bY,b9,b8,ca,aqc,PJ,aqd,PI,aqe cX h87,aqf cX h87]
 rfl
theorem ajG (y0):ag d60 .ret (It y0)=some [.v .bool y0]:=by kernel_rfl
theorem ajH (y0):ag d60 .ret [(8,.v .bool y0)]=some [.v .bool y0]:=by kernel_rfl
def sO (cX:aR→Option (Bool)) (x0:ae) (x1:Int) (x2 x3:aA) (k:Bool→Option R):Option R:=
(J2 cX k k x0 x1 x2 x3)
theorem Kp (cX) (h87:(nd cX).holds cl) (x0 x1 x2 x3) (k:List E→Option R):exec cl N GR (Is x0 x1 x2 x3) (fun e env=>(ag d60 e env).bind k)=sO cX x0 x1 x2 x3 (fun r0=>k [.v .bool r0]):=by
 simp only [GR,aqg cX h87,ajG,ajH,ar]
 rfl
def jj (S:ae→Int→aA→aA→Option (Bool)):aQ:=XO 60 ak U2 bt bt S fun b=> [.v .bool b]
def bB (N:Nat) (x0:ae) (x1:Int) (x2:aA) (x3:aA):Option (Bool):=sO (cX N) x0 x1 x2 x3 (fun (r0:Bool)=>some (r0))
def J8 (k0:Bool→Option R) (x0 x1:V4):Option R:=
ad (decide ((x0.length:Int)≥(x1.length:Int))) (if 0≤(0:Int)∧(0:Int)≤(x1.length:Int)∧(x1.length:Int)≤(x0.length:Int) then
k0 (((x0.drop (0:Int).toNat).take ((x1.length:Int).toNat - (0:Int).toNat))==x1)
else none) (k0 false)
theorem aq4 (x0 x1):exec cl N Qo (Ca x0 x1) K=(J8 (fun y0=>K .ret [(4,.v .bool y0)]) x0 x1):=by
 kernel_rfl
theorem aj0 (y0):ag d83 .ret [(4,.v .bool y0)]=some [.v .bool y0]:=by kernel_rfl
def sY (x0 x1:V4) (k:Bool→Option R):Option R:=
(J8 k x0 x1)
theorem Ks (x0 x1) (k:List E→Option R):exec cl N Hl (Ca x0 x1) (fun e env=>(ag d83 e env).bind k)=sY x0 x1 (fun r0=>k [.v .bool r0]):=by
 simp only [Hl,aq4,aj0,ar]
 rfl
def pc (S:V4→V4→Option (Bool)):aQ:=eA 83 .str .str S fun b=> [.v .bool b]
def fe (N:Nat) (x0:V4) (x1:V4):Option (Bool):=sY x0 x1 (fun (r0:Bool)=>some (r0))
def JV (fe:V4→V4→Option (Bool)) (k0:Bool→Option R) (x0 x1:V4):Option R:=
(fe x0 x1).bind fun r1232=>
k0 r1232
theorem ap3 (fe) (h83:(pc fe).holds cl) (x0 x1):exec cl N Px (Ca x0 x1) K=(JV fe (fun y0=>K .ret [(4,.v .bool y0)]) x0 x1):=by
 rw [←aN h83]
 kernel_rfl
theorem ajz (y0):ag d54 .ret [(4,.v .bool y0)]=some [.v .bool y0]:=by kernel_rfl
def sM (fe:V4→V4→Option (Bool)) (x0 x1:V4) (k:Bool→Option R):Option R:=
(JV fe k x0 x1)
theorem Ko (fe) (h83:(pc fe).holds cl) (x0 x1) (k:List E→Option R):exec cl N GL (Ca x0 x1) (fun e env=>(ag d54 e env).bind k)=sM fe x0 x1 (fun r0=>k [.v .bool r0]):=by
 simp only [GL,ap3 fe h83,ajz,ar]
 rfl
def gx (S:V4→V4→Option (Bool)):aQ:=eA 54 .str .str S fun b=> [.v .bool b]
def aU (N:Nat) (x0:V4) (x1:V4):Option (Bool):=sM (fe N) x0 x1 (fun (r0:Bool)=>some (r0))
def yl (k0:aJ→a7→cc→Option R) (x0:aJ) (x1:a7):Option R:=
k0 x0 x1 []
theorem aq1 (x0 x1):exec cl N Bt [(0,.at bG x0),(1,.v aZ x1)] K=(yl (fun y0 y1 y2=>exec cl N Bs [(0,.at bG y0),(3,.loc aZ .no y1),(5,.own true 73 aZ .no y2)] K) x0 x1):=by
 delta Bt
 generalize Bs=q
 revert q
 refine id ?_
 intro q
 kernel_rfl
def yh (k0:aJ→a7→cc→bm→Int→Int→Option R) (x0:aJ) (x1:a7) (x2:cc):Option R:=
k0 x0 x1 x2 x0.1.2.1 (x0.1.2.1.length:Int) (0:Int)
theorem aqX (x0 x1 x2):exec cl N Qj [(0,.at bG x0),(3,.loc aZ .no x1),(5,.own true 73 aZ .no x2)] K=(yh (fun y0 y1 y2 y3 y4 y5=>K .normal (lA y0 y1 y2 y3 y4 y5)) x0 x1 x2):=by
 kernel_rfl
theorem Va (x0 x1 x2 x3 x4 x5):aj [0,3,5,12,13,14] (lA x0 x1 x2 x3 x4 x5)=(lA x0 x1 x2 x3 x4 x5):=by kernel_rfl
def yi (aU:V4→V4→Option (Bool)) (bB:ae→Int→aA→aA→Option (Bool)) (bC:aJ→Int→Option lq) (k0:aJ→a7→cc→bm→Int→Int→Option R) (k1:aJ→a7→cc→bm→Int→Int→Option R) (x0:aJ) (x1:a7) (x2:cc) (x3:bm) (x4 x5:Int):Option R:=
ad (decide (x5 < x4)) (if 0≤x5∧x5 < (x3.length:Int) then
if 0≤x1.2.2.1∧x1.2.2.1≤(x0.2.1.length:Int)∧(x0.2.1.length:Int)≤(x0.2.1.length:Int) then
(aU ((x0.2.1.drop x1.2.2.1.toNat).take ((x0.2.1.length:Int).toNat - x1.2.2.1.toNat)) ((x3.getD x5.toNat ([],([],((0:Int),((0:Int),()))))).1)).bind fun r1247=>
ad r1247 (ad (decide (x1.2.1 < (0:Int))) (let v1250:a7:=(x1.2.1,x5,(IntKind.i64.wrap (x1.2.2.1+(((x3.getD x5.toNat ([],([],((0:Int),((0:Int),()))))).1).length:Int))),())
if x2.length+[v1250].length≤5864062014805 then
k0 x0 x1 (x2++[v1250]) x3 x4 (IntKind.i64.wrap (x5+(1:Int)))
else none) ((bC x0 x1.1).bind fun r1252=>
(bB x0.1 x1.2.1 r1252 ((x3.getD x5.toNat ([],([],((0:Int),((0:Int),()))))).2.1)).bind fun r1253=>
ad r1253 (let v1255:a7:=(x1.2.1,x5,(IntKind.i64.wrap (x1.2.2.1+(((x3.getD x5.toNat ([],([],((0:Int),((0:Int),()))))).1).length:Int))),())
if x2.length+[v1255].length≤5864062014805 then
k0 x0 x1 (x2++[v1255]) x3 x4 (IntKind.i64.wrap (x5+(1:Int)))
else none) (k0 x0 x1 x2 x3 x4 (IntKind.i64.wrap (x5+(1:Int)))))) (k0 x0 x1 x2 x3 x4 (IntKind.i64.wrap (x5+(1:Int))))
else none
else none) (k1 x0 x1 x2 x3 x4 x5)
theorem aqY (aU) (bB) (bC) (h54:(gx aU).holds cl) (h60:(jj bB).holds cl) (h73:(jk bC).holds cl) (x0 x1 x2 x3 x4 x5):exec cl N Hi (lA x0 x1 x2 x3 x4 x5) K=(yi aU bB bC (fun y0 y1 y2 y3 y4 y5=>K .normal (lA y0 y1 y2 y3 y4 y5)) (fun y0 y1 y2 y3 y4 y5=>K (.exit 0) (lA y0 y1 y2 y3 y4 y5)) x0 x1 x2 x3 x4 x5):=by
 rw [←aN h54]
 rw [←aN h60]
 rw [←aN h73]
 kernel_rfl
def qC {R:Type} (aU:V4→V4→Option (Bool)) (bB:ae→Int→aA→aA→Option (Bool)) (bC:aJ→Int→Option lq) (k0:aJ→a7→cc→bm→Int→Int→Option R):Nat→aJ→a7→cc→bm→Int→Int→Option R
 | 0,_,_,_,_,_,_=>none
 | m+1,x0,x1,x2,x3,x4,x5=>(yi aU bB bC (qC aU bB bC k0 m) k0 x0 x1 x2 x3 x4 x5)
theorem afN (aU) (bB) (bC) (h54:(gx aU).holds cl) (h60:(jj bB).holds cl) (h73:(jk bC).holds cl):∀ (m) (x0 x1 x2 x3 x4 x5),iter [0,3,5,12,13,14] (fun env K=>exec cl N Hi env K) K m (lA x0 x1 x2 x3 x4 x5)=qC aU bB bC (fun y0 y1 y2 y3 y4 y5=>K (.exit 0) (lA y0 y1 y2 y3 y4 y5)) m x0 x1 x2 x3 x4 x5:=by
 intro m
 induction m with
 | zero=>intros; rfl
 | succ m ih=>
   intro x0 x1 x2 x3 x4 x5
   simp only [bZ,aqY aU bB bC h54 h60 h73,b6,b5,b7,Va,ih]
   rfl
theorem adH (x0 x1 x2 x3 x4 x5):aj [5] (lA x0 x1 x2 x3 x4 x5)=(vb x2):=by kernel_rfl
def yj (N:Nat) (aU:V4→V4→Option (Bool)) (bB:ae→Int→aA→aA→Option (Bool)) (bC:aJ→Int→Option lq) (k0:cc→Option R) (x0:aJ) (x1:a7) (x2:cc) (x3:bm) (x4 x5:Int):Option R:=
qC aU bB bC (fun y0 y1 y2 y3 y4 y5=>k0 y2) N x0 x1 x2 x3 x4 x5
theorem aqZ (aU) (bB) (bC) (h54:(gx aU).holds cl) (h60:(jj bB).holds cl) (h73:(jk bC).holds cl) (x0 x1 x2 x3 x4 x5):exec cl N Hj (lA x0 x1 x2 x3 x4 x5) K=(yj N aU bB bC (fun y0=>K (.exit 0) (vb y0)) x0 x1 x2 x3 x4 x5):=by
 simp only [Hj,aT,bX,Va,afN aU bB bC h54 h60 h73,adH]
 rfl
theorem adI (x0):aj [5] (vb x0)=(vb x0):=by kernel_rfl
def yk (k0:cc→Option R) (x0:cc):Option R:=
k0 x0
theorem aq0 (x0):exec cl N Qm (vb x0) K=(yk (fun y0=>K .ret (Iv y0)) x0):=by
 kernel_rfl
def ym (N:Nat) (aU:V4→V4→Option (Bool)) (bB:ae→Int→aA→aA→Option (Bool)) (bC:aJ→Int→Option lq) (k0:cc→Option R) (x0:aJ) (x1:a7):Option R:=
(yl (yh (yj N aU bB bC ((yk k0)))) x0 x1)
theorem aq2 (aU) (bB) (bC) (h54:(gx aU).holds cl) (h60:(jj bB).holds cl) (h73:(jk bC).holds cl) (x0 x1):exec cl N Bt [(0,.at bG x0),(1,.v aZ x1)] K=(ym N aU bB bC (fun y0=>K .ret (Iv y0)) x0 x1):=by
 simp only [bY,b9,b8,ca,aq1,Bs,Ql,aqX,Qk,aT,cx,aqZ aU bB bC h54 h60 h73,ct,cw,cq,adI,aq0]
 rfl
theorem ajY (y0):ag d74 .ret (Iv y0)=some [.own true 73 aZ .no y0]:=by kernel_rfl
def ov (N:Nat) (aU:V4→V4→Option (Bool)) (bB:ae→Int→aA→aA→Option (Bool)) (bC:aJ→Int→Option lq) (x0:aJ) (x1:a7) (k:cc→Option R):Option R:=
(ym N aU bB bC k x0 x1)
theorem Kr (aU) (bB) (bC) (h54:(gx aU).holds cl) (h60:(jj bB).holds cl) (h73:(jk bC).holds cl) (x0 x1) (k:List E→Option R):exec cl N Hh [(0,.at bG x0),(1,.v aZ x1)] (fun e env=>(ag d74 e env).bind k)=ov N aU bB bC x0 x1 (fun r0=>k [.own true 73 aZ .no r0]):=by
 simp only [Hh,aq2 aU bB bC h54 h60 h73,ajY,ar]
 rfl
def kR (S:aJ→a7→Option nJ):aQ:={A:=aJ×a7×Unit,B:=cc,f:=74,enc:=fun a=> [.at bG a.1,.v aZ a.2.1],dec:=(ba (pg bG) (ba (bL aZ) ck)),S:=fun a=>S a.1 a.2.1,av:=fun b=> [.own true 73 aZ .no b],ok:=(B6 (T:=bG) (gi (T:=aZ) (fun es b h=>ir h)))}
def cz (N:Nat) (x0:aJ) (x1:a7):Option nJ:=ov N (aU N) (bB N) (bC N) x0 x1 (fun (r0:cc)=>some (r0))
def xB (bB:ae→Int→aA→aA→Option (Bool)) (bC:aJ→Int→Option lq) (k0:aJ→Int→Option R) (k1:aJ→a7→Int→Option R) (x0:aJ) (x1:a7):Option R:=
ad (x1.2.2.1==(x0.2.1.length:Int)) (ad (decide (x1.2.1≥(0:Int))) ((bC x0 x1.1).bind fun r1268=>
(bB x0.1 x1.2.1 r1268 []).bind fun r1269=>
ad r1269 (k0 x0 (1:Int)) (k0 x0 (0:Int))) (k0 x0 (0:Int))) (let v1270:Int×Bool:=iA (fun a b:a7=>((a.1==b.1)&&((a.2.1==b.2.1)&&((a.2.2.1==b.2.2.1)&&true)))) (0:Int) x0.2.2.1 x1
ad v1270.2 (k0 x0 v1270.1) (k1 x0 x1 (0:Int)))
theorem apv (bB) (bC) (h60:(jj bB).holds cl) (h73:(jk bC).holds cl) (x0 x1):exec cl N A6 (rW x0 x1) K=(xB bB bC (fun y0 y1=>K .ret (Iw y0 y1)) (fun y0 y1 y2=>exec cl N A5 (ph y0 y1 y2) K) x0 x1):=by
 rw [←aN h60]
 rw [←aN h73]
 delta A6
 generalize A5=q
 revert q
 refine id ?_
 intro q
 kernel_rfl
def xx (cz:aJ→a7→Option nJ) (k0:aJ→a7→Int→cc→Int→Int→Option R) (x0:aJ) (x1:a7) (x2:Int):Option R:=
(cz x0 x1).bind fun r1271=>
k0 x0 x1 x2 r1271 (r1271.length:Int) (0:Int)
theorem apr (cz) (h74:(kR cz).holds cl) (x0 x1 x2):exec cl N O7 (ph x0 x1 x2) K=(xx cz (fun y0 y1 y2 y3 y4 y5=>K .normal (lB y0 y1 y2 y3 y4 y5)) x0 x1 x2):=by
 rw [←aN h74]
 kernel_rfl
theorem UN (x0 x1 x2 x3 x4 x5):aj [0,3,7,47,48,49] (lB x0 x1 x2 x3 x4 x5)=(lB x0 x1 x2 x3 x4 x5):=by kernel_rfl
def xy (aW:aJ→a7→Option gQ) (k0:aJ→a7→Int→cc→Int→Int→Option R) (k1:aJ→a7→Int→cc→Int→Int→Option R) (x0:aJ) (x1:a7) (x2:Int) (x3:cc) (x4 x5:Int):Option R:=
ad (decide (x5 < x4)) (if 0≤x5∧x5 < (x3.length:Int) then
if x5.toNat < x3.length then
(aW x0 (x3.getD x5.toNat ((0:Int),((0:Int),((0:Int),()))))).bind fun r1274=>
let v1275:Int:=(IntKind.i64.wrap (x2+r1274.2))
k0 r1274.1 x1 (if (201:Int) < v1275 then (201:Int) else v1275) x3 x4 (IntKind.i64.wrap (x5+(1:Int)))
else none
else none) (k1 x0 x1 x2 x3 x4 x5)
theorem aps (aW) (h41:(gG aW).holds cl) (x0 x1 x2 x3 x4 x5):exec cl N Gp (lB x0 x1 x2 x3 x4 x5) K=(xy aW (fun y0 y1 y2 y3 y4 y5=>K .normal (lB y0 y1 y2 y3 y4 y5)) (fun y0 y1 y2 y3 y4 y5=>K (.exit 0) (lB y0 y1 y2 y3 y4 y5)) x0 x1 x2 x3 x4 x5):=by
 rw [←aN h41]
 kernel_rfl
def tp {R:Type} (aW:aJ→a7→Option gQ) (k0:aJ→a7→Int→cc→Int→Int→Option R):Nat→aJ→a7→Int→cc→Int→Int→Option R
 | 0,_,_,_,_,_,_=>none
 | m+1,x0,x1,x2,x3,x4,x5=>(xy aW (tp aW k0 m) k0 x0 x1 x2 x3 x4 x5)
theorem afA (aW) (h41:(gG aW).holds cl):∀ (m) (x0 x1 x2 x3 x4 x5),iter [0,3,7,47,48,49] (fun env K=>exec cl N Gp env K) K m (lB x0 x1 x2 x3 x4 x5)=tp aW (fun y0 y1 y2 y3 y4 y5=>K (.exit 0) (lB y0 y1 y2 y3 y4 y5)) m x0 x1 x2 x3 x4 x5:=by
 intro m
 induction m with
 | zero=>intros; rfl
 | succ m ih=>
   intro x0 x1 x2 x3 x4 x5
   simp only [bZ,aps aW h41,b6,b5,b7,UN,ih]
   rfl
theorem acV (x0 x1 x2 x3 x4 x5):aj [0,3,7] (lB x0 x1 x2 x3 x4 x5)=(ph x0 x1 x2):=by kernel_rfl
def xz (N:Nat) (aW:aJ→a7→Option gQ) (k0:aJ→a7→Int→Option R) (x0:aJ) (x1:a7) (x2:Int) (x3:cc) (x4 x5:Int):Option R:=
tp aW (fun y0 y1 y2 y3 y4 y5=>k0 y0 y1 y2) N x0 x1 x2 x3 x4 x5
theorem apt (aW) (h41:(gG aW).holds cl) (x0 x1 x2 x3 x4 x5):exec cl N Gq (lB x0 x1 x2 x3 x4 x5) K=(xz N aW (fun y0 y1 y2=>K (.exit 0) (ph y0 y1 y2)) x0 x1 x2 x3 x4 x5):=by
 simp only [Gq,aT,bX,UN,afA aW h41,acV]
 rfl
theorem acW (x0 x1 x2):aj [0,3,7] (ph x0 x1 x2)=(ph x0 x1 x2):=by kernel_rfl
def xA (k0:aJ→Int→Option R) (x0:aJ) (x1:a7) (x2:Int):Option R:=
k0 (x0.1,(x0.2.1,((ja (fun a b:a7=>((a.1==b.1)&&((a.2.1==b.2.1)&&((a.2.2.1==b.2.2.1)&&true)))) x0.2.2.1 x1 x2),x0.2.2.2))) x2
theorem apu (x0 x1 x2):exec cl N Pa (ph x0 x1 x2) K=(xA (fun y0 y1=>K .ret (Ix y0 y1)) x0 x1 x2):=by
 kernel_rfl
def xC (N:Nat) (aW:aJ→a7→Option gQ) (bB:ae→Int→aA→aA→Option (Bool)) (bC:aJ→Int→Option lq) (cz:aJ→a7→Option nJ) (k0:aJ→Int→Option R) (k1:aJ→Int→Option R) (x0:aJ) (x1:a7):Option R:=
(xB bB bC k0 (xx cz (xz N aW ((xA k1)))) x0 x1)
theorem apw (aW) (bB) (bC) (cz) (h41:(gG aW).holds cl) (h60:(jj bB).holds cl) (h73:(jk bC).holds cl) (h74:(kR cz).holds cl) (x0 x1):exec cl N A6 (rW x0 x1) K=(xC N aW bB bC cz (fun y0 y1=>K .ret (Iw y0 y1)) (fun y0 y1=>K .ret (Ix y0 y1)) x0 x1):=by
 simp only [bY,b9,b8,ca,apv bB bC h60 h73,A5,O9,apr cz h74,O8,aT,cx,apt aW h41,ct,cw,cq,acW,apu]
 rfl
theorem ajl (y0 y1):ag d41 .ret (Iw y0 y1)=some [.loc bG (.pair .no (.pair .no (.pair .mp .no))) y0,.v U2 y1]:=by kernel_rfl
theorem ajm (y0 y1):ag d41 .ret (Ix y0 y1)=some [.loc bG (.pair .no (.pair .no (.pair .mp .no))) y0,.v U2 y1]:=by kernel_rfl
def sD (N:Nat) (aW:aJ→a7→Option gQ) (bB:ae→Int→aA→aA→Option (Bool)) (bC:aJ→Int→Option lq) (cz:aJ→a7→Option nJ) (x0:aJ) (x1:a7) (k:aJ→Int→Option R):Option R:=
(xC N aW bB bC cz k k x0 x1)
theorem Y2 (aW) (bB) (bC) (cz) (h41:(gG aW).holds cl) (h60:(jj bB).holds cl) (h73:(jk bC).holds cl) (h74:(kR cz).holds cl) (x0 x1) (k:List E→Option R):exec cl N Gn (rW x0 x1) (fun e env=>(ag d41 e env).bind k)=sD N aW bB bC cz x0 x1 (fun r0 r1=>k [.loc bG (.pair .no (.pair .no (.pair .mp .no))) r0,.v U2 r1]):=by
 simp only [Gn,apw aW bB bC cz h41 h60 h73 h74,ajl,ajm,ar]
 rfl
def nH (N:Nat):Nat→aJ→a7→Option gQ
 | 0,_,_=>none
 | m+1,x0,x1=>sD N (nH N m) (bB N) (bC N) (cz N) x0 x1 (fun (r0:aJ) (r1:Int)=>some (r0,r1))
def aW (N:Nat) (x0:aJ) (x1:a7):Option gQ:=nH N 250 x0 x1
def n8 (k0:aJ→V7→Option R) (k1:aJ→a7→V7→Option R) (x0:aJ) (x1:a7):Option R:=
ad (x1.2.2.1==(x0.2.1.length:Int)) (k0 x0 [[]]) (k1 x0 x1 [])
theorem apA (x0 x1):exec cl N A8 (rW x0 x1) K=(n8 (fun y0 y1=>K .ret (Iy y0 y1)) (fun y0 y1 y2=>exec cl N A7 (Rs y0 y1 y2) K) x0 x1):=by
 delta A8
 generalize A7=q
 revert q
 refine id ?_
 intro q
 kernel_rfl
def nZ (cz:aJ→a7→Option nJ) (k0:aJ→V7→cc→Int→Int→Option R) (x0:aJ) (x1:a7) (x2:V7):Option R:=
(cz x0 x1).bind fun r1293=>
k0 x0 x2 r1293 (r1293.length:Int) (0:Int)
theorem apx (cz) (h74:(kR cz).holds cl) (x0 x1 x2):exec cl N Pb (Rs x0 x1 x2) K=(nZ cz (fun y0 y1 y2 y3 y4=>K .normal (fR y0 y1 y2 y3 y4)) x0 x1 x2):=by
 rw [←aN h74]
 kernel_rfl
theorem KH (x0 x1 x2 x3 x4):aj [0,5,21,22,23] (fR x0 x1 x2 x3 x4)=(fR x0 x1 x2 x3 x4):=by kernel_rfl
def oj (k0:aJ→V7→cc→Int→Int→Option R) (k1:aJ→V7→cc→Int→Int→Option R) (x0:aJ) (x1:V7) (x2:cc) (x3 x4:Int):Option R:=
ad (decide (x4 < x3)) (k0 x0 x1 x2 x3 x4) (k1 x0 x1 x2 x3 x4)
theorem apG (x0 x1 x2 x3 x4):exec cl N uL (fR x0 x1 x2 x3 x4) K=(oj (fun y0 y1 y2 y3 y4=>exec cl N Ba (fR y0 y1 y2 y3 y4) K) (fun y0 y1 y2 y3 y4=>K (.exit 0) (fR y0 y1 y2 y3 y4)) x0 x1 x2 x3 x4):=by
 delta uL
 generalize Ba=q
 revert q
 refine id ?_
 intro q
 kernel_rfl
def od (aW:aJ→a7→Option gQ) (bS:aJ→a7→Option kg) (k0:aJ→V7→a7→cc→Int→Int→Option R) (k1:aJ→V7→a7→cc→Int→Int→V7→Int→Int→Option R) (x0:aJ) (x1:V7) (x2:cc) (x3 x4:Int):Option R:=
if 0≤x4∧x4 < (x2.length:Int) then
if x4.toNat < x2.length then
let v1295:a7:=(x2.getD x4.toNat ((0:Int),((0:Int),((0:Int),()))))
(aW x0 v1295).bind fun r1296=>
ad (r1296.2==(0:Int)) (k0 r1296.1 x1 v1295 x2 x3 x4) ((bS r1296.1 v1295).bind fun r1298=>
k1 r1298.1 x1 v1295 x2 x3 x4 r1298.2 (r1298.2.length:Int) (0:Int))
else none
else none
theorem apD (aW) (bS) (h41:(gG aW).holds cl) (h42:(kP bS).holds cl) (x0 x1 x2 x3 x4):exec cl N Gv (fR x0 x1 x2 x3 x4) K=(od aW bS (fun y0 y1 y2 y3 y4 y5=>K (.exit 1) (Rt y0 y1 y2 y3 y4 y5)) (fun y0 y1 y2 y3 y4 y5 y6 y7 y8=>exec cl N A9 (lC y0 y1 y2 y3 y4 y5 y6 y7 y8) K) x0 x1 x2 x3 x4):=by
 rw [←aN h41]
 rw [←aN h42]
 delta Gv
 generalize A9=q
 revert q
 refine id ?_
 intro q
 kernel_rfl
theorem UO (x0 x1 x2 x3 x4 x5 x6 x7 x8):aj [0,5,7,21,22,23,33,34,35] (lC x0 x1 x2 x3 x4 x5 x6 x7 x8)=(lC x0 x1 x2 x3 x4 x5 x6 x7 x8):=by kernel_rfl
def n0 (k0:aJ→V7→a7→cc→Int→Int→V7→Int→Int→Option R) (k1:aJ→V7→a7→cc→Int→Int→V7→Int→Int→Option R) (x0:aJ) (x1:V7) (x2:a7) (x3:cc) (x4 x5:Int) (x6:V7) (x7 x8:Int):Option R:=
ad (decide (x8 < x7)) (if 0≤x8∧x8 < (x6.length:Int) then
if x8.toNat < x6.length then
if [x2.2.1].length+(x6.getD x8.toNat []).length≤17592186044416 then
if x1.length+[([x2.2.1]++(x6.getD x8.toNat []))].length≤5864062014805 then
k0 x0 (x1++[([x2.2.1]++(x6.getD x8.toNat []))]) x2 x3 x4 x5 x6 x7 (IntKind.i64.wrap (x8+(1:Int)))
else none
else none
else none
else none) (k1 x0 x1 x2 x3 x4 x5 x6 x7 x8)
theorem apy (x0 x1 x2 x3 x4 x5 x6 x7 x8):exec cl N Gt (lC x0 x1 x2 x3 x4 x5 x6 x7 x8) K=(n0 (fun y0 y1 y2 y3 y4 y5 y6 y7 y8=>K .normal (lC y0 y1 y2 y3 y4 y5 y6 y7 y8)) (fun y0 y1 y2 y3 y4 y5 y6 y7 y8=>K (.exit 2) (lC y0 y1 y2 y3 y4 y5 y6 y7 y8)) x0 x1 x2 x3 x4 x5 x6 x7 x8):=by
 kernel_rfl
def tq {R:Type} (k0:aJ→V7→a7→cc→Int→Int→V7→Int→Int→Option R):Nat→aJ→V7→a7→cc→Int→Int→V7→Int→Int→Option R
 | 0,_,_,_,_,_,_,_,_,_=>none
 | m+1,x0,x1,x2,x3,x4,x5,x6,x7,x8=>(n0 (tq k0 m) k0 x0 x1 x2 x3 x4 x5 x6 x7 x8)
theorem afB:∀ (m) (x0 x1 x2 x3 x4 x5 x6 x7 x8),iter [0,5,7,21,22,23,33,34,35] (fun env K=>exec cl N Gt env K) K m (lC x0 x1 x2 x3 x4 x5 x6 x7 x8)=tq (fun y0 y1 y2 y3 y4 y5 y6 y7 y8=>K (.exit 2) (lC y0 y1 y2 y3 y4 y5 y6 y7 y8)) m x0 x1 x2 x3 x4 x5 x6 x7 x8:=by
 intro m
 induction m with
 | zero=>intros; rfl
 | succ m ih=>
   intro x0 x1 x2 x3 x4 x5 x6 x7 x8
   simp only [bZ,apy,b6,b5,b7,UO,ih]
   rfl
theorem acX (x0 x1 x2 x3 x4 x5 x6 x7 x8):aj [0,5,21,22,23] (lC x0 x1 x2 x3 x4 x5 x6 x7 x8)=(fR x0 x1 x3 x4 x5):=by kernel_rfl
def oc (N:Nat) (k0:aJ→V7→cc→Int→Int→Option R) (x0:aJ) (x1:V7) (x2:a7) (x3:cc) (x4 x5:Int) (x6:V7) (x7 x8:Int):Option R:=
tq (fun y0 y1 y2 y3 y4 y5 y6 y7 y8=>k0 y0 y1 y3 y4 y5) N x0 x1 x2 x3 x4 x5 x6 x7 x8
theorem apC (x0 x1 x2 x3 x4 x5 x6 x7 x8):exec cl N Gu (lC x0 x1 x2 x3 x4 x5 x6 x7 x8) K=(oc N (fun y0 y1 y2 y3 y4=>K (.exit 2) (fR y0 y1 y2 y3 y4)) x0 x1 x2 x3 x4 x5 x6 x7 x8):=by
 simp only [Gu,aT,bX,UO,afB,acX]
 rfl
theorem acY (x0 x1 x2 x3 x4 x5):aj [0,5,21,22,23] (Rt x0 x1 x2 x3 x4 x5)=(fR x0 x1 x3 x4 x5):=by kernel_rfl
def oe (N:Nat) (aW:aJ→a7→Option gQ) (bS:aJ→a7→Option kg) (k0:aJ→V7→cc→Int→Int→Option R) (x0:aJ) (x1:V7) (x2:cc) (x3 x4:Int):Option R:=
(od aW bS (fun y0 y1 y2 y3 y4 y5=>(k0 y0 y1 y3 y4 y5)) (oc N k0) x0 x1 x2 x3 x4)
theorem apE (aW) (bS) (h41:(gG aW).holds cl) (h42:(kP bS).holds cl) (x0 x1 x2 x3 x4):exec cl N Gw (fR x0 x1 x2 x3 x4) K=(oe N aW bS (fun y0 y1 y2 y3 y4=>K .normal (fR y0 y1 y2 y3 y4)) x0 x1 x2 x3 x4):=by
 simp only [Gw,aT,cx,bY,b9,b8,ca,apD aW bS h41 h42,A9,apC,ct,cw,cq,KH,acY]
 rfl
def oi (k0:aJ→V7→cc→Int→Int→Option R) (x0:aJ) (x1:V7) (x2:cc) (x3 x4:Int):Option R:=
k0 x0 x1 x2 x3 (IntKind.i64.wrap (x4+(1:Int)))
theorem apF (x0 x1 x2 x3 x4):exec cl N Pf (fR x0 x1 x2 x3 x4) K=(oi (fun y0 y1 y2 y3 y4=>K .normal (fR y0 y1 y2 y3 y4)) x0 x1 x2 x3 x4):=by
 kernel_rfl
def om (N:Nat) (aW:aJ→a7→Option gQ) (bS:aJ→a7→Option kg) (k0:aJ→V7→cc→Int→Int→Option R) (k1:aJ→V7→cc→Int→Int→Option R) (x0:aJ) (x1:V7) (x2:cc) (x3 x4:Int):Option R:=
(oj (oe N aW bS (oi k0)) k1 x0 x1 x2 x3 x4)
theorem apH (aW) (bS) (h41:(gG aW).holds cl) (h42:(kP bS).holds cl) (x0 x1 x2 x3 x4):exec cl N uL (fR x0 x1 x2 x3 x4) K=(om N aW bS (fun y0 y1 y2 y3 y4=>K .normal (fR y0 y1 y2 y3 y4)) (fun y0 y1 y2 y3 y4=>K (.exit 0) (fR y0 y1 y2 y3 y4)) x0 x1 x2 x3 x4):=by
 simp only [bY,b9,b8,ca,apG,Ba,apE aW bS h41 h42,apF]
 rfl
def ow {R:Type} (N:Nat) (aW:aJ→a7→Option gQ) (bS:aJ→a7→Option kg) (k0:aJ→V7→cc→Int→Int→Option R):Nat→aJ→V7→cc→Int→Int→Option R
 | 0,_,_,_,_,_=>none
 | m+1,x0,x1,x2,x3,x4=>(om N aW bS (ow N aW bS k0 m) k0 x0 x1 x2 x3 x4)
theorem afC (aW) (bS) (h41:(gG aW).holds cl) (h42:(kP bS).holds cl):∀ (m) (x0 x1 x2 x3 x4),iter [0,5,21,22,23] (fun env K=>exec cl N uL env K) K m (fR x0 x1 x2 x3 x4)=ow N aW bS (fun y0 y1 y2 y3 y4=>K (.exit 0) (fR y0 y1 y2 y3 y4)) m x0 x1 x2 x3 x4:=by
 intro m
 induction m with
 | zero=>intros; rfl
 | succ m ih=>
   intro x0 x1 x2 x3 x4
   simp only [bZ,apH aW bS h41 h42,b6,b5,b7,KH,ih]
   rfl
theorem acZ (x0 x1 x2 x3 x4):aj [0,5] (fR x0 x1 x2 x3 x4)=(vc x0 x1):=by kernel_rfl
def ot (N:Nat) (aW:aJ→a7→Option gQ) (bS:aJ→a7→Option kg) (k0:aJ→V7→Option R) (x0:aJ) (x1:V7) (x2:cc) (x3 x4:Int):Option R:=
ow N aW bS (fun y0 y1 y2 y3 y4=>k0 y0 y1) N x0 x1 x2 x3 x4
theorem apI (aW) (bS) (h41:(gG aW).holds cl) (h42:(kP bS).holds cl) (x0 x1 x2 x3 x4):exec cl N Gx (fR x0 x1 x2 x3 x4) K=(ot N aW bS (fun y0 y1=>K (.exit 0) (vc y0 y1)) x0 x1 x2 x3 x4):=by
 simp only [Gx,aT,bX,KH,afC aW bS h41 h42,acZ]
 rfl
theorem ac0 (x0 x1):aj [0,5] (vc x0 x1)=(vc x0 x1):=by kernel_rfl
def n7 (k0:aJ→V7→Option R) (x0:aJ) (x1:V7):Option R:=
k0 x0 x1
theorem apz (x0 x1):exec cl N Pe (vc x0 x1) K=(n7 (fun y0 y1=>K .ret (Iz y0 y1)) x0 x1):=by
 kernel_rfl
def n9 (N:Nat) (aW:aJ→a7→Option gQ) (bS:aJ→a7→Option kg) (cz:aJ→a7→Option nJ) (k0:aJ→V7→Option R) (k1:aJ→V7→Option R) (x0:aJ) (x1:a7):Option R:=
(n8 k0 (nZ cz (ot N aW bS ((n7 k1)))) x0 x1)
theorem apB (aW) (bS) (cz) (h41:(gG aW).holds cl) (h42:(kP bS).holds cl) (h74:(kR cz).holds cl) (x0 x1):exec cl N A8 (rW x0 x1) K=(n9 N aW bS cz (fun y0 y1=>K .ret (Iy y0 y1)) (fun y0 y1=>K .ret (Iz y0 y1)) x0 x1):=by
 simp only [bY,b9,b8,ca,apA,A7,Pd,apx cz h74,Pc,aT,cx,apI aW bS h41 h42,ct,cw,cq,ac0,apz]
 rfl
theorem ajn (y0 y1):ag d42 .ret (Iy y0 y1)=some [.loc bG (.pair .no (.pair .no (.pair .mp .no))) y0,.own true 27 U5 .no y1]:=by kernel_rfl
theorem ajo (y0 y1):ag d42 .ret (Iz y0 y1)=some [.loc bG (.pair .no (.pair .no (.pair .mp .no))) y0,.own true 27 U5 .no y1]:=by kernel_rfl
def nj (N:Nat) (aW:aJ→a7→Option gQ) (bS:aJ→a7→Option kg) (cz:aJ→a7→Option nJ) (x0:aJ) (x1:a7) (k:aJ→V7→Option R):Option R:=
(n9 N aW bS cz k k x0 x1)
theorem Y3 (aW) (bS) (cz) (h41:(gG aW).holds cl) (h42:(kP bS).holds cl) (h74:(kR cz).holds cl) (x0 x1) (k:List E→Option R):exec cl N Gs (rW x0 x1) (fun e env=>(ag d42 e env).bind k)=nj N aW bS cz x0 x1 (fun r0 r1=>k [.loc bG (.pair .no (.pair .no (.pair .mp .no))) r0,.own true 27 U5 .no r1]):=by
 simp only [Gs,apB aW bS cz h41 h42 h74,ajn,ajo,ar]
 rfl
def nI (N:Nat):Nat→aJ→a7→Option kg
 | 0,_,_=>none
 | m+1,x0,x1=>nj N (aW N) (nI N m) (cz N) x0 x1 (fun (r0:aJ) (r1:V7)=>some (r0,r1))
def bS (N:Nat) (x0:aJ) (x1:a7):Option kg:=nI N 250 x0 x1
def xu (k0:V0→ae→Int→Option R) (x0:ae) (x1:V0):Option R:=
k0 x1 x0 (0:Int)
theorem apn (x0 x1):exec cl N A4 (kT x0 x1) K=(xu (fun y0 y1 y2=>exec cl N A3 [(1,.v U5 y0),(2,.loc ak .no y1),(5,.v U2 y2)] K) x0 x1):=by
 delta A4
 generalize A3=q
 revert q
 refine id ?_
 intro q
 kernel_rfl
def xm (k0:ae→Int→V0→Int→Int→Option R) (x0:V0) (x1:ae) (x2:Int):Option R:=
k0 x1 x2 x0 (x0.length:Int) (0:Int)
theorem apj (x0 x1 x2):exec cl N O2 [(1,.v U5 x0),(2,.loc ak .no x1),(5,.v U2 x2)] K=(xm (fun y0 y1 y2 y3 y4=>K .normal (lD y0 y1 y2 y3 y4)) x0 x1 x2):=by
 kernel_rfl
theorem UM (x0 x1 x2 x3 x4):aj [2,5,8,9,10] (lD x0 x1 x2 x3 x4)=(lD x0 x1 x2 x3 x4):=by kernel_rfl
def xn (k0:ae→Int→V0→Int→Int→Option R) (k1:ae→Int→V0→Int→Int→Option R) (x0:ae) (x1:Int) (x2:V0) (x3 x4:Int):Option R:=
ad (decide (x4 < x3)) (if 0≤x4∧x4 < (x2.length:Int) then
if 0≤(x2.getD x4.toNat (0:Int))∧(x2.getD x4.toNat (0:Int)) < (x0.2.1.length:Int) then
k0 x0 (IntKind.i64.wrap (x1+(x0.2.1.getD (x2.getD x4.toNat (0:Int)).toNat ([],([],((0:Int),((0:Int),()))))).2.2.1)) x2 x3 (IntKind.i64.wrap (x4+(1:Int)))
else none
else none) (k1 x0 x1 x2 x3 x4)
theorem apk (x0 x1 x2 x3 x4):exec cl N Gj (lD x0 x1 x2 x3 x4) K=(xn (fun y0 y1 y2 y3 y4=>K .normal (lD y0 y1 y2 y3 y4)) (fun y0 y1 y2 y3 y4=>K (.exit 0) (lD y0 y1 y2 y3 y4)) x0 x1 x2 x3 x4):=by
 kernel_rfl
def tn {R:Type} (k0:ae→Int→V0→Int→Int→Option R):Nat→ae→Int→V0→Int→Int→Option R
 | 0,_,_,_,_,_=>none
 | m+1,x0,x1,x2,x3,x4=>(xn (tn k0 m) k0 x0 x1 x2 x3 x4)
theorem afz:∀ (m) (x0 x1 x2 x3 x4),iter [2,5,8,9,10] (fun env K=>exec cl N Gj env K) K m (lD x0 x1 x2 x3 x4)=tn (fun y0 y1 y2 y3 y4=>K (.exit 0) (lD y0 y1 y2 y3 y4)) m x0 x1 x2 x3 x4:=by
 intro m
 induction m with
 | zero=>intros; rfl
 | succ m ih=>
   intro x0 x1 x2 x3 x4
   simp only [bZ,apk,b6,b5,b7,UM,ih]
   rfl
theorem acT (x0 x1 x2 x3 x4):aj [5] (lD x0 x1 x2 x3 x4)=[(5,.v U2 x1)]:=by kernel_rfl
def xp (N:Nat) (k0:Int→Option R) (x0:ae) (x1:Int) (x2:V0) (x3 x4:Int):Option R:=
tn (fun y0 y1 y2 y3 y4=>k0 y1) N x0 x1 x2 x3 x4
theorem apl (x0 x1 x2 x3 x4):exec cl N Gk (lD x0 x1 x2 x3 x4) K=(xp N (fun y0=>K (.exit 0) [(5,.v U2 y0)]) x0 x1 x2 x3 x4):=by
 simp only [Gk,aT,bX,UM,afz,acT]
 rfl
theorem acU (x0):aj [5] [(5,.v U2 x0)]=[(5,.v U2 x0)]:=by kernel_rfl
def xr (k0:Int→Option R) (x0:Int):Option R:=
k0 x0
theorem apm (x0):exec cl N O5 [(5,.v U2 x0)] K=(xr (fun y0=>K .ret [(4,.v U2 y0)]) x0):=by
 kernel_rfl
def xw (N:Nat) (k0:Int→Option R) (x0:ae) (x1:V0):Option R:=
(xu (xm (xp N ((xr k0)))) x0 x1)
theorem apo (x0 x1):exec cl N A4 (kT x0 x1) K=(xw N (fun y0=>K .ret [(4,.v U2 y0)]) x0 x1):=by
 simp only [bY,b9,b8,ca,apn,A3,O4,apj,O3,aT,cx,apl,ct,cw,cq,acU,apm]
 rfl
theorem aji (y0):ag d38 .ret [(4,.v U2 y0)]=some [.v U2 y0]:=by kernel_rfl
def sC (N:Nat) (x0:ae) (x1:V0) (k:Int→Option R):Option R:=
(xw N k x0 x1)
theorem Y0 (x0 x1) (k:List E→Option R):exec cl N Gi (kT x0 x1) (fun e env=>(ag d38 e env).bind k)=sC N x0 x1 (fun r0=>k [.v U2 r0]):=by
 simp only [Gi,apo,aji,ar]
 rfl
def uW (S:ae→V0→Option (Int)):aQ:=eA 38 ak U5 S fun b=> [.v U2 b]
def er (N:Nat) (x0:ae) (x1:V0):Option (Int):=sC N x0 x1 (fun (r0:Int)=>some (r0))
def J7 (k0:Bool→Option R) (x0:Int):Option R:=
k0 (x0 != x0)
theorem aq3 (x0):exec cl N Qn [(0,.v U2 x0)] K=(J7 (fun y0=>K .ret [(2,.v .bool y0)]) x0):=by
 kernel_rfl
theorem ajZ (y0):ag d77 .ret [(2,.v .bool y0)]=some [.v .bool y0]:=by kernel_rfl
def CQ (x0:Int) (k:Bool→Option R):Option R:=
(J7 k x0)
theorem Zj (x0) (k:List E→Option R):exec cl N Hk [(0,.v U2 x0)] (fun e env=>(ag d77 e env).bind k)=CQ x0 (fun r0=>k [.v .bool r0]):=by
 simp only [Hk,aq3,ajZ,ar]
 rfl
def Ii (S:Int→Option (Bool)):aQ:=cG 77 U2 S fun b=> [.v .bool b]
def gO (N:Nat) (x0:Int):Option (Bool):=CQ x0 (fun (r0:Bool)=>some (r0))
def JU (gO:Int→Option (Bool)) (k0:Int→Option R) (k1:Int→Option R) (k2:Int→Option R) (x0 x1:Int):Option R:=
(gO x0).bind fun r1316=>
(gO x1).bind fun r1317=>
ad r1316 (ad r1317 (k0 (0:Int)) (k0 (-1:Int))) (ad r1317 (k1 (1:Int)) (ad (decide (x0 < x1)) (k1 (-1:Int)) (ad (decide (x0 > x1)) (k2 (1:Int)) (k2 (0:Int)))))
theorem apQ (gO) (h77:(Ii gO).holds cl) (x0 x1):exec cl N Pm (Cc x0 x1) K=(JU gO (fun y0=>K .ret [(0,.dead),(1,.dead),(4,.v U2 y0),(6,.dead)]) (fun y0=>K .ret (l8 y0)) (fun y0=>K .ret [(4,.v U2 y0)]) x0 x1):=by
 rw [←aN h77]
 kernel_rfl
theorem ajs (y0):ag d46 .ret [(0,.dead),(1,.dead),(4,.v U2 y0),(6,.dead)]=some [.v U2 y0]:=by kernel_rfl
theorem ajt (y0):ag d46 .ret (l8 y0)=some [.v U2 y0]:=by kernel_rfl
theorem aju (y0):ag d46 .ret [(4,.v U2 y0)]=some [.v U2 y0]:=by kernel_rfl
def CM (gO:Int→Option (Bool)) (x0 x1:Int) (k:Int→Option R):Option R:=
(JU gO k k k x0 x1)
theorem Y6 (gO) (h77:(Ii gO).holds cl) (x0 x1) (k:List E→Option R):exec cl N GC (Cc x0 x1) (fun e env=>(ag d46 e env).bind k)=CM gO x0 x1 (fun r0=>k [.v U2 r0]):=by
 simp only [GC,apQ gO h77,ajs,ajt,aju,ar]
 rfl
def nU (S:Int→Int→Option (Int)):aQ:=eA 46 U2 U2 S fun b=> [.v U2 b]
def cy (N:Nat) (x0:Int) (x1:Int):Option (Int):=CM (gO N) x0 x1 (fun (r0:Int)=>some (r0))
def xD (k0:V0→V0→Option R) (x0 x1:V0):Option R:=
k0 x0 x1
theorem apR (x0 x1):exec cl N Pn (kU x0 x1) K=(xD (fun y0 y1=>K .normal (kU y0 y1)) x0 x1):=by
 kernel_rfl
def xE (k0:V0→V0→V0→Int→Int→Option R) (x0 x1:V0):Option R:=
k0 x0 x1 x0 (x0.length:Int) (0:Int)
theorem apS (x0 x1):exec cl N Po (kU x0 x1) K=(xE (fun y0 y1 y2 y3 y4=>K .normal (lF y0 y1 y2 y3 y4)) x0 x1):=by
 kernel_rfl
theorem UQ (x0 x1 x2 x3 x4):aj [0,1,9,10,11] (lF x0 x1 x2 x3 x4)=(lF x0 x1 x2 x3 x4):=by kernel_rfl
def xF (cy:Int→Int→Option (Int)) (k0:Int→Option R) (k1:V0→V0→V0→Int→Int→Option R) (k2:V0→V0→V0→Int→Int→Option R) (x0 x1 x2:V0) (x3 x4:Int):Option R:=
ad (decide (x4 < x3)) (if 0≤x4∧x4 < (x2.length:Int) then
ad (decide (x4≥(x1.length:Int))) (k0 (1:Int)) (if 0≤x4∧x4 < (x1.length:Int) then
(cy (x2.getD x4.toNat (0:Int)) (x1.getD x4.toNat (0:Int))).bind fun r1329=>
ad (r1329 != (0:Int)) (k0 r1329) (k1 x0 x1 x2 x3 (IntKind.i64.wrap (x4+(1:Int))))
else none)
else none) (k2 x0 x1 x2 x3 x4)
theorem apT (cy) (h46:(nU cy).holds cl) (x0 x1 x2 x3 x4):exec cl N GF (lF x0 x1 x2 x3 x4) K=(xF cy (fun y0=>K .ret (IA y0)) (fun y0 y1 y2 y3 y4=>K .normal (lF y0 y1 y2 y3 y4)) (fun y0 y1 y2 y3 y4=>K (.exit 0) (lF y0 y1 y2 y3 y4)) x0 x1 x2 x3 x4):=by
 rw [←aN h46]
 kernel_rfl
def tr {R:Type} (cy:Int→Int→Option (Int)) (k0:Int→Option R) (k1:V0→V0→V0→Int→Int→Option R):Nat→V0→V0→V0→Int→Int→Option R
 | 0,_,_,_,_,_=>none
 | m+1,x0,x1,x2,x3,x4=>(xF cy k0 (tr cy k0 k1 m) k1 x0 x1 x2 x3 x4)
theorem afE (cy) (h46:(nU cy).holds cl):∀ (m) (x0 x1 x2 x3 x4),iter [0,1,9,10,11] (fun env K=>exec cl N GF env K) K m (lF x0 x1 x2 x3 x4)=tr cy (fun y0=>K .ret (IA y0)) (fun y0 y1 y2 y3 y4=>K (.exit 0) (lF y0 y1 y2 y3 y4)) m x0 x1 x2 x3 x4:=by
 intro m
 induction m with
 | zero=>intros; rfl
 | succ m ih=>
   intro x0 x1 x2 x3 x4
   simp only [bZ,apT cy h46,b6,b5,b7,UQ,ih]
   rfl
theorem ac5 (x0):aj [0,1,4] (IA x0)=(l8 x0):=by kernel_rfl
theorem ac6 (x0 x1 x2 x3 x4):aj [0,1,4] (lF x0 x1 x2 x3 x4)=(ng x0 x1):=by kernel_rfl
def xG (N:Nat) (cy:Int→Int→Option (Int)) (k0:Int→Option R) (k1:V0→V0→Option R) (x0 x1 x2:V0) (x3 x4:Int):Option R:=
tr cy k0 (fun y0 y1 y2 y3 y4=>k1 y0 y1) N x0 x1 x2 x3 x4
theorem apU (cy) (h46:(nU cy).holds cl) (x0 x1 x2 x3 x4):exec cl N GG (lF x0 x1 x2 x3 x4) K=(xG N cy (fun y0=>K .ret (l8 y0)) (fun y0 y1=>K (.exit 0) (ng y0 y1)) x0 x1 x2 x3 x4):=by
 simp only [GG,aT,bX,UQ,afE cy h46,ac5,ac6]
 rfl
theorem ac7 (x0):aj [0,1,4] (l8 x0)=(l8 x0):=by kernel_rfl
theorem ac8 (x0 x1):aj [0,1,4] (ng x0 x1)=(ng x0 x1):=by kernel_rfl
def xH (k0:Int→Option R) (x0 x1:V0):Option R:=
ad (decide ((x0.length:Int) < (x1.length:Int))) (k0 (-1:Int)) (k0 (0:Int))
theorem apV (x0 x1):exec cl N Pr (ng x0 x1) K=(xH (fun y0=>K .ret [(4,.v U2 y0)]) x0 x1):=by
 kernel_rfl
def xI (N:Nat) (cy:Int→Int→Option (Int)) (k0:Int→Option R) (k1:Int→Option R) (x0 x1:V0):Option R:=
(xD (xE (xG N cy k0 ((xH k1)))) x0 x1)
theorem apW (cy) (h46:(nU cy).holds cl) (x0 x1):exec cl N GH (kU x0 x1) K=(xI N cy (fun y0=>K .ret (l8 y0)) (fun y0=>K .ret [(4,.v U2 y0)]) x0 x1):=by
 simp only [GH,bY,b9,b8,ca,apR,Ps,Pq,apS,Pp,aT,cx,apU cy h46,ct,cw,cq,ac7,ac8,apV]
 rfl
theorem ajv (y0):ag d47 .ret (l8 y0)=some [.v U2 y0]:=by kernel_rfl
theorem ajw (y0):ag d47 .ret [(4,.v U2 y0)]=some [.v U2 y0]:=by kernel_rfl
def sK (N:Nat) (cy:Int→Int→Option (Int)) (x0 x1:V0) (k:Int→Option R):Option R:=
(xI N cy k k x0 x1)
theorem Y7 (cy) (h46:(nU cy).holds cl) (x0 x1) (k:List E→Option R):exec cl N GD (kU x0 x1) (fun e env=>(ag d47 e env).bind k)=sK N cy x0 x1 (fun r0=>k [.v U2 r0]):=by
 simp only [GD,apW cy h46,ajv,ajw,ar]
 rfl
def Ie (S:V0→V0→Option (Int)):aQ:=eA 47 U5 U5 S fun b=> [.v U2 b]
def ic (N:Nat) (x0:V0) (x1:V0):Option (Int):=sK N (cy N) x0 x1 (fun (r0:Int)=>some (r0))
def sI (k0:V0→Int→Option R) (x0:V0):Option R:=
k0 x0 (0:Int)
theorem apO (x0):exec cl N Bc [(0,.v U5 x0)] K=(sI (fun y0 y1=>exec cl N Bb [(0,.v U5 y0),(3,.v U2 y1)] K) x0):=by
 delta Bc
 generalize Bb=q
 revert q
 refine id ?_
 intro q
 kernel_rfl
def sE (k0:Int→V0→Int→Int→Option R) (x0:V0) (x1:Int):Option R:=
k0 x1 x0 (x0.length:Int) (0:Int)
theorem apK (x0 x1):exec cl N Ph [(0,.v U5 x0),(3,.v U2 x1)] K=(sE (fun y0 y1 y2 y3=>K .normal (lG y0 y1 y2 y3)) x0 x1):=by
 kernel_rfl
theorem UP (x0 x1 x2 x3):aj [3,6,7,8] (lG x0 x1 x2 x3)=(lG x0 x1 x2 x3):=by kernel_rfl
def sF (k0:Int→Option R) (k1:Int→V0→Int→Int→Option R) (k2:Int→V0→Int→Int→Option R) (x0:Int) (x1:V0) (x2 x3:Int):Option R:=
ad (decide (x3 < x2)) (if 0≤x3∧x3 < (x1.length:Int) then
ad ((x1.getD x3.toNat (0:Int)) != x0) (k0 (x1.getD x3.toNat (0:Int))) (k1 x0 x1 x2 (IntKind.i64.wrap (x3+(1:Int))))
else none) (k2 x0 x1 x2 x3)
theorem apL (x0 x1 x2 x3):exec cl N GA (lG x0 x1 x2 x3) K=(sF (fun y0=>K .ret (IB y0)) (fun y0 y1 y2 y3=>K .normal (lG y0 y1 y2 y3)) (fun y0 y1 y2 y3=>K (.exit 0) (lG y0 y1 y2 y3)) x0 x1 x2 x3):=by
 kernel_rfl
def np {R:Type} (k0:Int→Option R) (k1:Int→V0→Int→Int→Option R):Nat→Int→V0→Int→Int→Option R
 | 0,_,_,_,_=>none
 | m+1,x0,x1,x2,x3=>(sF k0 (np k0 k1 m) k1 x0 x1 x2 x3)
theorem afD:∀ (m) (x0 x1 x2 x3),iter [3,6,7,8] (fun env K=>exec cl N GA env K) K m (lG x0 x1 x2 x3)=np (fun y0=>K .ret (IB y0)) (fun y0 y1 y2 y3=>K (.exit 0) (lG y0 y1 y2 y3)) m x0 x1 x2 x3:=by
 intro m
 induction m with
 | zero=>intros; rfl
 | succ m ih=>
   intro x0 x1 x2 x3
   simp only [bZ,apL,b6,b5,b7,UP,ih]
   rfl
theorem ac1 (x0):aj [2,3] (IB x0)=(kq x0):=by kernel_rfl
theorem ac2 (x0 x1 x2 x3):aj [2,3] (lG x0 x1 x2 x3)=(iV x0):=by kernel_rfl
def sG (N:Nat) (k0:Int→Option R) (k1:Int→Option R) (x0:Int) (x1:V0) (x2 x3:Int):Option R:=
np k0 (fun y0 y1 y2 y3=>k1 y0) N x0 x1 x2 x3
theorem apM (x0 x1 x2 x3):exec cl N GB (lG x0 x1 x2 x3) K=(sG N (fun y0=>K .ret (kq y0)) (fun y0=>K (.exit 0) (iV y0)) x0 x1 x2 x3):=by
 simp only [GB,aT,bX,UP,afD,ac1,ac2]
 rfl
theorem ac3 (x0):aj [2,3] (kq x0)=(kq x0):=by kernel_rfl
theorem ac4 (x0):aj [2,3] (iV x0)=(iV x0):=by kernel_rfl
def sH (k0:Int→Option R) (x0:Int):Option R:=
k0 x0
theorem apN (x0):exec cl N Pl (iV x0) K=(sH (fun y0=>K .ret [(2,.v U2 y0)]) x0):=by
 kernel_rfl
def sJ (N:Nat) (k0:Int→Option R) (k1:Int→Option R) (x0:V0):Option R:=
(sI (sE (sG N k0 ((sH k1)))) x0)
theorem apP (x0):exec cl N Bc [(0,.v U5 x0)] K=(sJ N (fun y0=>K .ret (kq y0)) (fun y0=>K .ret [(2,.v U2 y0)]) x0):=by
 simp only [bY,b9,b8,ca,apO,Bb,Pk,apK,Pj,aT,cx,apM,ct,cw,cq,ac3,ac4,apN]
 rfl
theorem ajq (y0):ag d45 .ret (kq y0)=some [.v U2 y0]:=by kernel_rfl
theorem ajr (y0):ag d45 .ret [(2,.v U2 y0)]=some [.v U2 y0]:=by kernel_rfl
def qa (N:Nat) (x0:V0) (k:Int→Option R):Option R:=
(sJ N k k x0)
theorem Y5 (x0) (k:List E→Option R):exec cl N Gz [(0,.v U5 x0)] (fun e env=>(ag d45 e env).bind k)=qa N x0 (fun r0=>k [.v U2 r0]):=by
 simp only [Gz,apP,ajq,ajr,ar]
 rfl
def Ic (S:V0→Option (Int)):aQ:=cG 45 U5 S fun b=> [.v U2 b]
def ib (N:Nat) (x0:V0):Option (Int):=qa N x0 (fun (r0:Int)=>some (r0))
def JT (er:ae→V0→Option (Int)) (ib:V0→Option (Int)) (cy:Int→Int→Option (Int)) (ic:V0→V0→Option (Int)) (k0:Int→Option R) (x0 x1:V0) (x2:ae):Option R:=
(er x2 x0).bind fun r1341=>
(er x2 x1).bind fun r1342=>
(cy r1341 r1342).bind fun r1343=>
(ic x0 x1).bind fun r1344=>
(ib [r1343,r1344]).bind fun r1345=>
k0 r1345
theorem apJ (er) (ib) (cy) (ic) (h38:(uW er).holds cl) (h45:(Ic ib).holds cl) (h46:(nU cy).holds cl) (h47:(Ie ic).holds cl) (x0 x1 x2):exec cl N Pg [(0,.v U5 x0),(1,.v U5 x1),(2,.at ak x2)] K=(JT er ib cy ic (fun y0=>K .ret [(5,.v U2 y0)]) x0 x1 x2):=by
 rw [←aN h38]
 rw [←aN h45]
 rw [←aN h46]
 rw [←aN h47]
 kernel_rfl
theorem ajp (y0):ag d44 .ret [(5,.v U2 y0)]=some [.v U2 y0]:=by kernel_rfl
def CL (er:ae→V0→Option (Int)) (ib:V0→Option (Int)) (cy:Int→Int→Option (Int)) (ic:V0→V0→Option (Int)) (x0 x1:V0) (x2:ae) (k:Int→Option R):Option R:=
(JT er ib cy ic k x0 x1 x2)
theorem Y4 (er) (ib) (cy) (ic) (h38:(uW er).holds cl) (h45:(Ic ib).holds cl) (h46:(nU cy).holds cl) (h47:(Ie ic).holds cl) (x0 x1 x2) (k:List E→Option R):exec cl N Gy [(0,.v U5 x0),(1,.v U5 x1),(2,.at ak x2)] (fun e env=>(ag d44 e env).bind k)=CL er ib cy ic x0 x1 x2 (fun r0=>k [.v U2 r0]):=by
 simp only [Gy,apJ er ib cy ic h38 h45 h46 h47,ajp,ar]
 rfl
def Ib (S:V0→V0→ae→Option (Int)):aQ:={A:=V0×V0×ae×Unit,B:=Int,f:=44,enc:=fun a=> [.v U5 a.1,.v U5 a.2.1,.at ak a.2.2.1],dec:=(ba (bL U5) (ba (bL U5) (ba (pg ak) ck))),S:=fun a=>S a.1 a.2.1 a.2.2.1,av:=fun b=> [.v U2 b],ok:=(gi (T:=U5) (gi (T:=U5) (B6 (T:=ak) (fun es b h=>ir h))))}
def gD (N:Nat) (x0:V0) (x1:V0) (x2:ae):Option (Int):=CL (er N) (ib N) (cy N) (ic N) x0 x1 x2 (fun (r0:Int)=>some (r0))
def JP (dF:ae→V4→Option (Int)) (aW:aJ→a7→Option gQ) (bS:aJ→a7→Option kg) (eV:zS→V7→Option DY) (gD:V0→V0→ae→Option (Int)) (k0:V7→Int→Option R) (k1:V7→Int→Option R) (k2:Int→V7→Option R) (x0:ae) (x1:V4):Option R:=
(dF x0 x1).bind fun r1349=>
ad (r1349 != (0:Int)) (k0 [] r1349) (let v1351:a7:=((-1:Int),(-1:Int),(0:Int),())
(aW (x0,x1,[],()) v1351).bind fun r1352=>
ad (r1352.2==(0:Int)) (k1 [] (9:Int)) (ad (decide (r1352.2 > (200:Int))) (k1 [] (3:Int)) ((bS r1352.1 v1351).bind fun r1355=>
(eV (fun (x1356:zQ)=>((gD x1356.1 x1356.2.1 x0).bind fun b1357=>some [.v U2 b1357]).bind (j7 U2)) r1355.2).bind fun r1358=>
k2 (0:Int) r1358)))
theorem an9 (dF) (aW) (bS) (eV) (gD) (h40:(rQ dF).holds cl) (h41:(gG aW).holds cl) (h42:(kP bS).holds cl) (h43:(jW eV).holds cl) (h44:(Ib gD).holds cl) (x0 x1):exec cl N N1 (nf x0 x1) K=(JP dF aW bS eV gD (fun y0 y1=>K .ret (Ru y0 y1)) (fun y0 y1=>K .ret (Rv y0 y1)) (fun y0 y1=>K .ret (Rw y0 y1)) x0 x1):=by
 rw [←aN h40]
 rw [←aN h41]
 rw [←aN h42]
 rw [←aN h43]
 rw [←aN h44]
 kernel_rfl
theorem aiZ (y0 y1):ag d16 .ret (Ru y0 y1)=some [.own true 27 U5 .no y0,.v U2 y1]:=by kernel_rfl
theorem ai0 (y0 y1):ag d16 .ret (Rv y0 y1)=some [.own true 27 U5 .no y0,.v U2 y1]:=by kernel_rfl
theorem ai1 (y0 y1):ag d16 .ret (Rw y0 y1)=some [.own true 27 U5 .no y1,.v U2 y0]:=by kernel_rfl
def g16 (dF:ae→V4→Option (Int)) (aW:aJ→a7→Option gQ) (bS:aJ→a7→Option kg) (eV:zS→V7→Option DY) (gD:V0→V0→ae→Option (Int)) (x0:ae) (x1:V4) (k:V7→Int→Option R):Option R:=
(JP dF aW bS eV gD k k (fun y0 y1=>k y1 y0) x0 x1)
theorem YO (dF) (aW) (bS) (eV) (gD) (h40:(rQ dF).holds cl) (h41:(gG aW).holds cl) (h42:(kP bS).holds cl) (h43:(jW eV).holds cl) (h44:(Ib gD).holds cl) (x0 x1) (k:List E→Option R):exec cl N FB (nf x0 x1) (fun e env=>(ag d16 e env).bind k)=g16 dF aW bS eV gD x0 x1 (fun r0 r1=>k [.own true 27 U5 .no r0,.v U2 r1]):=by
 simp only [FB,an9 dF aW bS eV gD h40 h41 h42 h43 h44,aiZ,ai0,ai1,ar]
 rfl
def nT (S:ae→V4→Option mT):aQ:=eA 16 ak .str S fun b=> [.own true 27 U5 .no b.1,.v U2 b.2]
def cg (N:Nat) (x0:ae) (x1:V4):Option mT:=g16 (dF N) (aW N) (bS N) (eV N) (gD N) x0 x1 (fun (r0:V7) (r1:Int)=>some (r0,r1))
def JD (cg:ae→V4→Option mT) (er:ae→V0→Option (Int)) (k0:V0→Int→Int→Option R) (k1:V0→Int→Int→Option R) (x0:ae) (x1:V4):Option R:=
(cg x0 x1).bind fun r1366=>
ad (r1366.2 != (0:Int)) (k0 [] (0:Int) r1366.2) (if 0≤(0:Int)∧(0:Int) < (r1366.1.length:Int) then
if ((0:Int).toNat) < r1366.1.length then
if 0≤(0:Int)∧(0:Int) < (r1366.1.length:Int) then
if ((0:Int).toNat) < r1366.1.length then
(er x0 (r1366.1.getD ((0:Int).toNat) [])).bind fun r1370=>
k1 (r1366.1.getD ((0:Int).toNat) []) r1370 (0:Int)
else none
else none
else none
else none)
theorem anj (cg) (er) (h16:(nT cg).holds cl) (h38:(uW er).holds cl) (x0 x1):exec cl N Nn (nf x0 x1) K=(JD cg er (fun y0 y1 y2=>K .ret (Rx y0 y1 y2)) (fun y0 y1 y2=>K .ret [(4,.v U5 y0),(5,.v U2 y1),(6,.v U2 y2)]) x0 x1):=by
 rw [←aN h16]
 rw [←aN h38]
 kernel_rfl
theorem aiz (y0 y1 y2):ag d13 .ret (Rx y0 y1 y2)=some [.v U5 y0,.v U2 y1,.v U2 y2]:=by kernel_rfl
theorem aiA (y0 y1 y2):ag d13 .ret [(4,.v U5 y0),(5,.v U2 y1),(6,.v U2 y2)]=some [.v U5 y0,.v U2 y1,.v U2 y2]:=by kernel_rfl
def g13 (cg:ae→V4→Option mT) (er:ae→V0→Option (Int)) (x0:ae) (x1:V4) (k:V0→Int→Int→Option R):Option R:=
(JD cg er k k x0 x1)
theorem Ys (cg) (er) (h16:(nT cg).holds cl) (h38:(uW er).holds cl) (x0 x1) (k:List E→Option R):exec cl N EP (nf x0 x1) (fun e env=>(ag d13 e env).bind k)=g13 cg er x0 x1 (fun r0 r1 r2=>k [.v U5 r0,.v U2 r1,.v U2 r2]):=by
 simp only [EP,anj cg er h16 h38,aiz,aiA,ar]
 rfl
def rL (S:ae→V4→Option oX):aQ:=eA 13 ak .str S fun b=> [.v U5 b.1,.v U2 b.2.1,.v U2 b.2.2]
def cW (N:Nat) (x0:ae) (x1:V4):Option oX:=g13 (cg N) (er N) x0 x1 (fun (r0:V0) (r1:Int) (r2:Int)=>some (r0,r1,r2))
def xT (k0:V0→ae→V4→Option R) (x0:ae) (x1:V0):Option R:=
k0 x1 x0 ([]:List UInt8)
theorem ap9 (x0 x1):exec cl N Bg (kT x0 x1) K=(xT (fun y0 y1 y2=>exec cl N Bf [(1,.v U5 y0),(2,.loc ak .no y1),(6,.sb 123 5 y2)] K) x0 x1):=by
 delta Bg
 generalize Bf=q
 revert q
 refine id ?_
 intro q
 kernel_rfl
def xP (k0:ae→V4→V0→Int→Int→Option R) (x0:V0) (x1:ae) (x2:V4):Option R:=
k0 x1 x2 x0 (x0.length:Int) (0:Int)
theorem ap5 (x0 x1 x2):exec cl N Pz [(1,.v U5 x0),(2,.loc ak .no x1),(6,.sb 123 5 x2)] K=(xP (fun y0 y1 y2 y3 y4=>K .normal (lI y0 y1 y2 y3 y4)) x0 x1 x2):=by
 kernel_rfl
theorem US (x0 x1 x2 x3 x4):aj [2,6,9,10,11] (lI x0 x1 x2 x3 x4)=(lI x0 x1 x2 x3 x4):=by kernel_rfl
def xQ (cF:V4→V4→Option V6) (k0:V4→Bool→Option R) (k1:ae→V4→V0→Int→Int→Option R) (k2:ae→V4→V0→Int→Int→Option R) (x0:ae) (x1:V4) (x2:V0) (x3 x4:Int):Option R:=
ad (decide (x4 < x3)) (if 0≤x4∧x4 < (x2.length:Int) then
ad (decide ((x2.getD x4.toNat (0:Int)) < (0:Int))) (k0 ([]:List UInt8) false) (ad (decide ((x2.getD x4.toNat (0:Int))≥(x0.2.1.length:Int))) (k0 ([]:List UInt8) false) (if 0≤(x2.getD x4.toNat (0:Int))∧(x2.getD x4.toNat (0:Int)) < (x0.2.1.length:Int) then
(cF x1 ((x0.2.1.getD (x2.getD x4.toNat (0:Int)).toNat ([],([],((0:Int),((0:Int),()))))).1)).bind fun r1384=>
k1 x0 r1384 x2 x3 (IntKind.i64.wrap (x4+(1:Int)))
else none))
else none) (k2 x0 x1 x2 x3 x4)
theorem ap6 (cF) (h84:(iq cF).holds cl) (x0 x1 x2 x3 x4):exec cl N GO (lI x0 x1 x2 x3 x4) K=(xQ cF (fun y0 y1=>K .ret (IC y0 y1)) (fun y0 y1 y2 y3 y4=>K .normal (lI y0 y1 y2 y3 y4)) (fun y0 y1 y2 y3 y4=>K (.exit 0) (lI y0 y1 y2 y3 y4)) x0 x1 x2 x3 x4):=by
 rw [←aN h84]
 kernel_rfl
def tu {R:Type} (cF:V4→V4→Option V6) (k0:V4→Bool→Option R) (k1:ae→V4→V0→Int→Int→Option R):Nat→ae→V4→V0→Int→Int→Option R
 | 0,_,_,_,_,_=>none
 | m+1,x0,x1,x2,x3,x4=>(xQ cF k0 (tu cF k0 k1 m) k1 x0 x1 x2 x3 x4)
theorem afG (cF) (h84:(iq cF).holds cl):∀ (m) (x0 x1 x2 x3 x4),iter [2,6,9,10,11] (fun env K=>exec cl N GO env K) K m (lI x0 x1 x2 x3 x4)=tu cF (fun y0 y1=>K .ret (IC y0 y1)) (fun y0 y1 y2 y3 y4=>K (.exit 0) (lI y0 y1 y2 y3 y4)) m x0 x1 x2 x3 x4:=by
 intro m
 induction m with
 | zero=>intros; rfl
 | succ m ih=>
   intro x0 x1 x2 x3 x4
   simp only [bZ,ap6 cF h84,b6,b5,b7,US,ih]
   rfl
theorem adf (x0 x1):aj [4,5,6] (IC x0 x1)=(rX x0 x1):=by kernel_rfl
theorem adg (x0 x1 x2 x3 x4):aj [4,5,6] (lI x0 x1 x2 x3 x4)=(vd x1):=by kernel_rfl
def xR (N:Nat) (cF:V4→V4→Option V6) (k0:V4→Bool→Option R) (k1:V4→Option R) (x0:ae) (x1:V4) (x2:V0) (x3 x4:Int):Option R:=
tu cF k0 (fun y0 y1 y2 y3 y4=>k1 y1) N x0 x1 x2 x3 x4
theorem ap7 (cF) (h84:(iq cF).holds cl) (x0 x1 x2 x3 x4):exec cl N GP (lI x0 x1 x2 x3 x4) K=(xR N cF (fun y0 y1=>K .ret (rX y0 y1)) (fun y0=>K (.exit 0) (vd y0)) x0 x1 x2 x3 x4):=by
 simp only [GP,aT,bX,US,afG cF h84,adf,adg]
 rfl
theorem adh (x0 x1):aj [4,5,6] (rX x0 x1)=(rX x0 x1):=by kernel_rfl
theorem adi (x0):aj [4,5,6] (vd x0)=(vd x0):=by kernel_rfl
def xS (ee:V4→Option V6) (k0:V4→Bool→Option R) (x0:V4):Option R:=
(ee x0).bind fun r1386=>
k0 r1386 true
theorem ap8 (ee) (h85:(jl ee).holds cl) (x0):exec cl N PC (vd x0) K=(xS ee (fun y0 y1=>K .ret [(4,.v .str y0),(5,.v .bool y1)]) x0):=by
 rw [←aN h85]
 kernel_rfl
def xU (N:Nat) (cF:V4→V4→Option V6) (ee:V4→Option V6) (k0:V4→Bool→Option R) (k1:V4→Bool→Option R) (x0:ae) (x1:V0):Option R:=
(xT (xP (xR N cF k0 ((xS ee k1)))) x0 x1)
theorem aqa (cF) (ee) (h84:(iq cF).holds cl) (h85:(jl ee).holds cl) (x0 x1):exec cl N Bg (kT x0 x1) K=(xU N cF ee (fun y0 y1=>K .ret (rX y0 y1)) (fun y0 y1=>K .ret [(4,.v .str y0),(5,.v .bool y1)]) x0 x1):=by
 simp only [bY,b9,b8,ca,ap9,Bf,PB,ap5,PA,aT,cx,ap7 cF h84,ct,cw,cq,adh,adi,ap8 ee h85]
 rfl
theorem ajC (y0 y1):ag d57 .ret (rX y0 y1)=some [.v .str y0,.v .bool y1]:=by kernel_rfl
theorem ajD (y0 y1):ag d57 .ret [(4,.v .str y0),(5,.v .bool y1)]=some [.v .str y0,.v .bool y1]:=by kernel_rfl
def sN (N:Nat) (cF:V4→V4→Option V6) (ee:V4→Option V6) (x0:ae) (x1:V0) (k:V4→Bool→Option R):Option R:=
(xU N cF ee k k x0 x1)
theorem Za (cF) (ee) (h84:(iq cF).holds cl) (h85:(jl ee).holds cl) (x0 x1) (k:List E→Option R):exec cl N GN (kT x0 x1) (fun e env=>(ag d57 e env).bind k)=sN N cF ee x0 x1 (fun r0 r1=>k [.v .str r0,.v .bool r1]):=by
 simp only [GN,aqa cF ee h84 h85,ajC,ajD,ar]
 rfl
def Ig (S:ae→V0→Option zP):aQ:=eA 57 ak U5 S fun b=> [.v .str b.1,.v .bool b.2]
def ig (N:Nat) (x0:ae) (x1:V0):Option zP:=sN N (cF N) (ee N) x0 x1 (fun (r0:V4) (r1:Bool)=>some (r0,r1))
def JW (ig:ae→V0→Option zP) (ey:ae→Option (Int)) (k0:Int→Option R) (k1:Int→Option R) (x0:ae) (x1:V0):Option R:=
(ey x0).bind fun r1388=>
ad (r1388 != (0:Int)) (k0 r1388) (ad (decide ((x1.length:Int) > (16:Int))) (k0 (3:Int)) ((ig x0 x1).bind fun r1391=>
ad (!r1391.2) (k1 (6:Int)) (k1 (0:Int))))
theorem ap4 (ig) (ey) (h57:(Ig ig).holds cl) (h70:(uZ ey).holds cl) (x0 x1):exec cl N Py (kT x0 x1) K=(JW ig ey (fun y0=>K .ret [(1,.dead),(2,.dead),(4,.v U2 y0)]) (fun y0=>K .ret [(4,.v U2 y0)]) x0 x1):=by
 rw [←aN h57]
 rw [←aN h70]
 kernel_rfl
theorem ajA (y0):ag d55 .ret [(1,.dead),(2,.dead),(4,.v U2 y0)]=some [.v U2 y0]:=by kernel_rfl
theorem ajB (y0):ag d55 .ret [(4,.v U2 y0)]=some [.v U2 y0]:=by kernel_rfl
def CN (ig:ae→V0→Option zP) (ey:ae→Option (Int)) (x0:ae) (x1:V0) (k:Int→Option R):Option R:=
(JW ig ey k k x0 x1)
theorem Y9 (ig) (ey) (h57:(Ig ig).holds cl) (h70:(uZ ey).holds cl) (x0 x1) (k:List E→Option R):exec cl N GM (kT x0 x1) (fun e env=>(ag d55 e env).bind k)=CN ig ey x0 x1 (fun r0=>k [.v U2 r0]):=by
 simp only [GM,ap4 ig ey h57 h70,ajA,ajB,ar]
 rfl
def B0 (S:ae→V0→Option (Int)):aQ:=eA 55 ak U5 S fun b=> [.v U2 b]
def fK (N:Nat) (x0:ae) (x1:V0):Option (Int):=CN (ig N) (ey N) x0 x1 (fun (r0:Int)=>some (r0))
def pP (fK:ae→V0→Option (Int)) (k0:V0→Int→Option R) (k1:V0→ae→V0→Int→Option R) (x0:ae) (x1:V0):Option R:=
(fK x0 x1).bind fun r1399=>
ad (r1399 != (0:Int)) (k0 [] r1399) (k1 x1 x0 [] (0:Int))
theorem aoz (fK) (h55:(B0 fK).holds cl) (x0 x1):exec cl N AU (kT x0 x1) K=(pP fK (fun y0 y1=>K .ret (ID y0 y1)) (fun y0 y1 y2 y3=>exec cl N AT (Ry y0 y1 y2 y3) K) x0 x1):=by
 rw [←aN h55]
 delta AU
 generalize AT=q
 revert q
 refine id ?_
 intro q
 kernel_rfl
def pI (k0:ae→V0→Int→V0→Int→Int→Option R) (x0:V0) (x1:ae) (x2:V0) (x3:Int):Option R:=
k0 x1 x2 x3 x0 (x0.length:Int) (0:Int)
theorem aos (x0 x1 x2 x3):exec cl N Ob (Ry x0 x1 x2 x3) K=(pI (fun y0 y1 y2 y3 y4 y5=>K .normal (gR y0 y1 y2 y3 y4 y5)) x0 x1 x2 x3):=by
 kernel_rfl
theorem KG (x0 x1 x2 x3 x4 x5):aj [2,7,8,17,18,19] (gR x0 x1 x2 x3 x4 x5)=(gR x0 x1 x2 x3 x4 x5):=by kernel_rfl
def pL (k0:ae→V0→Int→V0→Int→Int→Option R) (k1:ae→V0→Int→V0→Int→Int→Option R) (x0:ae) (x1:V0) (x2:Int) (x3:V0) (x4 x5:Int):Option R:=
ad (decide (x5 < x4)) (k0 x0 x1 x2 x3 x4 x5) (k1 x0 x1 x2 x3 x4 x5)
theorem aov (x0 x1 x2 x3 x4 x5):exec cl N uK (gR x0 x1 x2 x3 x4 x5) K=(pL (fun y0 y1 y2 y3 y4 y5=>exec cl N AS (gR y0 y1 y2 y3 y4 y5) K) (fun y0 y1 y2 y3 y4 y5=>K (.exit 0) (gR y0 y1 y2 y3 y4 y5)) x0 x1 x2 x3 x4 x5):=by
 delta uK
 generalize AS=q
 revert q
 refine id ?_
 intro q
 kernel_rfl
def pJ (k0:ae→V0→Int→Int→V0→Int→Int→Option R) (x0:ae) (x1:V0) (x2:Int) (x3:V0) (x4 x5:Int):Option R:=
if 0≤x5∧x5 < (x3.length:Int) then
k0 x0 x1 x2 (x3.getD x5.toNat (0:Int)) x3 x4 x5
else none
theorem aot (x0 x1 x2 x3 x4 x5):exec cl N Oc (gR x0 x1 x2 x3 x4 x5) K=(pJ (fun y0 y1 y2 y3 y4 y5 y6=>K .normal (pk y0 y1 y2 y3 y4 y5 y6)) x0 x1 x2 x3 x4 x5):=by
 kernel_rfl
def pR (k0:ae→V0→Int→Int→V0→Int→Int→Int→Int→Option R) (x0:ae) (x1:V0) (x2 x3:Int) (x4:V0) (x5 x6:Int):Option R:=
if 0≤x3∧x3 < (x0.2.1.length:Int) then
k0 x0 x1 x2 x3 x4 x5 x6 (((x0.2.1.getD x3.toNat ([],([],((0:Int),((0:Int),()))))).2.1).length:Int) (0:Int)
else none
theorem aoB (x0 x1 x2 x3 x4 x5 x6):exec cl N Oj (pk x0 x1 x2 x3 x4 x5 x6) K=(pR (fun y0 y1 y2 y3 y4 y5 y6 y7 y8=>K .normal (lJ y0 y1 y2 y3 y4 y5 y6 y7 y8)) x0 x1 x2 x3 x4 x5 x6):=by
 kernel_rfl
theorem UE (x0 x1 x2 x3 x4 x5 x6 x7 x8):aj [2,7,8,10,17,18,19,29,30] (lJ x0 x1 x2 x3 x4 x5 x6 x7 x8)=(lJ x0 x1 x2 x3 x4 x5 x6 x7 x8):=by kernel_rfl
def pS (k0:ae→V0→Int→Int→V0→Int→Int→Int→Int→Option R) (k1:ae→V0→Int→Int→V0→Int→Int→Int→Int→Option R) (x0:ae) (x1:V0) (x2 x3:Int) (x4:V0) (x5 x6 x7 x8:Int):Option R:=
ad (decide (x8 < x7)) (if x1.length+[x2].length≤17592186044416 then
k0 x0 (x1++[x2]) x2 x3 x4 x5 x6 x7 (IntKind.i64.wrap (x8+(1:Int)))
else none) (k1 x0 x1 x2 x3 x4 x5 x6 x7 x8)
theorem aoC (x0 x1 x2 x3 x4 x5 x6 x7 x8):exec cl N FT (lJ x0 x1 x2 x3 x4 x5 x6 x7 x8) K=(pS (fun y0 y1 y2 y3 y4 y5 y6 y7 y8=>K .normal (lJ y0 y1 y2 y3 y4 y5 y6 y7 y8)) (fun y0 y1 y2 y3 y4 y5 y6 y7 y8=>K (.exit 2) (lJ y0 y1 y2 y3 y4 y5 y6 y7 y8)) x0 x1 x2 x3 x4 x5 x6 x7 x8):=by
 kernel_rfl
def ti {R:Type} (k0:ae→V0→Int→Int→V0→Int→Int→Int→Int→Option R):Nat→ae→V0→Int→Int→V0→Int→Int→Int→Int→Option R
 | 0,_,_,_,_,_,_,_,_,_=>none
 | m+1,x0,x1,x2,x3,x4,x5,x6,x7,x8=>(pS (ti k0 m) k0 x0 x1 x2 x3 x4 x5 x6 x7 x8)
theorem afq:∀ (m) (x0 x1 x2 x3 x4 x5 x6 x7 x8),iter [2,7,8,10,17,18,19,29,30] (fun env K=>exec cl N FT env K) K m (lJ x0 x1 x2 x3 x4 x5 x6 x7 x8)=ti (fun y0 y1 y2 y3 y4 y5 y6 y7 y8=>K (.exit 2) (lJ y0 y1 y2 y3 y4 y5 y6 y7 y8)) m x0 x1 x2 x3 x4 x5 x6 x7 x8:=by
 intro m
 induction m with
 | zero=>intros; rfl
 | succ m ih=>
   intro x0 x1 x2 x3 x4 x5 x6 x7 x8
   simp only [bZ,aoC,b6,b5,b7,UE,ih]
   rfl
theorem acv (x0 x1 x2 x3 x4 x5 x6 x7 x8):aj [2,7,8,10,17,18,19] (lJ x0 x1 x2 x3 x4 x5 x6 x7 x8)=(pk x0 x1 x2 x3 x4 x5 x6):=by kernel_rfl
def pT (N:Nat) (k0:ae→V0→Int→Int→V0→Int→Int→Option R) (x0:ae) (x1:V0) (x2 x3:Int) (x4:V0) (x5 x6 x7 x8:Int):Option R:=
ti (fun y0 y1 y2 y3 y4 y5 y6 y7 y8=>k0 y0 y1 y2 y3 y4 y5 y6) N x0 x1 x2 x3 x4 x5 x6 x7 x8
theorem aoD (x0 x1 x2 x3 x4 x5 x6 x7 x8):exec cl N FU (lJ x0 x1 x2 x3 x4 x5 x6 x7 x8) K=(pT N (fun y0 y1 y2 y3 y4 y5 y6=>K (.exit 2) (pk y0 y1 y2 y3 y4 y5 y6)) x0 x1 x2 x3 x4 x5 x6 x7 x8):=by
 simp only [FU,aT,bX,UE,afq,acv]
 rfl
theorem acw (x0 x1 x2 x3 x4 x5 x6):aj [2,7,8,10,17,18,19] (pk x0 x1 x2 x3 x4 x5 x6)=(pk x0 x1 x2 x3 x4 x5 x6):=by kernel_rfl
def pU (k0:ae→V0→Int→V0→Int→Int→Option R) (x0:ae) (x1:V0) (x2 x3:Int) (x4:V0) (x5 x6:Int):Option R:=
if 0≤x3∧x3 < (x0.2.1.length:Int) then
k0 x0 x1 (IntKind.i64.wrap (x2+(((x0.2.1.getD x3.toNat ([],([],((0:Int),((0:Int),()))))).1).length:Int))) x4 x5 x6
else none
theorem aoE (x0 x1 x2 x3 x4 x5 x6):exec cl N On (pk x0 x1 x2 x3 x4 x5 x6) K=(pU (fun y0 y1 y2 y3 y4 y5=>K .normal (gR y0 y1 y2 y3 y4 y5)) x0 x1 x2 x3 x4 x5 x6):=by
 kernel_rfl
def pK (k0:ae→V0→Int→V0→Int→Int→Option R) (x0:ae) (x1:V0) (x2:Int) (x3:V0) (x4 x5:Int):Option R:=
k0 x0 x1 x2 x3 x4 (IntKind.i64.wrap (x5+(1:Int)))
theorem aou (x0 x1 x2 x3 x4 x5):exec cl N Of (gR x0 x1 x2 x3 x4 x5) K=(pK (fun y0 y1 y2 y3 y4 y5=>K .normal (gR y0 y1 y2 y3 y4 y5)) x0 x1 x2 x3 x4 x5):=by
 kernel_rfl
def pM (N:Nat) (k0:ae→V0→Int→V0→Int→Int→Option R) (k1:ae→V0→Int→V0→Int→Int→Option R) (x0:ae) (x1:V0) (x2:Int) (x3:V0) (x4 x5:Int):Option R:=
(pL (pJ (pR (pT N ((pU ((pK k0))))))) k1 x0 x1 x2 x3 x4 x5)
theorem aow (x0 x1 x2 x3 x4 x5):exec cl N uK (gR x0 x1 x2 x3 x4 x5) K=(pM N (fun y0 y1 y2 y3 y4 y5=>K .normal (gR y0 y1 y2 y3 y4 y5)) (fun y0 y1 y2 y3 y4 y5=>K (.exit 0) (gR y0 y1 y2 y3 y4 y5)) x0 x1 x2 x3 x4 x5):=by
 simp only [bY,b9,b8,ca,aov,AS,Oe,aT,cx,Oq,aot,Oo,Om,aoB,Ol,aoD,ct,cw,cq,acw,aoE,KG,aou]
 rfl
def qx {R:Type} (N:Nat) (k0:ae→V0→Int→V0→Int→Int→Option R):Nat→ae→V0→Int→V0→Int→Int→Option R
 | 0,_,_,_,_,_,_=>none
 | m+1,x0,x1,x2,x3,x4,x5=>(pM N (qx N k0 m) k0 x0 x1 x2 x3 x4 x5)
theorem afp:∀ (m) (x0 x1 x2 x3 x4 x5),iter [2,7,8,17,18,19] (fun env K=>exec cl N uK env K) K m (gR x0 x1 x2 x3 x4 x5)=qx N (fun y0 y1 y2 y3 y4 y5=>K (.exit 0) (gR y0 y1 y2 y3 y4 y5)) m x0 x1 x2 x3 x4 x5:=by
 intro m
 induction m with
 | zero=>intros; rfl
 | succ m ih=>
   intro x0 x1 x2 x3 x4 x5
   simp only [bZ,aow,b6,b5,b7,KG,ih]
   rfl
theorem acx (x0 x1 x2 x3 x4 x5):aj [7] (gR x0 x1 x2 x3 x4 x5)=(ve x1):=by kernel_rfl
def pN (N:Nat) (k0:V0→Option R) (x0:ae) (x1:V0) (x2:Int) (x3:V0) (x4 x5:Int):Option R:=
qx N (fun y0 y1 y2 y3 y4 y5=>k0 y1) N x0 x1 x2 x3 x4 x5
theorem aox (x0 x1 x2 x3 x4 x5):exec cl N FR (gR x0 x1 x2 x3 x4 x5) K=(pN N (fun y0=>K (.exit 0) (ve y0)) x0 x1 x2 x3 x4 x5):=by
 simp only [FR,aT,bX,KG,afp,acx]
 rfl
theorem acy (x0):aj [7] (ve x0)=(ve x0):=by kernel_rfl
def pO (k0:Int→V0→Option R) (x0:V0):Option R:=
k0 (0:Int) x0
theorem aoy (x0):exec cl N Oi (ve x0) K=(pO (fun y0 y1=>K .ret (IF y0 y1)) x0):=by
 kernel_rfl
def pQ (N:Nat) (fK:ae→V0→Option (Int)) (k0:V0→Int→Option R) (k1:Int→V0→Option R) (x0:ae) (x1:V0):Option R:=
(pP fK k0 (pI (pN N ((pO k1)))) x0 x1)
theorem aoA (fK) (h55:(B0 fK).holds cl) (x0 x1):exec cl N AU (kT x0 x1) K=(pQ N fK (fun y0 y1=>K .ret (ID y0 y1)) (fun y0 y1=>K .ret (IF y0 y1)) x0 x1):=by
 simp only [bY,b9,b8,ca,aoz fK h55,AT,Oh,aos,Og,aT,cx,aox,ct,cw,cq,acy,aoy]
 rfl
theorem ai6 (y0 y1):ag d24 .ret (ID y0 y1)=some [.own true 3 U2 .no y0,.v U2 y1]:=by kernel_rfl
theorem ai7 (y0 y1):ag d24 .ret (IF y0 y1)=some [.own true 3 U2 .no y1,.v U2 y0]:=by kernel_rfl
def g24 (N:Nat) (fK:ae→V0→Option (Int)) (x0:ae) (x1:V0) (k:V0→Int→Option R):Option R:=
(pQ N fK k (fun y0 y1=>k y1 y0) x0 x1)
theorem YS (fK) (h55:(B0 fK).holds cl) (x0 x1) (k:List E→Option R):exec cl N FQ (kT x0 x1) (fun e env=>(ag d24 e env).bind k)=g24 N fK x0 x1 (fun r0 r1=>k [.own true 3 U2 .no r0,.v U2 r1]):=by
 simp only [FQ,aoA fK h55,ai6,ai7,ar]
 rfl
def Ia (S:ae→V0→Option V8):aQ:=eA 24 ak U5 S fun b=> [.own true 3 U2 .no b.1,.v U2 b.2]
def gN (N:Nat) (x0:ae) (x1:V0):Option V8:=g24 N (fK N) x0 x1 (fun (r0:V0) (r1:Int)=>some (r0,r1))
def SS (dF:ae→V4→Option (Int)) (k0:Int→Int→Option R) (k1:V4→ae→V2→Int→Option R) (x0:ae) (x1:V4):Option R:=
(dF x0 x1).bind fun r1419=>
ad (r1419 != (0:Int)) (k0 (0:Int) r1419) (let v1421:Int:=(IntKind.i64.wrap ((x1.length:Int)+(1:Int)))
if 0≤v1421∧v1421≤v1421∧v1421≤((140737488355328:Nat):Int) then
if 0≤(0:Int)∧(0:Int) < ((kd v1421.toNat false).length:Int) then
if ((0:Int).toNat) < (kd v1421.toNat false).length then
k1 x1 x0 ((kd v1421.toNat false).set ((0:Int).toNat) true) (0:Int)
else none
else none
else none)
theorem aoj (dF) (h40:(rQ dF).holds cl) (x0 x1):exec cl N AP (nf x0 x1) K=(SS dF (fun y0 y1=>K .ret (IG y0 y1)) (fun y0 y1 y2 y3=>exec cl N AO (Rz y0 y1 y2 y3) K) x0 x1):=by
 rw [←aN h40]
 delta AP
 generalize AO=q
 revert q
 refine id ?_
 intro q
 kernel_rfl
def SP (k0:V4→ae→V2→Int→Int→Int→Option R) (x0:V4) (x1:ae) (x2:V2) (x3:Int):Option R:=
k0 x0 x1 x2 x3 (x2.length:Int) (0:Int)
theorem aog (x0 x1 x2 x3):exec cl N N6 (Rz x0 x1 x2 x3) K=(SP (fun y0 y1 y2 y3 y4 y5=>K .normal (fS y0 y1 y2 y3 y4 y5)) x0 x1 x2 x3):=by
 kernel_rfl
theorem KF (x0 x1 x2 x3 x4 x5):aj [1,2,7,8,25,26,27] (fS x0 x1 x2 x3 x4 x5)=(fS x0 x1 x2 x3 x4 x5):=by kernel_rfl
def S0 (k0:V4→ae→V2→Int→Int→Int→Option R) (k1:V4→ae→V2→Int→Int→Int→Option R) (x0:V4) (x1:ae) (x2:V2) (x3 x4 x5:Int):Option R:=
ad (decide (x5 < x4)) (k0 x0 x1 x2 x3 x4 x5) (k1 x0 x1 x2 x3 x4 x5)
theorem aop (x0 x1 x2 x3 x4 x5):exec cl N uJ (fS x0 x1 x2 x3 x4 x5) K=(S0 (fun y0 y1 y2 y3 y4 y5=>exec cl N AR (fS y0 y1 y2 y3 y4 y5) K) (fun y0 y1 y2 y3 y4 y5=>K (.exit 0) (fS y0 y1 y2 y3 y4 y5)) x0 x1 x2 x3 x4 x5):=by
 delta uJ
 generalize AR=q
 revert q
 refine id ?_
 intro q
 kernel_rfl
def SX (k0:V4→ae→V2→Int→Int→Int→Int→Option R) (k1:V4→ae→V2→Int→Int→Int→Int→bm→Int→Int→Option R) (x0:V4) (x1:ae) (x2:V2) (x3 x4 x5:Int):Option R:=
if 0≤x5∧x5 < (x2.length:Int) then
if x5.toNat < x2.length then
ad (!(x2.getD x5.toNat false)) (k0 x0 x1 x2 x3 x5 x4 x5) (k1 x0 x1 x2 x5 x5 x4 x5 x1.2.1 (x1.2.1.length:Int) (0:Int))
else none
else none
theorem aom (x0 x1 x2 x3 x4 x5):exec cl N FN (fS x0 x1 x2 x3 x4 x5) K=(SX (fun y0 y1 y2 y3 y4 y5 y6=>K (.exit 1) (RA y0 y1 y2 y3 y4 y5 y6)) (fun y0 y1 y2 y3 y4 y5 y6 y7 y8 y9=>exec cl N AQ (lK y0 y1 y2 y3 y4 y5 y6 y7 y8 y9) K) x0 x1 x2 x3 x4 x5):=by
 delta FN
 generalize AQ=q
 revert q
 refine id ?_
 intro q
 kernel_rfl
theorem UD (x0 x1 x2 x3 x4 x5 x6 x7 x8 x9):aj [1,2,7,8,9,25,26,27,36,37,38] (lK x0 x1 x2 x3 x4 x5 x6 x7 x8 x9)=(lK x0 x1 x2 x3 x4 x5 x6 x7 x8 x9):=by kernel_rfl
def SQ (aU:V4→V4→Option (Bool)) (k0:V4→ae→V2→Int→Int→Int→Int→bm→Int→Int→Option R) (k1:V4→ae→V2→Int→Int→Int→Int→bm→Int→Int→Option R) (x0:V4) (x1:ae) (x2:V2) (x3 x4 x5 x6:Int) (x7:bm) (x8 x9:Int):Option R:=
ad (decide (x9 < x8)) (if 0≤x9∧x9 < (x7.length:Int) then
if 0≤x4∧x4≤(x0.length:Int)∧(x0.length:Int)≤(x0.length:Int) then
(aU ((x0.drop x4.toNat).take ((x0.length:Int).toNat - x4.toNat)) ((x7.getD x9.toNat ([],([],((0:Int),((0:Int),()))))).1)).bind fun r1426=>
ad r1426 (let v1427:Int:=(IntKind.i64.wrap (x4+(((x7.getD x9.toNat ([],([],((0:Int),((0:Int),()))))).1).length:Int)))
if 0≤v1427∧v1427 < (x2.length:Int) then
if v1427.toNat < x2.length then
k0 x0 x1 (x2.set v1427.toNat true) x3 x4 x5 x6 x7 x8 (IntKind.i64.wrap (x9+(1:Int)))
else none
else none) (k0 x0 x1 x2 x3 x4 x5 x6 x7 x8 (IntKind.i64.wrap (x9+(1:Int))))
else none
else none) (k1 x0 x1 x2 x3 x4 x5 x6 x7 x8 x9)
theorem aoh (aU) (h54:(gx aU).holds cl) (x0 x1 x2 x3 x4 x5 x6 x7 x8 x9):exec cl N FL (lK x0 x1 x2 x3 x4 x5 x6 x7 x8 x9) K=(SQ aU (fun y0 y1 y2 y3 y4 y5 y6 y7 y8 y9=>K .normal (lK y0 y1 y2 y3 y4 y5 y6 y7 y8 y9)) (fun y0 y1 y2 y3 y4 y5 y6 y7 y8 y9=>K (.exit 2) (lK y0 y1 y2 y3 y4 y5 y6 y7 y8 y9)) x0 x1 x2 x3 x4 x5 x6 x7 x8 x9):=by
 rw [←aN h54]
 kernel_rfl
def KQ {R:Type} (aU:V4→V4→Option (Bool)) (k0:V4→ae→V2→Int→Int→Int→Int→bm→Int→Int→Option R):Nat→V4→ae→V2→Int→Int→Int→Int→bm→Int→Int→Option R
 | 0,_,_,_,_,_,_,_,_,_,_=>none
 | m+1,x0,x1,x2,x3,x4,x5,x6,x7,x8,x9=>(SQ aU (KQ aU k0 m) k0 x0 x1 x2 x3 x4 x5 x6 x7 x8 x9)
theorem afn (aU) (h54:(gx aU).holds cl):∀ (m) (x0 x1 x2 x3 x4 x5 x6 x7 x8 x9),iter [1,2,7,8,9,25,26,27,36,37,38] (fun env K=>exec cl N FL env K) K m (lK x0 x1 x2 x3 x4 x5 x6 x7 x8 x9)=KQ aU (fun y0 y1 y2 y3 y4 y5 y6 y7 y8 y9=>K (.exit 2) (lK y0 y1 y2 y3 y4 y5 y6 y7 y8 y9)) m x0 x1 x2 x3 x4 x5 x6 x7 x8 x9:=by
 intro m
 induction m with
 | zero=>intros; rfl
 | succ m ih=>
   intro x0 x1 x2 x3 x4 x5 x6 x7 x8 x9
   simp only [bZ,aoh aU h54,b6,b5,b7,UD,ih]
   rfl
theorem acq (x0 x1 x2 x3 x4 x5 x6 x7 x8 x9):aj [1,2,7,8,25,26,27] (lK x0 x1 x2 x3 x4 x5 x6 x7 x8 x9)=(fS x0 x1 x2 x3 x5 x6):=by kernel_rfl
def SV (N:Nat) (aU:V4→V4→Option (Bool)) (k0:V4→ae→V2→Int→Int→Int→Option R) (x0:V4) (x1:ae) (x2:V2) (x3 x4 x5 x6:Int) (x7:bm) (x8 x9:Int):Option R:=
KQ aU (fun y0 y1 y2 y3 y4 y5 y6 y7 y8 y9=>k0 y0 y1 y2 y3 y5 y6) N x0 x1 x2 x3 x4 x5 x6 x7 x8 x9
theorem aol (aU) (h54:(gx aU).holds cl) (x0 x1 x2 x3 x4 x5 x6 x7 x8 x9):exec cl N FM (lK x0 x1 x2 x3 x4 x5 x6 x7 x8 x9) K=(SV N aU (fun y0 y1 y2 y3 y4 y5=>K (.exit 2) (fS y0 y1 y2 y3 y4 y5)) x0 x1 x2 x3 x4 x5 x6 x7 x8 x9):=by
 simp only [FM,aT,bX,UD,afn aU h54,acq]
 rfl
theorem acr (x0 x1 x2 x3 x4 x5 x6):aj [1,2,7,8,25,26,27] (RA x0 x1 x2 x3 x4 x5 x6)=(fS x0 x1 x2 x3 x5 x6):=by kernel_rfl
def SY (N:Nat) (aU:V4→V4→Option (Bool)) (k0:V4→ae→V2→Int→Int→Int→Option R) (x0:V4) (x1:ae) (x2:V2) (x3 x4 x5:Int):Option R:=
(SX (fun y0 y1 y2 y3 y4 y5 y6=>(k0 y0 y1 y2 y3 y5 y6)) (SV N aU k0) x0 x1 x2 x3 x4 x5)
theorem aon (aU) (h54:(gx aU).holds cl) (x0 x1 x2 x3 x4 x5):exec cl N FO (fS x0 x1 x2 x3 x4 x5) K=(SY N aU (fun y0 y1 y2 y3 y4 y5=>K .normal (fS y0 y1 y2 y3 y4 y5)) x0 x1 x2 x3 x4 x5):=by
 simp only [FO,aT,cx,bY,b9,b8,ca,aom,AQ,aol aU h54,ct,cw,cq,KF,acr]
 rfl
def SZ (k0:V4→ae→V2→Int→Int→Int→Option R) (x0:V4) (x1:ae) (x2:V2) (x3 x4 x5:Int):Option R:=
k0 x0 x1 x2 x3 x4 (IntKind.i64.wrap (x5+(1:Int)))
theorem aoo (x0 x1 x2 x3 x4 x5):exec cl N Oa (fS x0 x1 x2 x3 x4 x5) K=(SZ (fun y0 y1 y2 y3 y4 y5=>K .normal (fS y0 y1 y2 y3 y4 y5)) x0 x1 x2 x3 x4 x5):=by
 kernel_rfl
def S1 (N:Nat) (aU:V4→V4→Option (Bool)) (k0:V4→ae→V2→Int→Int→Int→Option R) (k1:V4→ae→V2→Int→Int→Int→Option R) (x0:V4) (x1:ae) (x2:V2) (x3 x4 x5:Int):Option R:=
(S0 (SY N aU (SZ k0)) k1 x0 x1 x2 x3 x4 x5)
theorem aoq (aU) (h54:(gx aU).holds cl) (x0 x1 x2 x3 x4 x5):exec cl N uJ (fS x0 x1 x2 x3 x4 x5) K=(S1 N aU (fun y0 y1 y2 y3 y4 y5=>K .normal (fS y0 y1 y2 y3 y4 y5)) (fun y0 y1 y2 y3 y4 y5=>K (.exit 0) (fS y0 y1 y2 y3 y4 y5)) x0 x1 x2 x3 x4 x5):=by
 simp only [bY,b9,b8,ca,aop,AR,aon aU h54,aoo]
 rfl
def KR {R:Type} (N:Nat) (aU:V4→V4→Option (Bool)) (k0:V4→ae→V2→Int→Int→Int→Option R):Nat→V4→ae→V2→Int→Int→Int→Option R
 | 0,_,_,_,_,_,_=>none
 | m+1,x0,x1,x2,x3,x4,x5=>(S1 N aU (KR N aU k0 m) k0 x0 x1 x2 x3 x4 x5)
theorem afo (aU) (h54:(gx aU).holds cl):∀ (m) (x0 x1 x2 x3 x4 x5),iter [1,2,7,8,25,26,27] (fun env K=>exec cl N uJ env K) K m (fS x0 x1 x2 x3 x4 x5)=KR N aU (fun y0 y1 y2 y3 y4 y5=>K (.exit 0) (fS y0 y1 y2 y3 y4 y5)) m x0 x1 x2 x3 x4 x5:=by
 intro m
 induction m with
 | zero=>intros; rfl
 | succ m ih=>
   intro x0 x1 x2 x3 x4 x5
   simp only [bZ,aoq aU h54,b6,b5,b7,KF,ih]
   rfl
theorem acs (x0 x1 x2 x3 x4 x5):aj [8] (fS x0 x1 x2 x3 x4 x5)=[(8,.v U2 x3)]:=by kernel_rfl
def S2 (N:Nat) (aU:V4→V4→Option (Bool)) (k0:Int→Option R) (x0:V4) (x1:ae) (x2:V2) (x3 x4 x5:Int):Option R:=
KR N aU (fun y0 y1 y2 y3 y4 y5=>k0 y3) N x0 x1 x2 x3 x4 x5
theorem aor (aU) (h54:(gx aU).holds cl) (x0 x1 x2 x3 x4 x5):exec cl N FP (fS x0 x1 x2 x3 x4 x5) K=(S2 N aU (fun y0=>K (.exit 0) [(8,.v U2 y0)]) x0 x1 x2 x3 x4 x5):=by
 simp only [FP,aT,bX,KF,afo aU h54,acs]
 rfl
theorem acu (x0):aj [8] [(8,.v U2 x0)]=[(8,.v U2 x0)]:=by kernel_rfl
def SR (k0:Int→Int→Option R) (x0:Int):Option R:=
k0 x0 (0:Int)
theorem aoi (x0):exec cl N N9 [(8,.v U2 x0)] K=(SR (fun y0 y1=>K .ret [(4,.v U2 y0),(5,.v U2 y1)]) x0):=by
 kernel_rfl
def SU (N:Nat) (dF:ae→V4→Option (Int)) (aU:V4→V4→Option (Bool)) (k0:Int→Int→Option R) (k1:Int→Int→Option R) (x0:ae) (x1:V4):Option R:=
(SS dF k0 (SP (S2 N aU ((SR k1)))) x0 x1)
theorem aok (dF) (aU) (h40:(rQ dF).holds cl) (h54:(gx aU).holds cl) (x0 x1):exec cl N AP (nf x0 x1) K=(SU N dF aU (fun y0 y1=>K .ret (IG y0 y1)) (fun y0 y1=>K .ret [(4,.v U2 y0),(5,.v U2 y1)]) x0 x1):=by
 simp only [bY,b9,b8,ca,aoj dF h40,AO,N8,aog,N7,aT,cx,aor aU h54,ct,cw,cq,acu,aoi]
 rfl
theorem ai4 (y0 y1):ag d20 .ret (IG y0 y1)=some [.v U2 y0,.v U2 y1]:=by kernel_rfl
theorem ai5 (y0 y1):ag d20 .ret [(4,.v U2 y0),(5,.v U2 y1)]=some [.v U2 y0,.v U2 y1]:=by kernel_rfl
def g20 (N:Nat) (dF:ae→V4→Option (Int)) (aU:V4→V4→Option (Bool)) (x0:ae) (x1:V4) (k:Int→Int→Option R):Option R:=
(SU N dF aU k k x0 x1)
theorem YR (dF) (aU) (h40:(rQ dF).holds cl) (h54:(gx aU).holds cl) (x0 x1) (k:List E→Option R):exec cl N FK (nf x0 x1) (fun e env=>(ag d20 e env).bind k)=g20 N dF aU x0 x1 (fun r0 r1=>k [.v U2 r0,.v U2 r1]):=by
 simp only [FK,aok dF aU h40 h54,ai4,ai5,ar]
 rfl
def H9 (S:ae→V4→Option V1):aQ:=eA 20 ak .str S fun b=> [.v U2 b.1,.v U2 b.2]
def iQ (N:Nat) (x0:ae) (x1:V4):Option V1:=g20 N (dF N) (aU N) x0 x1 (fun (r0:Int) (r1:Int)=>some (r0,r1))
def xN (k0:Bool→Option R) (k1:V0→V0→Option R) (x0 x1:V0):Option R:=
ad ((x0.length:Int) != (x1.length:Int)) (k0 false) (k1 x0 x1)
theorem ap1 (x0 x1):exec cl N Be (kU x0 x1) K=(xN (fun y0=>K .ret (iT y0)) (fun y0 y1=>exec cl N Bd (ng y0 y1) K) x0 x1):=by
 delta Be
 generalize Bd=q
 revert q
 refine id ?_
 intro q
 kernel_rfl
def xJ (k0:V0→V0→Int→Option R) (x0 x1:V0):Option R:=
k0 x0 x1 (0:Int)
theorem apX (x0 x1):exec cl N Pt (ng x0 x1) K=(xJ (fun y0 y1 y2=>K .normal (lL y0 y1 y2)) x0 x1):=by
 kernel_rfl
theorem UR (x0 x1 x2):aj [0,1,5] (lL x0 x1 x2)=(lL x0 x1 x2):=by kernel_rfl
def xK (k0:Bool→Option R) (k1:V0→V0→Int→Option R) (k2:V0→V0→Int→Option R) (x0 x1:V0) (x2:Int):Option R:=
ad (decide (x2 < (x0.length:Int))) (if 0≤x2∧x2 < (x0.length:Int) then
if 0≤x2∧x2 < (x1.length:Int) then
ad ((x0.getD x2.toNat (0:Int)) != (x1.getD x2.toNat (0:Int))) (k0 false) (k1 x0 x1 (IntKind.i64.wrap (x2+(1:Int))))
else none
else none) (k2 x0 x1 x2)
theorem apY (x0 x1 x2):exec cl N GJ (lL x0 x1 x2) K=(xK (fun y0=>K .ret (kp y0)) (fun y0 y1 y2=>K .normal (lL y0 y1 y2)) (fun y0 y1 y2=>K (.exit 0) (lL y0 y1 y2)) x0 x1 x2):=by
 kernel_rfl
def tt {R:Type} (k0:Bool→Option R) (k1:V0→V0→Int→Option R):Nat→V0→V0→Int→Option R
 | 0,_,_,_=>none
 | m+1,x0,x1,x2=>(xK k0 (tt k0 k1 m) k1 x0 x1 x2)
theorem afF:∀ (m) (x0 x1 x2),iter [0,1,5] (fun env K=>exec cl N GJ env K) K m (lL x0 x1 x2)=tt (fun y0=>K .ret (kp y0)) (fun y0 y1 y2=>K (.exit 0) (lL y0 y1 y2)) m x0 x1 x2:=by
 intro m
 induction m with
 | zero=>intros; rfl
 | succ m ih=>
   intro x0 x1 x2
   simp only [bZ,apY,b6,b5,b7,UR,ih]
   rfl
theorem ac9 (x0):aj [4] (kp x0)=[(4,.v .bool x0)]:=by kernel_rfl
theorem ada (x0 x1 x2):aj [4] (lL x0 x1 x2)=[(4,.dead)]:=by kernel_rfl
def xL (N:Nat) (k0:Bool→Option R) (k1:Option R) (x0 x1:V0) (x2:Int):Option R:=
tt k0 (fun y0 y1 y2=>k1) N x0 x1 x2
theorem apZ (x0 x1 x2):exec cl N GK (lL x0 x1 x2) K=(xL N (fun y0=>K .ret [(4,.v .bool y0)]) (K (.exit 0) [(4,.dead)]) x0 x1 x2):=by
 simp only [GK,aT,bX,UR,afF,ac9,ada]
 rfl
theorem adb (x0):aj [4] [(4,.v .bool x0)]=[(4,.v .bool x0)]:=by kernel_rfl
theorem ade:aj [4] [(4,.dead)]=[(4,.dead)]:=by kernel_rfl
def xM (k0:Bool→Option R):Option R:=
k0 true
theorem ap0:exec cl N Pw [(4,.dead)] K=(xM (fun y0=>K .ret [(4,.v .bool y0)])):=by
 kernel_rfl
def xO (N:Nat) (k0:Bool→Option R) (k1:Bool→Option R) (x0 x1:V0):Option R:=
(xN k0 (xJ (xL N k1 (xM k1))) x0 x1)
theorem ap2 (x0 x1):exec cl N Be (kU x0 x1) K=(xO N (fun y0=>K .ret (iT y0)) (fun y0=>K .ret [(4,.v .bool y0)]) x0 x1):=by
 simp only [bY,b9,b8,ca,ap1,Bd,Pv,apX,Pu,aT,cx,apZ,ct,cw,cq,adb,ade,ap0]
 rfl
theorem ajx (y0):ag d53 .ret (iT y0)=some [.v .bool y0]:=by kernel_rfl
theorem ajy (y0):ag d53 .ret [(4,.v .bool y0)]=some [.v .bool y0]:=by kernel_rfl
def sL (N:Nat) (x0 x1:V0) (k:Bool→Option R):Option R:=
(xO N k k x0 x1)
theorem Y8 (x0 x1) (k:List E→Option R):exec cl N GI (kU x0 x1) (fun e env=>(ag d53 e env).bind k)=sL N x0 x1 (fun r0=>k [.v .bool r0]):=by
 simp only [GI,ap2,ajx,ajy,ar]
 rfl
def kQ (S:V0→V0→Option (Bool)):aQ:=eA 53 U5 U5 S fun b=> [.v .bool b]
def bA (N:Nat) (x0:V0) (x1:V0):Option (Bool):=sL N x0 x1 (fun (r0:Bool)=>some (r0))
def SN (k0:Bool→Option R) (k1:V7→V7→Option R) (x0 x1:V7):Option R:=
ad ((x0.length:Int) != (x1.length:Int)) (k0 false) (k1 x0 x1)
theorem aoe (x0 x1):exec cl N AN [(0,.v U7 x0),(1,.v U7 x1)] K=(SN (fun y0=>K .ret (iT y0)) (fun y0 y1=>exec cl N AM [(0,.v U7 y0),(1,.v U7 y1),(4,.dead)] K) x0 x1):=by
 delta AN
 generalize AM=q
 revert q
 refine id ?_
 intro q
 kernel_rfl
def SJ (k0:V7→V7→Int→Option R) (x0 x1:V7):Option R:=
k0 x0 x1 (0:Int)
theorem aoa (x0 x1):exec cl N N2 [(0,.v U7 x0),(1,.v U7 x1),(4,.dead)] K=(SJ (fun y0 y1 y2=>K .normal (lM y0 y1 y2)) x0 x1):=by
 kernel_rfl
theorem UC (x0 x1 x2):aj [0,1,5] (lM x0 x1 x2)=(lM x0 x1 x2):=by kernel_rfl
def SK (bA:V0→V0→Option (Bool)) (k0:Bool→Option R) (k1:V7→V7→Int→Option R) (k2:V7→V7→Int→Option R) (x0 x1:V7) (x2:Int):Option R:=
ad (decide (x2 < (x0.length:Int))) (if 0≤x2∧x2 < (x0.length:Int) then
if 0≤x2∧x2 < (x1.length:Int) then
(bA (x0.getD x2.toNat []) (x1.getD x2.toNat [])).bind fun r1453=>
ad (!r1453) (k0 false) (k1 x0 x1 (IntKind.i64.wrap (x2+(1:Int))))
else none
else none) (k2 x0 x1 x2)
theorem aob (bA) (h53:(kQ bA).holds cl) (x0 x1 x2):exec cl N FI (lM x0 x1 x2) K=(SK bA (fun y0=>K .ret (kp y0)) (fun y0 y1 y2=>K .normal (lM y0 y1 y2)) (fun y0 y1 y2=>K (.exit 0) (lM y0 y1 y2)) x0 x1 x2):=by
 rw [←aN h53]
 kernel_rfl
def KP {R:Type} (bA:V0→V0→Option (Bool)) (k0:Bool→Option R) (k1:V7→V7→Int→Option R):Nat→V7→V7→Int→Option R
 | 0,_,_,_=>none
 | m+1,x0,x1,x2=>(SK bA k0 (KP bA k0 k1 m) k1 x0 x1 x2)
theorem afm (bA) (h53:(kQ bA).holds cl):∀ (m) (x0 x1 x2),iter [0,1,5] (fun env K=>exec cl N FI env K) K m (lM x0 x1 x2)=KP bA (fun y0=>K .ret (kp y0)) (fun y0 y1 y2=>K (.exit 0) (lM y0 y1 y2)) m x0 x1 x2:=by
 intro m
 induction m with
 | zero=>intros; rfl
 | succ m ih=>
   intro x0 x1 x2
   simp only [bZ,aob bA h53,b6,b5,b7,UC,ih]
   rfl
theorem acm (x0):aj [4] (kp x0)=[(4,.v .bool x0)]:=by kernel_rfl
theorem acn (x0 x1 x2):aj [4] (lM x0 x1 x2)=[(4,.dead)]:=by kernel_rfl
def SL (N:Nat) (bA:V0→V0→Option (Bool)) (k0:Bool→Option R) (k1:Option R) (x0 x1:V7) (x2:Int):Option R:=
KP bA k0 (fun y0 y1 y2=>k1) N x0 x1 x2
theorem aoc (bA) (h53:(kQ bA).holds cl) (x0 x1 x2):exec cl N FJ (lM x0 x1 x2) K=(SL N bA (fun y0=>K .ret [(4,.v .bool y0)]) (K (.exit 0) [(4,.dead)]) x0 x1 x2):=by
 simp only [FJ,aT,bX,UC,afm bA h53,acm,acn]
 rfl
theorem aco (x0):aj [4] [(4,.v .bool x0)]=[(4,.v .bool x0)]:=by kernel_rfl
theorem acp:aj [4] [(4,.dead)]=[(4,.dead)]:=by kernel_rfl
def SM (k0:Bool→Option R):Option R:=
k0 true
theorem aod:exec cl N N5 [(4,.dead)] K=(SM (fun y0=>K .ret [(4,.v .bool y0)])):=by
 kernel_rfl
def SO (N:Nat) (bA:V0→V0→Option (Bool)) (k0:Bool→Option R) (k1:Bool→Option R) (x0 x1:V7):Option R:=
(SN k0 (SJ (SL N bA k1 (SM k1))) x0 x1)
theorem aof (bA) (h53:(kQ bA).holds cl) (x0 x1):exec cl N AN [(0,.v U7 x0),(1,.v U7 x1)] K=(SO N bA (fun y0=>K .ret (iT y0)) (fun y0=>K .ret [(4,.v .bool y0)]) x0 x1):=by
 simp only [bY,b9,b8,ca,aoe,AM,N4,aoa,N3,aT,cx,aoc bA h53,ct,cw,cq,aco,acp,aod]
 rfl
theorem ai2 (y0):ag d19 .ret (iT y0)=some [.v .bool y0]:=by kernel_rfl
theorem ai3 (y0):ag d19 .ret [(4,.v .bool y0)]=some [.v .bool y0]:=by kernel_rfl
def g19 (N:Nat) (bA:V0→V0→Option (Bool)) (x0 x1:V7) (k:Bool→Option R):Option R:=
(SO N bA k k x0 x1)
theorem YQ (bA) (h53:(kQ bA).holds cl) (x0 x1) (k:List E→Option R):exec cl N FH [(0,.v U7 x0),(1,.v U7 x1)] (fun e env=>(ag d19 e env).bind k)=g19 N bA x0 x1 (fun r0=>k [.v .bool r0]):=by
 simp only [FH,aof bA h53,ai2,ai3,ar]
 rfl
def H8 (S:V7→V7→Option (Bool)):aQ:=eA 19 U7 U7 S fun b=> [.v .bool b]
def iP (N:Nat) (x0:V7) (x1:V7):Option (Bool):=g19 N (bA N) x0 x1 (fun (r0:Bool)=>some (r0))
def wQ (k0:Bool→Option R) (k1:V0→V0→Option R) (x0 x1:V0):Option R:=
ad ((x0.length:Int) != (x1.length:Int)) (k0 false) (k1 x0 x1)
theorem an1 (x0 x1):exec cl N AL (kU x0 x1) K=(wQ (fun y0=>K .ret (iT y0)) (fun y0 y1=>exec cl N AK (ng y0 y1) K) x0 x1):=by
 delta AL
 generalize AK=q
 revert q
 refine id ?_
 intro q
 kernel_rfl
def wM (k0:V0→V0→Int→Int→Option R) (x0 x1:V0):Option R:=
k0 x0 x1 (x0.length:Int) (0:Int)
theorem anX (x0 x1):exec cl N NR (ng x0 x1) K=(wM (fun y0 y1 y2 y3=>K .normal (lN y0 y1 y2 y3)) x0 x1):=by
 kernel_rfl
theorem UB (x0 x1 x2 x3):aj [0,1,12,13] (lN x0 x1 x2 x3)=(lN x0 x1 x2 x3):=by kernel_rfl
def wN (k0:Bool→Option R) (k1:V0→V0→Int→Int→Option R) (k2:V0→V0→Int→Int→Option R) (x0 x1:V0) (x2 x3:Int):Option R:=
ad (decide (x3 < x2)) (if 0≤x3∧x3 < (x0.length:Int) then
if 0≤x3∧x3 < (x1.length:Int) then
ad ((x0.getD x3.toNat (0:Int)) != (x1.getD x3.toNat (0:Int))) (k0 false) (k1 x0 x1 x2 (IntKind.i64.wrap (x3+(1:Int))))
else none
else none) (k2 x0 x1 x2 x3)
theorem anY (x0 x1 x2 x3):exec cl N Fy (lN x0 x1 x2 x3) K=(wN (fun y0=>K .ret (r9 y0)) (fun y0 y1 y2 y3=>K .normal (lN y0 y1 y2 y3)) (fun y0 y1 y2 y3=>K (.exit 0) (lN y0 y1 y2 y3)) x0 x1 x2 x3):=by
 kernel_rfl
def tg {R:Type} (k0:Bool→Option R) (k1:V0→V0→Int→Int→Option R):Nat→V0→V0→Int→Int→Option R
 | 0,_,_,_,_=>none
 | m+1,x0,x1,x2,x3=>(wN k0 (tg k0 k1 m) k1 x0 x1 x2 x3)
theorem afk:∀ (m) (x0 x1 x2 x3),iter [0,1,12,13] (fun env K=>exec cl N Fy env K) K m (lN x0 x1 x2 x3)=tg (fun y0=>K .ret (r9 y0)) (fun y0 y1 y2 y3=>K (.exit 0) (lN y0 y1 y2 y3)) m x0 x1 x2 x3:=by
 intro m
 induction m with
 | zero=>intros; rfl
 | succ m ih=>
   intro x0 x1 x2 x3
   simp only [bZ,anY,b6,b5,b7,UB,ih]
   rfl
theorem aca (x0):aj [4] (r9 x0)=[(4,.v .bool x0)]:=by kernel_rfl
theorem acb (x0 x1 x2 x3):aj [4] (lN x0 x1 x2 x3)=[(4,.dead)]:=by kernel_rfl
def wO (N:Nat) (k0:Bool→Option R) (k1:Option R) (x0 x1:V0) (x2 x3:Int):Option R:=
tg k0 (fun y0 y1 y2 y3=>k1) N x0 x1 x2 x3
theorem anZ (x0 x1 x2 x3):exec cl N FA (lN x0 x1 x2 x3) K=(wO N (fun y0=>K .ret [(4,.v .bool y0)]) (K (.exit 0) [(4,.dead)]) x0 x1 x2 x3):=by
 simp only [FA,aT,bX,UB,afk,aca,acb]
 rfl
theorem acd (x0):aj [4] [(4,.v .bool x0)]=[(4,.v .bool x0)]:=by kernel_rfl
theorem ace:aj [4] [(4,.dead)]=[(4,.dead)]:=by kernel_rfl
def wP (k0:Bool→Option R):Option R:=
k0 true
theorem an0:exec cl N NU [(4,.dead)] K=(wP (fun y0=>K .ret [(4,.v .bool y0)])):=by
 kernel_rfl
def wR (N:Nat) (k0:Bool→Option R) (k1:Bool→Option R) (x0 x1:V0):Option R:=
(wQ k0 (wM (wO N k1 (wP k1))) x0 x1)
theorem an2 (x0 x1):exec cl N AL (kU x0 x1) K=(wR N (fun y0=>K .ret (iT y0)) (fun y0=>K .ret [(4,.v .bool y0)]) x0 x1):=by
 simp only [bY,b9,b8,ca,an1,AK,NT,anX,NS,aT,cx,anZ,ct,cw,cq,acd,ace,an0]
 rfl
theorem aiW (y0):ag d15 .ret (iT y0)=some [.v .bool y0]:=by kernel_rfl
theorem aiX (y0):ag d15 .ret [(4,.v .bool y0)]=some [.v .bool y0]:=by kernel_rfl
def g15 (N:Nat) (x0 x1:V0) (k:Bool→Option R):Option R:=
(wR N k k x0 x1)
theorem YF (x0 x1) (k:List E→Option R):exec cl N Fi (kU x0 x1) (fun e env=>(ag d15 e env).bind k)=g15 N x0 x1 (fun r0=>k [.v .bool r0]):=by
 simp only [Fi,an2,aiW,aiX,ar]
 rfl
def HZ (S:V0→V0→Option (Bool)):aQ:=eA 15 U5 U5 S fun b=> [.v .bool b]
def gM (N:Nat) (x0:V0) (x1:V0):Option (Bool):=g15 N x0 x1 (fun (r0:Bool)=>some (r0))
def Jr (cW:ae→V4→Option oX) (gM:V0→V0→Option (Bool)) (cg:ae→V4→Option mT) (iP:V7→V7→Option (Bool)) (iQ:ae→V4→Option V1) (gN:ae→V0→Option V8) (dy:Option gr) (k0:Bool→Option R) (k1:Bool→Option R):Option R:=
(dy).bind fun r1467=>
(cg r1467 ([97,114,109,97]:List UInt8)).bind fun r1468=>
(cg r1467 ([116,114,111,105,97,101]:List UInt8)).bind fun r1469=>
(cW r1467 ([105,97,109]:List UInt8)).bind fun r1470=>
(gN r1467 [(38:Int),(40:Int),(3:Int),(23:Int),(18:Int)]).bind fun r1471=>
(iQ r1467 ([97,114,109,113]:List UInt8)).bind fun r1472=>
ad (r1468.2 != (0:Int)) (k0 false) (ad (r1469.2 != (0:Int)) (k0 false) (ad (r1470.2.2 != (0:Int)) (k0 false) (ad (r1471.2 != (0:Int)) (k0 false) (ad (r1472.2 != (0:Int)) (k0 false) (ad (r1472.1 != (3:Int)) (k0 false) (ad (r1470.2.1 != (1:Int)) (k0 false) ((iP r1468.1 [[(0:Int),(40:Int),(41:Int),(0:Int)]]).bind fun r1480=>
ad r1480 ((iP r1469.1 [[(38:Int),(40:Int),(3:Int),(23:Int),(18:Int)],[(38:Int),(40:Int),(3:Int),(2:Int),(18:Int)],[(38:Int),(40:Int),(3:Int),(23:Int),(0:Int),(1:Int)],[(38:Int),(40:Int),(3:Int),(2:Int),(0:Int),(1:Int)]]).bind fun r1481=>
ad r1481 ((gM r1470.1 [(22:Int),(0:Int),(41:Int)]).bind fun r1482=>
ad r1482 ((gM r1471.1 [(0:Int),(1:Int),(2:Int),(3:Int),(3:Int),(4:Int)]).bind fun r1483=>
k1 r1483) (k1 false)) (k1 false)) (k1 false))))))))
theorem amC (cW) (gM) (cg) (iP) (iQ) (gN) (dy) (h13:(rL cW).holds cl) (h15:(HZ gM).holds cl) (h16:(nT cg).holds cl) (h19:(H8 iP).holds cl) (h20:(H9 iQ).holds cl) (h24:(Ia gN).holds cl) (h37:(pb dy).holds cl):exec cl N MN [] K=(Jr cW gM cg iP iQ gN dy (fun y0=>K .ret (RB y0)) (fun y0=>K .ret [(0,.v .bool y0)])):=by
 rw [←aN h13]
 rw [←aN h15]
 rw [←aN h16]
 rw [←aN h19]
 rw [←aN h20]
 rw [←aN h24]
 rw [←aN h37]
 kernel_rfl
theorem aih (y0):ag d11 .ret (RB y0)=some [.v .bool y0]:=by kernel_rfl
theorem aii (y0):ag d11 .ret [(0,.v .bool y0)]=some [.v .bool y0]:=by kernel_rfl
def g11 (cW:ae→V4→Option oX) (gM:V0→V0→Option (Bool)) (cg:ae→V4→Option mT) (iP:V7→V7→Option (Bool)) (iQ:ae→V4→Option V1) (gN:ae→V0→Option V8) (dy:Option gr) (k:Bool→Option R):Option R:=
(Jr cW gM cg iP iQ gN dy k k)
theorem Yc (cW) (gM) (cg) (iP) (iQ) (gN) (dy) (h13:(rL cW).holds cl) (h15:(HZ gM).holds cl) (h16:(nT cg).holds cl) (h19:(H8 iP).holds cl) (h20:(H9 iQ).holds cl) (h24:(Ia gN).holds cl) (h37:(pb dy).holds cl) (k:List E→Option R):exec cl N Ee [] (fun e env=>(ag d11 e env).bind k)=g11 cW gM cg iP iQ gN dy (fun r0=>k [.v .bool r0]):=by
 simp only [Ee,amC cW gM cg iP iQ gN dy h13 h15 h16 h19 h20 h24 h37,aih,aii,ar]
 rfl
def uU (S:Option (Bool)):aQ:={A:=Unit,B:=Bool,f:=11,enc:=fun a=> [],dec:=ck,S:=fun a=>S,av:=fun b=> [.v .bool b],ok:=(fun es b h=>ir h)}
def eG (N:Nat):Option (Bool):=g11 (cW N) (gM N) (cg N) (iP N) (iQ N) (gN N) (dy N) (fun (r0:Bool)=>some (r0))
def S4 (eO:V4→Option rn) (k0:ae→Option R):Option R:=
(eO ([111,114,116,104,111,103,114,97,112,104,121,32,103,114,101,101,107,10,97,32,97,47,118,51,32,49,32,97,110,121,119,104,101,114,101,10,105,32,105,47,118,51,32,49,32,97,110,121,119,104,101,114,101,10,117,32,117,47,118,51,32,49,32,97,110,121,119,104,101,114,101,10,97,95,32,97,95,47,118,50,32,49,32,97,110,121,119,104,101,114,101,10,105,95,32,105,95,47,118,50,32,49,32,97,110,121,119,104,101,114,101,10,117,95,32,117,95,47,118,50,32,49,32,97,110,121,119,104,101,114,101,10,97,94,32,97,94,47,118,49,32,49,32,97,110,121,119,104,101,114,101,10,105,94,32,105,94,47,118,49,32,49,32,97,110,121,119,104,101,114,101,10,117,94,32,117,94,47,118,49,32,49,32,97,110,121,119,104,101,114,101,10,101,32,101,47,118,49,32,49,32,97,110,121,119,104,101,114,101,10,111,32,111,47,118,49,32,49,32,97,110,121,119,104,101,114,101,10,101,95,32,101,95,47,118,50,32,49,32,97,110,121,119,104,101,114,101,10,111,95,32,111,95,47,118,50,32,49,32,97,110,121,119,104,101,114,101,10,97,105,32,97,105,47,100,50,32,49,32,97,110,121,119,104,101,114,101,10,97,117,32,97,117,47,100,50,32,49,32,97,110,121,119,104,101,114,101,10,101,105,32,101,105,47,100,50,32,49,32,97,110,121,119,104,101,114,101,10,101,117,32,101,117,47,100,50,32,49,32,97,110,121,119,104,101,114,101,10,111,105,32,111,105,47,100,50,32,49,32,97,110,121,119,104,101,114,101,10,111,117,32,111,117,47,100,50,32,49,32,97,110,121,119,104,101,114,101,10,117,105,32,117,105,47,100,50,32,49,32,97,110,121,119,104,101,114,101,10,112,104,32,112,104,47,109,32,48,32,97,110,121,119,104,101,114,101,10,116,104,32,116,104,47,109,32,48,32,97,110,121,119,104,101,114,101,10,107,104,32,107,104,47,109,32,48,32,97,110,121,119,104,101,114,101,10,112,32,112,47,109,32,48,32,97,110,121,119,104,101,114,101,10,116,32,116,47,109,32,48,32,97,110,121,119,104,101,114,101,10,107,32,107,47,109,32,48,32,97,110,121,119,104,101,114,101,10,98,32,98,47,109,32,48,32,97,110,121,119,104,101,114,101,10,100,32,100,47,109,32,48,32,97,110,121,119,104,101,114,101,10,103,32,103,47,109,32,48,32,97,110,121,119,104,101,114,101,10,114,104,32,114,104,47,108,32,48,32,97,110,121,119,104,101,114,101,10,108,32,108,47,108,32,48,32,97,110,121,119,104,101,114,101,10,114,32,114,47,108,32,48,32,97,110,121,119,104,101,114,101,10,109,32,109,47,110,32,48,32,97,110,121,119,104,101,114,101,10,110,32,110,47,110,32,48,32,97,110,121,119,104,101,114,101,10,115,32,115,47,115,32,48,32,97,110,121,119,104,101,114,101,10,112,115,32,112,115,47,120,32,48,32,97,110,121,119,104,101,114,101,10,107,115,32,107,115,47,120,32,48,32,97,110,121,119,104,101,114,101,10,120,32,120,47,120,32,48,32,97,110,121,119,104,101,114,101,10,122,32,122,47,120,32,48,32,97,110,121,119,104,101,114,101,10,104,32,104,47,98,32,48,32,115,116,97,114,116,10]:List UInt8)).bind fun r1498=>
k0 r1498.1
theorem aqh (eO) (h69:(uY eO).holds cl):exec cl N PK [] K=(S4 eO (fun y0=>K .ret [(0,.loc ak .no y0)])):=by
 rw [←aN h69]
 kernel_rfl
theorem ajI (y0):ag d64 .ret [(0,.loc ak .no y0)]=some [.v ak y0]:=by kernel_rfl
def J3 (eO:V4→Option rn) (k:ae→Option R):Option R:=
(S4 eO k)
theorem Zc (eO) (h69:(uY eO).holds cl) (k:List E→Option R):exec cl N GU [] (fun e env=>(ag d64 e env).bind k)=J3 eO (fun r0=>k [.v ak r0]):=by
 simp only [GU,aqh eO h69,ajI,ar]
 rfl
def uX (S:Option gr):aQ:={A:=Unit,B:=ae,f:=64,enc:=fun a=> [],dec:=ck,S:=fun a=>S,av:=fun b=> [.v ak b],ok:=(fun es b h=>ir h)}
def fp (N:Nat):Option gr:=J3 (eO N) (fun (r0:ae)=>some (r0))
def JQ (dM:ae→Option V1) (k0:Int→Option R) (x0:ae):Option R:=
(dM x0).bind fun r1529=>
k0 r1529.2
theorem apg (dM) (h67:(rT dM).holds cl) (x0):exec cl N O0 [(0,.v ak x0)] K=(JQ dM (fun y0=>K .ret [(2,.v U2 y0)]) x0):=by
 rw [←aN h67]
 kernel_rfl
theorem ajg (y0):ag d35 .ret [(2,.v U2 y0)]=some [.v U2 y0]:=by kernel_rfl
def CJ (dM:ae→Option V1) (x0:ae) (k:Int→Option R):Option R:=
(JQ dM k x0)
theorem YY (dM) (h67:(rT dM).holds cl) (x0) (k:List E→Option R):exec cl N Gg [(0,.v ak x0)] (fun e env=>(ag d35 e env).bind k)=CJ dM x0 (fun r0=>k [.v U2 r0]):=by
 simp only [Gg,apg dM h67,ajg,ar]
 rfl
def nc (S:ae→Option (Int)):aQ:=cG 35 ak S fun b=> [.v U2 b]
def bK (N:Nat) (x0:ae):Option (Int):=CJ (dM N) x0 (fun (r0:Int)=>some (r0))
def jw (dy:Option gr) (fp:Option gr) (k0:dT→ae→ae→Option R) (x0:dT):Option R:=
(dy).bind fun r1534=>
ad ((mM x0.1 (2:Int))==(1:Int)) ((fp).bind fun r1537=>
k0 x0 ([],([],())) r1537) (k0 x0 ([],([],())) r1534)
theorem aoU (dy) (fp) (h37:(pb dy).holds cl) (h64:(uX fp).holds cl) (x0):exec cl N AY [(0,.v fx x0)] K=(jw dy fp (fun y0 y1 y2=>exec cl N AX (pn y0 y1 y2) K) x0):=by
 rw [←aN h37]
 rw [←aN h64]
 delta AY
 generalize AX=q
 revert q
 refine id ?_
 intro q
 kernel_rfl
def jt (k0:dT→ae→ae→Int→Option R) (x0:dT) (x1 x2:ae):Option R:=
k0 x0 x1 x2 (0:Int)
theorem aoR (x0 x1 x2):exec cl N OE (pn x0 x1 x2) K=(jt (fun y0 y1 y2 y3=>K .normal (lO y0 y1 y2 y3)) x0 x1 x2):=by
 kernel_rfl
theorem UH (x0 x1 x2 x3):aj [1,2,3,4] (lO x0 x1 x2 x3)=(lO x0 x1 x2 x3):=by kernel_rfl
def ju (k0:dT→ae→ae→Int→Option R) (k1:dT→ae→ae→Int→Option R) (x0:dT) (x1 x2:ae) (x3:Int):Option R:=
ad (decide (x3 < (x0.2.1.length:Int))) (ad (decide (x3 < (20:Int))) (if 0≤x3∧x3 < (x0.2.1.length:Int) then
if (x2.2.1.length:Int)=0 then none else
let v1541:Int:=(mM (IntKind.i64.wrap (x0.2.1.getD x3.toNat (0:Int))) (x2.2.1.length:Int))
if 0≤v1541∧v1541 < (x2.2.1.length:Int) then
ad ((x2.2.1.getD v1541.toNat ([],([],((0:Int),((0:Int),()))))).1==([97]:List UInt8)) (k0 x0 x1 x2 (IntKind.i64.wrap (x3+(1:Int)))) (ad ((x2.2.1.getD v1541.toNat ([],([],((0:Int),((0:Int),()))))).1==([101]:List UInt8)) (k0 x0 x1 x2 (IntKind.i64.wrap (x3+(1:Int)))) (ad ((x2.2.1.getD v1541.toNat ([],([],((0:Int),((0:Int),()))))).1==([114]:List UInt8)) (k0 x0 x1 x2 (IntKind.i64.wrap (x3+(1:Int)))) (ad ((x2.2.1.getD v1541.toNat ([],([],((0:Int),((0:Int),()))))).1==([116]:List UInt8)) (k0 x0 x1 x2 (IntKind.i64.wrap (x3+(1:Int)))) (ad (decide ((x2.2.1.length:Int) < (8:Int))) (k0 x0 x1 x2 (IntKind.i64.wrap (x3+(1:Int)))) (if 0≤(0:Int)∧(0:Int)≤v1541∧v1541≤(x2.2.1.length:Int)∧(x2.2.1.length:Int)≤(x2.2.1.length:Int) then
let v1552:bm:=((x2.2.1.drop (0:Int).toNat).take (v1541.toNat - (0:Int).toNat))
if ([]:List aS).length+v1552.length≤2513169434916 then
let v1553:Int:=(IntKind.i64.wrap (v1541+(1:Int)))
if 0≤v1553∧v1553≤(x2.2.1.length:Int)∧(x2.2.1.length:Int)≤(x2.2.1.length:Int)∧(x2.2.1.length:Int)≤(x2.2.1.length:Int) then
let v1554:bm:=((x2.2.1.drop v1553.toNat).take ((x2.2.1.length:Int).toNat - v1553.toNat))
if (([]:List aS)++v1552).length+v1554.length≤2513169434916 then
k0 x0 x1 (x2.1,(((([]:List aS)++v1552)++v1554),x2.2.2)) (IntKind.i64.wrap (x3+(1:Int)))
else none
else none
else none
else none)))))
else none
else none) (k1 x0 x1 x2 x3)) (k1 x0 x1 x2 x3)
theorem aoS (x0 x1 x2 x3):exec cl N F3 (lO x0 x1 x2 x3) K=(ju (fun y0 y1 y2 y3=>K .normal (lO y0 y1 y2 y3)) (fun y0 y1 y2 y3=>K (.exit 0) (lO y0 y1 y2 y3)) x0 x1 x2 x3):=by
 kernel_rfl
def iw {R:Type} (k0:dT→ae→ae→Int→Option R):Nat→dT→ae→ae→Int→Option R
 | 0,_,_,_,_=>none
 | m+1,x0,x1,x2,x3=>(ju (iw k0 m) k0 x0 x1 x2 x3)
theorem afu:∀ (m) (x0 x1 x2 x3),iter [1,2,3,4] (fun env K=>exec cl N F3 env K) K m (lO x0 x1 x2 x3)=iw (fun y0 y1 y2 y3=>K (.exit 0) (lO y0 y1 y2 y3)) m x0 x1 x2 x3:=by
 intro m
 induction m with
 | zero=>intros; rfl
 | succ m ih=>
   intro x0 x1 x2 x3
   simp only [bZ,aoS,b6,b5,b7,UH,ih]
   rfl
theorem acH (x0 x1 x2 x3):aj [1,2,3] (lO x0 x1 x2 x3)=(pn x0 x1 x2):=by kernel_rfl
def jy (N:Nat) (k0:dT→ae→ae→Option R) (x0:dT) (x1 x2:ae) (x3:Int):Option R:=
iw (fun y0 y1 y2 y3=>k0 y0 y1 y2) N x0 x1 x2 x3
theorem aoW (x0 x1 x2 x3):exec cl N F4 (lO x0 x1 x2 x3) K=(jy N (fun y0 y1 y2=>K (.exit 0) (pn y0 y1 y2)) x0 x1 x2 x3):=by
 simp only [F4,aT,bX,UH,afu,acH]
 rfl
theorem acI (x0 x1 x2):aj [1,2,3] (pn x0 x1 x2)=(pn x0 x1 x2):=by kernel_rfl
def jz (k0:dT→ae→ae→Int→Option R) (x0:dT) (x1 x2:ae):Option R:=
k0 x0 x1 x2 (0:Int)
theorem aoX (x0 x1 x2):exec cl N OJ (pn x0 x1 x2) K=(jz (fun y0 y1 y2 y3=>K .normal (lP y0 y1 y2 y3)) x0 x1 x2):=by
 kernel_rfl
theorem UI (x0 x1 x2 x3):aj [1,2,3,7] (lP x0 x1 x2 x3)=(lP x0 x1 x2 x3):=by kernel_rfl
def jA (bK:ae→Option (Int)) (k0:dT→ae→ae→Int→Option R) (k1:dT→ae→ae→Int→Option R) (x0:dT) (x1 x2:ae) (x3:Int):Option R:=
ad (decide (x3 < (x0.2.2.1.length:Int))) (ad (decide (x3 < (6:Int))) (if 0≤x3∧x3 < (x0.2.2.1.length:Int) then
if (x2.2.1.length:Int)=0 then none else
let v1559:Int:=(mM (IntKind.i64.wrap (x0.2.2.1.getD x3.toNat (0:Int))) (x2.2.1.length:Int))
if 0≤v1559∧v1559 < (x2.2.1.length:Int) then
if 0≤x3∧x3 < (x0.2.2.1.length:Int) then
let v1562:Int:=(mM (IntKind.i64.wrap (IntKind.u8.wrap (Int.tdiv (x0.2.2.1.getD x3.toNat (0:Int)) (16:Int)))) (5:Int))
if 0≤x3∧x3 < (x0.2.2.1.length:Int) then
let v1564:Int:=(mM (IntKind.i64.wrap (x0.2.2.1.getD x3.toNat (0:Int))) (5:Int))
if ([]:List aS).length+x2.2.1.length≤2513169434916 then
if (([]:List aS)++x2.2.1).length+[((x2.2.1.getD v1559.toNat ([],([],((0:Int),((0:Int),()))))).1,((x2.2.1.getD v1559.toNat ([],([],((0:Int),((0:Int),()))))).2.1,(v1564,(v1562,(x2.2.1.getD v1559.toNat ([],([],((0:Int),((0:Int),()))))).2.2.2.2))))].length≤2513169434916 then
let v1565:ae:=(x2.1,((([]:List aS)++x2.2.1)++[((x2.2.1.getD v1559.toNat ([],([],((0:Int),((0:Int),()))))).1,((x2.2.1.getD v1559.toNat ([],([],((0:Int),((0:Int),()))))).2.1,(v1564,(v1562,(x2.2.1.getD v1559.toNat ([],([],((0:Int),((0:Int),()))))).2.2.2.2))))]),())
(bK v1565).bind fun r1566=>
ad (r1566==(0:Int)) (k0 x0 x1 v1565 (IntKind.i64.wrap (x3+(1:Int)))) (k0 x0 x1 x2 (IntKind.i64.wrap (x3+(1:Int))))
else none
else none
else none
else none
else none
else none) (k1 x0 x1 x2 x3)) (k1 x0 x1 x2 x3)
theorem aoY (bK) (h35:(nc bK).holds cl) (x0 x1 x2 x3):exec cl N F5 (lP x0 x1 x2 x3) K=(jA bK (fun y0 y1 y2 y3=>K .normal (lP y0 y1 y2 y3)) (fun y0 y1 y2 y3=>K (.exit 2) (lP y0 y1 y2 y3)) x0 x1 x2 x3):=by
 rw [←aN h35]
 kernel_rfl
def kB {R:Type} (bK:ae→Option (Int)) (k0:dT→ae→ae→Int→Option R):Nat→dT→ae→ae→Int→Option R
 | 0,_,_,_,_=>none
 | m+1,x0,x1,x2,x3=>(jA bK (kB bK k0 m) k0 x0 x1 x2 x3)
theorem afv (bK) (h35:(nc bK).holds cl):∀ (m) (x0 x1 x2 x3),iter [1,2,3,7] (fun env K=>exec cl N F5 env K) K m (lP x0 x1 x2 x3)=kB bK (fun y0 y1 y2 y3=>K (.exit 2) (lP y0 y1 y2 y3)) m x0 x1 x2 x3:=by
 intro m
 induction m with
 | zero=>intros; rfl
 | succ m ih=>
   intro x0 x1 x2 x3
   simp only [bZ,aoY bK h35,b6,b5,b7,UI,ih]
   rfl
theorem acJ (x0 x1 x2 x3):aj [2,3] (lP x0 x1 x2 x3)=(vf x1 x2):=by kernel_rfl
def jB (N:Nat) (bK:ae→Option (Int)) (k0:ae→ae→Option R) (x0:dT) (x1 x2:ae) (x3:Int):Option R:=
kB bK (fun y0 y1 y2 y3=>k0 y1 y2) N x0 x1 x2 x3
theorem aoZ (bK) (h35:(nc bK).holds cl) (x0 x1 x2 x3):exec cl N F6 (lP x0 x1 x2 x3) K=(jB N bK (fun y0 y1=>K (.exit 2) (vf y0 y1)) x0 x1 x2 x3):=by
 simp only [F6,aT,bX,UI,afv bK h35,acJ]
 rfl
theorem acK (x0 x1):aj [2,3] (vf x0 x1)=(vf x0 x1):=by kernel_rfl
def jv (k0:ae→Option R) (x0 x1:ae):Option R:=
k0 x1
theorem aoT (x0 x1):exec cl N OF (vf x0 x1) K=(jv (fun y0=>K .ret [(2,.loc ak .no y0)]) x0 x1):=by
 kernel_rfl
def jx (N:Nat) (bK:ae→Option (Int)) (dy:Option gr) (fp:Option gr) (k0:ae→Option R) (x0:dT):Option R:=
(jw dy fp (jt (jy N ((jz (jB N bK ((jv k0))))))) x0)
theorem aoV (bK) (dy) (fp) (h35:(nc bK).holds cl) (h37:(pb dy).holds cl) (h64:(uX fp).holds cl) (x0):exec cl N AY [(0,.v fx x0)] K=(jx N bK dy fp (fun y0=>K .ret [(2,.loc ak .no y0)]) x0):=by
 simp only [bY,b9,b8,ca,aoU dy fp h37 h64,AX,OI,aoR,OH,aT,cx,aoW,ct,cw,cq,acI,OG,OL,aoX,OK,aoZ bK h35,acK,aoT]
 rfl
theorem ajb (y0):ag d32 .ret [(2,.loc ak .no y0)]=some [.v ak y0]:=by kernel_rfl
def iW (N:Nat) (bK:ae→Option (Int)) (dy:Option gr) (fp:Option gr) (x0:dT) (k:ae→Option R):Option R:=
(jx N bK dy fp k x0)
theorem YV (bK) (dy) (fp) (h35:(nc bK).holds cl) (h37:(pb dy).holds cl) (h64:(uX fp).holds cl) (x0) (k:List E→Option R):exec cl N F2 [(0,.v fx x0)] (fun e env=>(ag d32 e env).bind k)=iW N bK dy fp x0 (fun r0=>k [.v ak r0]):=by
 simp only [F2,aoV bK dy fp h35 h37 h64,ajb,ar]
 rfl
def uV (S:dT→Option gr):aQ:=cG 32 fx S fun b=> [.v ak b]
def fw (N:Nat) (x0:dT):Option gr:=iW N (bK N) (dy N) (fp N) x0 (fun (r0:ae)=>some (r0))
def pY (k0:dG→Int→Option R) (x0:dG):Option R:=
k0 x0 (0:Int)
theorem ao3 (x0):exec cl N A0 [(0,.v lp x0)] K=(pY (fun y0 y1=>exec cl N AZ (po y0 y1) K) x0):=by
 delta A0
 generalize AZ=q
 revert q
 refine id ?_
 intro q
 kernel_rfl
def pV (k0:dG→Int→dG→Int→Int→Option R) (x0:dG) (x1:Int):Option R:=
k0 x0 x1 x0 (x0.length:Int) (0:Int)
theorem ao0 (x0 x1):exec cl N OM (po x0 x1) K=(pV (fun y0 y1 y2 y3 y4=>K .normal (lR y0 y1 y2 y3 y4)) x0 x1):=by
 kernel_rfl
theorem UJ (x0 x1 x2 x3 x4):aj [0,3,9,10,11] (lR x0 x1 x2 x3 x4)=(lR x0 x1 x2 x3 x4):=by kernel_rfl
def pW (k0:dG→Int→dG→Int→Int→Option R) (k1:dG→Int→dG→Int→Int→Option R) (x0:dG) (x1:Int) (x2:dG) (x3 x4:Int):Option R:=
ad (decide (x4 < x3)) (if 0≤x4∧x4 < (x2.length:Int) then
let v1579:Int:=(IntKind.i64.wrap (x1+((x2.getD x4.toNat []).length:Int)))
ad (decide (v1579 < (0:Int))) (none /- operation makeInterface -/) (k0 x0 v1579 x2 x3 (IntKind.i64.wrap (x4+(1:Int))))
else none) (k1 x0 x1 x2 x3 x4)
theorem ao1 (x0 x1 x2 x3 x4):exec cl N F8 (lR x0 x1 x2 x3 x4) K=(pW (fun y0 y1 y2 y3 y4=>K .normal (lR y0 y1 y2 y3 y4)) (fun y0 y1 y2 y3 y4=>K (.exit 0) (lR y0 y1 y2 y3 y4)) x0 x1 x2 x3 x4):=by
 kernel_rfl
def tl {R:Type} (k0:dG→Int→dG→Int→Int→Option R):Nat→dG→Int→dG→Int→Int→Option R
 | 0,_,_,_,_,_=>none
 | m+1,x0,x1,x2,x3,x4=>(pW (tl k0 m) k0 x0 x1 x2 x3 x4)
theorem afw:∀ (m) (x0 x1 x2 x3 x4),iter [0,3,9,10,11] (fun env K=>exec cl N F8 env K) K m (lR x0 x1 x2 x3 x4)=tl (fun y0 y1 y2 y3 y4=>K (.exit 0) (lR y0 y1 y2 y3 y4)) m x0 x1 x2 x3 x4:=by
 intro m
 induction m with
 | zero=>intros; rfl
 | succ m ih=>
   intro x0 x1 x2 x3 x4
   simp only [bZ,ao1,b6,b5,b7,UJ,ih]
   rfl
theorem acL (x0 x1 x2 x3 x4):aj [0,3] (lR x0 x1 x2 x3 x4)=(po x0 x1):=by kernel_rfl
def p5 (N:Nat) (k0:dG→Int→Option R) (x0:dG) (x1:Int) (x2:dG) (x3 x4:Int):Option R:=
tl (fun y0 y1 y2 y3 y4=>k0 y0 y1) N x0 x1 x2 x3 x4
theorem ao5 (x0 x1 x2 x3 x4):exec cl N F9 (lR x0 x1 x2 x3 x4) K=(p5 N (fun y0 y1=>K (.exit 0) (po y0 y1)) x0 x1 x2 x3 x4):=by
 simp only [F9,aT,bX,UJ,afw,acL]
 rfl
theorem acM (x0 x1):aj [0,3] (po x0 x1)=(po x0 x1):=by kernel_rfl
def p6 (dW:Int→Option mU) (k0:dG→bm→Option R) (x0:dG) (x1:Int):Option R:=
(dW x1).bind fun r1582=>
k0 x0 r1582
theorem ao6 (dW) (h65:(jX dW).holds cl) (x0 x1):exec cl N OT (po x0 x1) K=(p6 dW (fun y0 y1=>K .normal [(0,.v lp y0),(6,.own true 43 aC .no y1)]) x0 x1):=by
 rw [←aN h65]
 kernel_rfl
def p7 (k0:bm→dG→Int→Int→Option R) (x0:dG) (x1:bm):Option R:=
k0 x1 x0 (x0.length:Int) (0:Int)
theorem ao7 (x0 x1):exec cl N OU [(0,.v lp x0),(6,.own true 43 aC .no x1)] K=(p7 (fun y0 y1 y2 y3=>K .normal (lS y0 y1 y2 y3)) x0 x1):=by
 kernel_rfl
theorem UK (x0 x1 x2 x3):aj [6,25,26,27] (lS x0 x1 x2 x3)=(lS x0 x1 x2 x3):=by kernel_rfl
def p8 (k0:bm→dG→Int→Int→Option R) (k1:bm→dG→Int→Int→Option R) (x0:bm) (x1:dG) (x2 x3:Int):Option R:=
ad (decide (x3 < x2)) (if 0≤x3∧x3 < (x1.length:Int) then
if x0.length+(x1.getD x3.toNat []).length≤2513169434916 then
k0 (x0++(x1.getD x3.toNat [])) x1 x2 (IntKind.i64.wrap (x3+(1:Int)))
else none
else none) (k1 x0 x1 x2 x3)
theorem ao8 (x0 x1 x2 x3):exec cl N Ga (lS x0 x1 x2 x3) K=(p8 (fun y0 y1 y2 y3=>K .normal (lS y0 y1 y2 y3)) (fun y0 y1 y2 y3=>K (.exit 2) (lS y0 y1 y2 y3)) x0 x1 x2 x3):=by
 kernel_rfl
def qy {R:Type} (k0:bm→dG→Int→Int→Option R):Nat→bm→dG→Int→Int→Option R
 | 0,_,_,_,_=>none
 | m+1,x0,x1,x2,x3=>(p8 (qy k0 m) k0 x0 x1 x2 x3)
theorem afx:∀ (m) (x0 x1 x2 x3),iter [6,25,26,27] (fun env K=>exec cl N Ga env K) K m (lS x0 x1 x2 x3)=qy (fun y0 y1 y2 y3=>K (.exit 2) (lS y0 y1 y2 y3)) m x0 x1 x2 x3:=by
 intro m
 induction m with
 | zero=>intros; rfl
 | succ m ih=>
   intro x0 x1 x2 x3
   simp only [bZ,ao8,b6,b5,b7,UK,ih]
   rfl
theorem acN (x0 x1 x2 x3):aj [6] (lS x0 x1 x2 x3)=(vg x0):=by kernel_rfl
def p9 (N:Nat) (k0:bm→Option R) (x0:bm) (x1:dG) (x2 x3:Int):Option R:=
qy (fun y0 y1 y2 y3=>k0 y0) N x0 x1 x2 x3
theorem ao9 (x0 x1 x2 x3):exec cl N Gb (lS x0 x1 x2 x3) K=(p9 N (fun y0=>K (.exit 2) (vg y0)) x0 x1 x2 x3):=by
 simp only [Gb,aT,bX,UK,afx,acN]
 rfl
theorem acO (x0):aj [6] (vg x0)=(vg x0):=by kernel_rfl
def pX (k0:bm→Option R) (x0:bm):Option R:=
k0 x0
theorem ao2 (x0):exec cl N OO (vg x0) K=(pX (fun y0=>K .ret (II y0)) x0):=by
 kernel_rfl
def pZ (N:Nat) (dW:Int→Option mU) (k0:bm→Option R) (x0:dG):Option R:=
(pY (pV (p5 N ((p6 dW (p7 (p9 N ((pX k0)))))))) x0)
theorem ao4 (dW) (h65:(jX dW).holds cl) (x0):exec cl N A0 [(0,.v lp x0)] K=(pZ N dW (fun y0=>K .ret (II y0)) x0):=by
 simp only [bY,b9,b8,ca,ao3,AZ,OS,ao0,OR,aT,cx,ao5,ct,cw,cq,acM,OQ,ao6 dW h65,OP,ON,ao7,OV,ao9,acO,ao2]
 rfl
theorem ajc (y0):ag d33 .ret (II y0)=some [.own true 43 aC .no y0]:=by kernel_rfl
def nY (N:Nat) (dW:Int→Option mU) (x0:dG) (k:bm→Option R):Option R:=
(pZ N dW k x0)
theorem YW (dW) (h65:(jX dW).holds cl) (x0) (k:List E→Option R):exec cl N F7 [(0,.v lp x0)] (fun e env=>(ag d33 e env).bind k)=nY N dW x0 (fun r0=>k [.own true 43 aC .no r0]):=by
 simp only [F7,ao4 dW h65,ajc,ar]
 rfl
def BY (S:dG→Option mU):aQ:=cG 33 lp S fun b=> [.own true 43 aC .no b]
def fI (N:Nat) (x0:dG):Option mU:=nY N (dW N) x0 (fun (r0:bm)=>some (r0))
def sT (k0:Bool→Option R) (k1:aA→Option R) (x0:aA) (x1:Int):Option R:=
ad (decide ((x0.length:Int) > x1)) (k0 false) (k1 x0)
theorem aqm (x0 x1):exec cl N Bi [(0,.v bt x0),(1,.v U2 x1)] K=(sT (fun y0=>K .ret [(0,.dead),(4,.v .bool y0)]) (fun y0=>exec cl N Bh [(0,.v bt y0),(4,.dead)] K) x0 x1):=by
 delta Bi
 generalize Bh=q
 revert q
 refine id ?_
 intro q
 kernel_rfl
def sP (k0:aA→Int→Option R) (x0:aA):Option R:=
k0 x0 (0:Int)
theorem aqi (x0):exec cl N PL [(0,.v bt x0),(4,.dead)] K=(sP (fun y0 y1=>K .normal (lT y0 y1)) x0):=by
 kernel_rfl
theorem UT (x0 x1):aj [0,5] (lT x0 x1)=(lT x0 x1):=by kernel_rfl
def sQ (k0:Bool→Option R) (k1:aA→Int→Option R) (k2:aA→Int→Option R) (x0:aA) (x1:Int):Option R:=
ad (decide (x1 < (x0.length:Int))) (if 0≤x1∧x1 < (x0.length:Int) then
ad (decide ((((x0.getD x1.toNat ((0:Int),((0:Int),([],())))).2.2.1).length:Int) > (40:Int))) (k0 false) (k1 x0 (IntKind.i64.wrap (x1+(1:Int))))
else none) (k2 x0 x1)
theorem aqj (x0 x1):exec cl N GW (lT x0 x1) K=(sQ (fun y0=>K .ret (IJ y0)) (fun y0 y1=>K .normal (lT y0 y1)) (fun y0 y1=>K (.exit 0) (lT y0 y1)) x0 x1):=by
 kernel_rfl
def tv {R:Type} (k0:Bool→Option R) (k1:aA→Int→Option R):Nat→aA→Int→Option R
 | 0,_,_=>none
 | m+1,x0,x1=>(sQ k0 (tv k0 k1 m) k1 x0 x1)
theorem afH:∀ (m) (x0 x1),iter [0,5] (fun env K=>exec cl N GW env K) K m (lT x0 x1)=tv (fun y0=>K .ret (IJ y0)) (fun y0 y1=>K (.exit 0) (lT y0 y1)) m x0 x1:=by
 intro m
 induction m with
 | zero=>intros; rfl
 | succ m ih=>
   intro x0 x1
   simp only [bZ,aqj,b6,b5,b7,UT,ih]
   rfl
theorem adj (x0):aj [4] (IJ x0)=[(4,.v .bool x0)]:=by kernel_rfl
theorem adk (x0 x1):aj [4] (lT x0 x1)=[(4,.dead)]:=by kernel_rfl
def sR (N:Nat) (k0:Bool→Option R) (k1:Option R) (x0:aA) (x1:Int):Option R:=
tv k0 (fun y0 y1=>k1) N x0 x1
theorem aqk (x0 x1):exec cl N GX (lT x0 x1) K=(sR N (fun y0=>K .ret [(4,.v .bool y0)]) (K (.exit 0) [(4,.dead)]) x0 x1):=by
 simp only [GX,aT,bX,UT,afH,adj,adk]
 rfl
theorem adl (x0):aj [4] [(4,.v .bool x0)]=[(4,.v .bool x0)]:=by kernel_rfl
theorem adm:aj [4] [(4,.dead)]=[(4,.dead)]:=by kernel_rfl
def sS (k0:Bool→Option R):Option R:=
k0 true
theorem aql:exec cl N PO [(4,.dead)] K=(sS (fun y0=>K .ret [(4,.v .bool y0)])):=by
 kernel_rfl
def sU (N:Nat) (k0:Bool→Option R) (k1:Bool→Option R) (x0:aA) (x1:Int):Option R:=
(sT k0 (sP (sR N k1 (sS k1))) x0 x1)
theorem aqn (x0 x1):exec cl N Bi [(0,.v bt x0),(1,.v U2 x1)] K=(sU N (fun y0=>K .ret [(0,.dead),(4,.v .bool y0)]) (fun y0=>K .ret [(4,.v .bool y0)]) x0 x1):=by
 simp only [bY,b9,b8,ca,aqm,Bh,PN,aqi,PM,aT,cx,aqk,ct,cw,cq,adl,adm,aql]
 rfl
theorem ajJ (y0):ag d66 .ret [(0,.dead),(4,.v .bool y0)]=some [.v .bool y0]:=by kernel_rfl
theorem ajK (y0):ag d66 .ret [(4,.v .bool y0)]=some [.v .bool y0]:=by kernel_rfl
def qb (N:Nat) (x0:aA) (x1:Int) (k:Bool→Option R):Option R:=
(sU N k k x0 x1)
theorem Zd (x0 x1) (k:List E→Option R):exec cl N GV [(0,.v bt x0),(1,.v U2 x1)] (fun e env=>(ag d66 e env).bind k)=qb N x0 x1 (fun r0=>k [.v .bool r0]):=by
 simp only [GV,aqn,ajJ,ajK,ar]
 rfl
def rS (S:aA→Int→Option (Bool)):aQ:=eA 66 bt U2 S fun b=> [.v .bool b]
def dp (N:Nat) (x0:aA) (x1:Int):Option (Bool):=qb N x0 x1 (fun (r0:Bool)=>some (r0))
def xk (k0:Bool→Option R) (k1:ae→Int→Option R) (x0:ae):Option R:=
ad (decide ((x0.1.length:Int) > (60:Int))) (k0 false) (ad (decide ((x0.2.1.length:Int) > (130:Int))) (k0 false) (k1 x0 (0:Int)))
theorem ape (x0):exec cl N A2 [(0,.v ak x0)] K=(xk (fun y0=>K .ret (vo y0)) (fun y0 y1=>exec cl N A1 [(1,.loc ak .no y0),(3,.v U2 y1)] K) x0):=by
 delta A2
 generalize A1=q
 revert q
 refine id ?_
 intro q
 kernel_rfl
def xf (k0:ae→Int→Int→Option R) (x0:ae) (x1:Int):Option R:=
k0 x0 x1 (0:Int)
theorem apa (x0 x1):exec cl N OW [(1,.loc ak .no x0),(3,.v U2 x1)] K=(xf (fun y0 y1 y2=>K .normal (lU y0 y1 y2)) x0 x1):=by
 kernel_rfl
theorem UL (x0 x1 x2):aj [1,3,4] (lU x0 x1 x2)=(lU x0 x1 x2):=by kernel_rfl
def xg (dp:aA→Int→Option (Bool)) (k0:Bool→Option R) (k1:ae→Int→Int→Option R) (k2:ae→Int→Int→Option R) (x0:ae) (x1 x2:Int):Option R:=
ad (decide (x2 < (x0.2.1.length:Int))) (if 0≤x2∧x2 < (x0.2.1.length:Int) then
if 0≤x2∧x2 < (x0.2.1.length:Int) then
(dp ((x0.2.1.getD x2.toNat ([],([],((0:Int),((0:Int),()))))).2.1) (6:Int)).bind fun r1605=>
ad (!r1605) (k0 false) (k1 x0 (IntKind.i64.wrap (x1+(((x0.2.1.getD x2.toNat ([],([],((0:Int),((0:Int),()))))).1).length:Int))) (IntKind.i64.wrap (x2+(1:Int))))
else none
else none) (k2 x0 x1 x2)
theorem apb (dp) (h66:(rS dp).holds cl) (x0 x1 x2):exec cl N Ge (lU x0 x1 x2) K=(xg dp (fun y0=>K .ret (IK y0)) (fun y0 y1 y2=>K .normal (lU y0 y1 y2)) (fun y0 y1 y2=>K (.exit 0) (lU y0 y1 y2)) x0 x1 x2):=by
 rw [←aN h66]
 kernel_rfl
def qz {R:Type} (dp:aA→Int→Option (Bool)) (k0:Bool→Option R) (k1:ae→Int→Int→Option R):Nat→ae→Int→Int→Option R
 | 0,_,_,_=>none
 | m+1,x0,x1,x2=>(xg dp k0 (qz dp k0 k1 m) k1 x0 x1 x2)
theorem afy (dp) (h66:(rS dp).holds cl):∀ (m) (x0 x1 x2),iter [1,3,4] (fun env K=>exec cl N Ge env K) K m (lU x0 x1 x2)=qz dp (fun y0=>K .ret (IK y0)) (fun y0 y1 y2=>K (.exit 0) (lU y0 y1 y2)) m x0 x1 x2:=by
 intro m
 induction m with
 | zero=>intros; rfl
 | succ m ih=>
   intro x0 x1 x2
   simp only [bZ,apb dp h66,b6,b5,b7,UL,ih]
   rfl
theorem acP (x0):aj [2,3] (IK x0)=(rY x0):=by kernel_rfl
theorem acQ (x0 x1 x2):aj [2,3] (lU x0 x1 x2)=(iV x1):=by kernel_rfl
def xi (N:Nat) (dp:aA→Int→Option (Bool)) (k0:Bool→Option R) (k1:Int→Option R) (x0:ae) (x1 x2:Int):Option R:=
qz dp k0 (fun y0 y1 y2=>k1 y1) N x0 x1 x2
theorem apc (dp) (h66:(rS dp).holds cl) (x0 x1 x2):exec cl N Gf (lU x0 x1 x2) K=(xi N dp (fun y0=>K .ret (rY y0)) (fun y0=>K (.exit 0) (iV y0)) x0 x1 x2):=by
 simp only [Gf,aT,bX,UL,afy dp h66,acP,acQ]
 rfl
theorem acR (x0):aj [2,3] (rY x0)=(rY x0):=by kernel_rfl
theorem acS (x0):aj [2,3] (iV x0)=(iV x0):=by kernel_rfl
def xj (k0:Bool→Option R) (x0:Int):Option R:=
k0 (decide (x0≤(1500:Int)))
theorem apd (x0):exec cl N OZ (iV x0) K=(xj (fun y0=>K .ret [(2,.v .bool y0)]) x0):=by
 kernel_rfl
def xl (N:Nat) (dp:aA→Int→Option (Bool)) (k0:Bool→Option R) (k1:Bool→Option R) (k2:Bool→Option R) (x0:ae):Option R:=
(xk k0 (xf (xi N dp k1 ((xj k2)))) x0)
theorem apf (dp) (h66:(rS dp).holds cl) (x0):exec cl N A2 [(0,.v ak x0)] K=(xl N dp (fun y0=>K .ret (vo y0)) (fun y0=>K .ret (rY y0)) (fun y0=>K .ret [(2,.v .bool y0)]) x0):=by
 simp only [bY,b9,b8,ca,ape,A1,OY,apa,OX,aT,cx,apc dp h66,ct,cw,cq,acR,acS,apd]
 rfl
theorem ajd (y0):ag d34 .ret (vo y0)=some [.v .bool y0]:=by kernel_rfl
theorem aje (y0):ag d34 .ret (rY y0)=some [.v .bool y0]:=by kernel_rfl
theorem ajf (y0):ag d34 .ret [(2,.v .bool y0)]=some [.v .bool y0]:=by kernel_rfl
def sB (N:Nat) (dp:aA→Int→Option (Bool)) (x0:ae) (k:Bool→Option R):Option R:=
(xl N dp k k k x0)
theorem YX (dp) (h66:(rS dp).holds cl) (x0) (k:List E→Option R):exec cl N Gc [(0,.v ak x0)] (fun e env=>(ag d34 e env).bind k)=sB N dp x0 (fun r0=>k [.v .bool r0]):=by
 simp only [Gc,apf dp h66,ajd,aje,ajf,ar]
 rfl
def BZ (S:ae→Option (Bool)):aQ:=cG 34 ak S fun b=> [.v .bool b]
def fJ (N:Nat) (x0:ae):Option (Bool):=sB N (dp N) x0 (fun (r0:Bool)=>some (r0))
def w8 (k0:V7→V0→Option R) (x0:V7) (x1:V0):Option R:=
k0 x0 x1
theorem aoL (x0 x1):exec cl N Ox (vh x0 x1) K=(w8 (fun y0 y1=>K .normal (vh y0 y1)) x0 x1):=by
 kernel_rfl
def w9 (k0:V7→V0→Int→Option R) (x0:V7) (x1:V0):Option R:=
k0 x0 x1 (0:Int)
theorem aoM (x0 x1):exec cl N Oy (vh x0 x1) K=(w9 (fun y0 y1 y2=>K .normal (lV y0 y1 y2)) x0 x1):=by
 kernel_rfl
theorem UG (x0 x1 x2):aj [0,1,5] (lV x0 x1 x2)=(lV x0 x1 x2):=by kernel_rfl
def xb (bA:V0→V0→Option (Bool)) (k0:Bool→Option R) (k1:V7→V0→Int→Option R) (k2:V7→V0→Int→Option R) (x0:V7) (x1:V0) (x2:Int):Option R:=
ad (decide (x2 < (x0.length:Int))) (if 0≤x2∧x2 < (x0.length:Int) then
(bA (x0.getD x2.toNat []) x1).bind fun r1625=>
ad r1625 (k0 true) (k1 x0 x1 (IntKind.i64.wrap (x2+(1:Int))))
else none) (k2 x0 x1 x2)
theorem aoN (bA) (h53:(kQ bA).holds cl) (x0 x1 x2):exec cl N FZ (lV x0 x1 x2) K=(xb bA (fun y0=>K .ret (kp y0)) (fun y0 y1 y2=>K .normal (lV y0 y1 y2)) (fun y0 y1 y2=>K (.exit 0) (lV y0 y1 y2)) x0 x1 x2):=by
 rw [←aN h53]
 kernel_rfl
def tk {R:Type} (bA:V0→V0→Option (Bool)) (k0:Bool→Option R) (k1:V7→V0→Int→Option R):Nat→V7→V0→Int→Option R
 | 0,_,_,_=>none
 | m+1,x0,x1,x2=>(xb bA k0 (tk bA k0 k1 m) k1 x0 x1 x2)
theorem aft (bA) (h53:(kQ bA).holds cl):∀ (m) (x0 x1 x2),iter [0,1,5] (fun env K=>exec cl N FZ env K) K m (lV x0 x1 x2)=tk bA (fun y0=>K .ret (kp y0)) (fun y0 y1 y2=>K (.exit 0) (lV y0 y1 y2)) m x0 x1 x2:=by
 intro m
 induction m with
 | zero=>intros; rfl
 | succ m ih=>
   intro x0 x1 x2
   simp only [bZ,aoN bA h53,b6,b5,b7,UG,ih]
   rfl
theorem acD (x0):aj [4] (kp x0)=[(4,.v .bool x0)]:=by kernel_rfl
theorem acE (x0 x1 x2):aj [4] (lV x0 x1 x2)=[(4,.dead)]:=by kernel_rfl
def xc (N:Nat) (bA:V0→V0→Option (Bool)) (k0:Bool→Option R) (k1:Option R) (x0:V7) (x1:V0) (x2:Int):Option R:=
tk bA k0 (fun y0 y1 y2=>k1) N x0 x1 x2
theorem aoO (bA) (h53:(kQ bA).holds cl) (x0 x1 x2):exec cl N F0 (lV x0 x1 x2) K=(xc N bA (fun y0=>K .ret [(4,.v .bool y0)]) (K (.exit 0) [(4,.dead)]) x0 x1 x2):=by
 simp only [F0,aT,bX,UG,aft bA h53,acD,acE]
 rfl
theorem acF (x0):aj [4] [(4,.v .bool x0)]=[(4,.v .bool x0)]:=by kernel_rfl
theorem acG:aj [4] [(4,.dead)]=[(4,.dead)]:=by kernel_rfl
def xd (k0:Bool→Option R):Option R:=
k0 false
theorem aoP:exec cl N OC [(4,.dead)] K=(xd (fun y0=>K .ret [(4,.v .bool y0)])):=by
 kernel_rfl
def xe (N:Nat) (bA:V0→V0→Option (Bool)) (k0:Bool→Option R) (x0:V7) (x1:V0):Option R:=
(w8 (w9 (xc N bA k0 (xd k0))) x0 x1)
theorem aoQ (bA) (h53:(kQ bA).holds cl) (x0 x1):exec cl N F1 (vh x0 x1) K=(xe N bA (fun y0=>K .ret [(4,.v .bool y0)]) x0 x1):=by
 simp only [F1,bY,b9,b8,ca,aoL,OD,OA,aoM,Oz,aT,cx,aoO bA h53,ct,cw,cq,acF,acG,aoP]
 rfl
theorem aja (y0):ag d31 .ret [(4,.v .bool y0)]=some [.v .bool y0]:=by kernel_rfl
def sA (N:Nat) (bA:V0→V0→Option (Bool)) (x0:V7) (x1:V0) (k:Bool→Option R):Option R:=
(xe N bA k x0 x1)
theorem YU (bA) (h53:(kQ bA).holds cl) (x0 x1) (k:List E→Option R):exec cl N FY (vh x0 x1) (fun e env=>(ag d31 e env).bind k)=sA N bA x0 x1 (fun r0=>k [.v .bool r0]):=by
 simp only [FY,aoQ bA h53,aja,ar]
 rfl
def rP (S:V7→V0→Option (Bool)):aQ:=eA 31 U7 U5 S fun b=> [.v .bool b]
def dx (N:Nat) (x0:V7) (x1:V0):Option (Bool):=sA N (bA N) x0 x1 (fun (r0:Bool)=>some (r0))
def yH (eG:Option (Bool)) (cg:ae→V4→Option mT) (fw:dT→Option gr) (fI:dG→Option mU) (fJ:ae→Option (Bool)) (bK:ae→Option (Int)) (k0:Bool→Option R) (k1:Bool→Option R) (k2:Bool→Option R) (k3:V4→ae→ae→V7→V7→Option R) (x0:dT) (x1:V4) (x2:bm):Option R:=
(eG).bind fun r1632=>
ad (!r1632) ((eG).bind fun r1633=>
k0 r1633) (ad (decide ((x0.2.1.length:Int) > (20:Int))) ((eG).bind fun r1635=>
k0 r1635) (ad (decide ((x0.2.2.1.length:Int) > (20:Int))) ((eG).bind fun r1637=>
k0 r1637) (ad (decide ((x1.length:Int) > (40:Int))) ((eG).bind fun r1639=>
k0 r1639) (ad (decide ((x2.length:Int) > (4:Int))) ((eG).bind fun r1641=>
k0 r1641) ((fw x0).bind fun r1642=>
(fI [r1642.2.1,x2]).bind fun r1643=>
(fJ (r1642.1,(r1643,r1642.2.2))).bind fun r1644=>
ad (!r1644) (k1 true) ((bK (r1642.1,(r1643,r1642.2.2))).bind fun r1645=>
ad (r1645 != (0:Int)) (k1 true) ((cg r1642 x1).bind fun r1647=>
(cg (r1642.1,(r1643,r1642.2.2)) x1).bind fun r1648=>
ad (r1647.2 != (0:Int)) (ad (r1647.2 != (0:Int)) (k2 true) (k2 (r1648.2==(3:Int)))) (ad (r1648.2 != (0:Int)) (ad (r1647.2 != (0:Int)) (k2 true) (k2 (r1648.2==(3:Int)))) (k3 x1 r1642 (r1642.1,(r1643,r1642.2.2)) r1647.1 r1648.1)))))))))
theorem arX (eG) (cg) (fw) (fI) (fJ) (bK) (h11:(uU eG).holds cl) (h16:(nT cg).holds cl) (h32:(uV fw).holds cl) (h33:(BY fI).holds cl) (h34:(BZ fJ).holds cl) (h35:(nc bK).holds cl) (x0 x1 x2):exec cl N BI (IM x0 x1 x2) K=(yH eG cg fw fI fJ bK (fun y0=>K .ret (IN y0)) (fun y0=>K .ret (pq y0)) (fun y0=>K .ret (IP y0)) (fun y0 y1 y2 y3 y4=>exec cl N BH (RC y0 y1 y2 y3 y4) K) x0 x1 x2):=by
 rw [←aN h11]
 rw [←aN h16]
 rw [←aN h32]
 rw [←aN h33]
 rw [←aN h34]
 rw [←aN h35]
 delta BI
 generalize BH=q
 revert q
 refine id ?_
 intro q
 kernel_rfl
def yD (k0:V4→ae→ae→V7→V7→Int→Int→Option R) (x0:V4) (x1 x2:ae) (x3 x4:V7):Option R:=
k0 x0 x1 x2 x3 x4 (x3.length:Int) (0:Int)
theorem arT (x0 x1 x2 x3 x4):exec cl N QW (RC x0 x1 x2 x3 x4) K=(yD (fun y0 y1 y2 y3 y4 y5 y6=>K .normal (lW y0 y1 y2 y3 y4 y5 y6)) x0 x1 x2 x3 x4):=by
 kernel_rfl
theorem Vi (x0 x1 x2 x3 x4 x5 x6):aj [1,7,8,9,11,87,88,89] (lW x0 x1 x2 x3 x4 x5 x6)=(lW x0 x1 x2 x3 x4 x5 x6):=by kernel_rfl
def yE (dx:V7→V0→Option (Bool)) (k0:Bool→Option R) (k1:V4→ae→ae→V7→V7→Int→Int→Option R) (k2:V4→ae→ae→V7→V7→Int→Int→Option R) (x0:V4) (x1 x2:ae) (x3 x4:V7) (x5 x6:Int):Option R:=
ad (decide (x6 < x5)) (if 0≤x6∧x6 < (x3.length:Int) then
if x6.toNat < x3.length then
(dx x4 (x3.getD x6.toNat [])).bind fun r1657=>
ad (!r1657) (k0 false) (k1 x0 x1 x2 x3 x4 x5 (IntKind.i64.wrap (x6+(1:Int))))
else none
else none) (k2 x0 x1 x2 x3 x4 x5 x6)
theorem arU (dx) (h31:(rP dx).holds cl) (x0 x1 x2 x3 x4 x5 x6):exec cl N HO (lW x0 x1 x2 x3 x4 x5 x6) K=(yE dx (fun y0=>K .ret (IQ y0)) (fun y0 y1 y2 y3 y4 y5 y6=>K .normal (lW y0 y1 y2 y3 y4 y5 y6)) (fun y0 y1 y2 y3 y4 y5 y6=>K (.exit 0) (lW y0 y1 y2 y3 y4 y5 y6)) x0 x1 x2 x3 x4 x5 x6):=by
 rw [←aN h31]
 kernel_rfl
def tz {R:Type} (dx:V7→V0→Option (Bool)) (k0:Bool→Option R) (k1:V4→ae→ae→V7→V7→Int→Int→Option R):Nat→V4→ae→ae→V7→V7→Int→Int→Option R
 | 0,_,_,_,_,_,_,_=>none
 | m+1,x0,x1,x2,x3,x4,x5,x6=>(yE dx k0 (tz dx k0 k1 m) k1 x0 x1 x2 x3 x4 x5 x6)
theorem afV (dx) (h31:(rP dx).holds cl):∀ (m) (x0 x1 x2 x3 x4 x5 x6),iter [1,7,8,9,11,87,88,89] (fun env K=>exec cl N HO env K) K m (lW x0 x1 x2 x3 x4 x5 x6)=tz dx (fun y0=>K .ret (IQ y0)) (fun y0 y1 y2 y3 y4 y5 y6=>K (.exit 0) (lW y0 y1 y2 y3 y4 y5 y6)) m x0 x1 x2 x3 x4 x5 x6:=by
 intro m
 induction m with
 | zero=>intros; rfl
 | succ m ih=>
   intro x0 x1 x2 x3 x4 x5 x6
   simp only [bZ,arU dx h31,b6,b5,b7,Vi,ih]
   rfl
theorem ad5 (x0):aj [1,6,7,8] (IQ x0)=(pq x0):=by kernel_rfl
theorem ad6 (x0 x1 x2 x3 x4 x5 x6):aj [1,6,7,8] (lW x0 x1 x2 x3 x4 x5 x6)=(vi x0 x1 x2):=by kernel_rfl
def yF (N:Nat) (dx:V7→V0→Option (Bool)) (k0:Bool→Option R) (k1:V4→ae→ae→Option R) (x0:V4) (x1 x2:ae) (x3 x4:V7) (x5 x6:Int):Option R:=
tz dx k0 (fun y0 y1 y2 y3 y4 y5 y6=>k1 y0 y1 y2) N x0 x1 x2 x3 x4 x5 x6
theorem arV (dx) (h31:(rP dx).holds cl) (x0 x1 x2 x3 x4 x5 x6):exec cl N HP (lW x0 x1 x2 x3 x4 x5 x6) K=(yF N dx (fun y0=>K .ret (pq y0)) (fun y0 y1 y2=>K (.exit 0) (vi y0 y1 y2)) x0 x1 x2 x3 x4 x5 x6):=by
 simp only [HP,aT,bX,Vi,afV dx h31,ad5,ad6]
 rfl
theorem ad7 (x0):aj [1,6,7,8] (pq x0)=(pq x0):=by kernel_rfl
theorem ad8 (x0 x1 x2):aj [1,6,7,8] (vi x0 x1 x2)=(vi x0 x1 x2):=by kernel_rfl
def yG (cW:ae→V4→Option oX) (k0:Bool→Option R) (x0:V4) (x1 x2:ae):Option R:=
(cW x1 x0).bind fun r1659=>
(cW x2 x0).bind fun r1660=>
k0 (decide (r1660.2.1≤r1659.2.1))
theorem arW (cW) (h13:(rL cW).holds cl) (x0 x1 x2):exec cl N QZ (vi x0 x1 x2) K=(yG cW (fun y0=>K .ret [(6,.v .bool y0)]) x0 x1 x2):=by
 rw [←aN h13]
 kernel_rfl
def yI (N:Nat) (eG:Option (Bool)) (cW:ae→V4→Option oX) (cg:ae→V4→Option mT) (dx:V7→V0→Option (Bool)) (fw:dT→Option gr) (fI:dG→Option mU) (fJ:ae→Option (Bool)) (bK:ae→Option (Int)) (k0:Bool→Option R) (k1:Bool→Option R) (k2:Bool→Option R) (k3:Bool→Option R) (x0:dT) (x1:V4) (x2:bm):Option R:=
(yH eG cg fw fI fJ bK k0 k1 k2 (yD (yF N dx k1 ((yG cW k3)))) x0 x1 x2)
theorem arY (eG) (cW) (cg) (dx) (fw) (fI) (fJ) (bK) (h11:(uU eG).holds cl) (h13:(rL cW).holds cl) (h16:(nT cg).holds cl) (h31:(rP dx).holds cl) (h32:(uV fw).holds cl) (h33:(BY fI).holds cl) (h34:(BZ fJ).holds cl) (h35:(nc bK).holds cl) (x0 x1 x2):exec cl N BI (IM x0 x1 x2) K=(yI N eG cW cg dx fw fI fJ bK (fun y0=>K .ret (IN y0)) (fun y0=>K .ret (pq y0)) (fun y0=>K .ret (IP y0)) (fun y0=>K .ret [(6,.v .bool y0)]) x0 x1 x2):=by
 simp only [bY,b9,b8,ca,arX eG cg fw fI fJ bK h11 h16 h32 h33 h34 h35,BH,QY,arT,QX,aT,cx,arV dx h31,ct,cw,cq,ad7,ad8,arW cW h13]
 rfl
theorem akk (y0):ag d9 .ret (IN y0)=some [.v .bool y0]:=by kernel_rfl
theorem akl (y0):ag d9 .ret (pq y0)=some [.v .bool y0]:=by kernel_rfl
theorem akm (y0):ag d9 .ret (IP y0)=some [.v .bool y0]:=by kernel_rfl
theorem akn (y0):ag d9 .ret [(6,.v .bool y0)]=some [.v .bool y0]:=by kernel_rfl
def g9 (N:Nat) (eG:Option (Bool)) (cW:ae→V4→Option oX) (cg:ae→V4→Option mT) (dx:V7→V0→Option (Bool)) (fw:dT→Option gr) (fI:dG→Option mU) (fJ:ae→Option (Bool)) (bK:ae→Option (Int)) (x0:dT) (x1:V4) (x2:bm) (k:Bool→Option R):Option R:=
(yI N eG cW cg dx fw fI fJ bK k k k k x0 x1 x2)
theorem Zl (eG) (cW) (cg) (dx) (fw) (fI) (fJ) (bK) (h11:(uU eG).holds cl) (h13:(rL cW).holds cl) (h16:(nT cg).holds cl) (h31:(rP dx).holds cl) (h32:(uV fw).holds cl) (h33:(BY fI).holds cl) (h34:(BZ fJ).holds cl) (h35:(nc bK).holds cl) (x0 x1 x2) (k:List E→Option R):exec cl N c9 (IM x0 x1 x2) (fun e env=>(ag d9 e env).bind k)=g9 N eG cW cg dx fw fI fJ bK x0 x1 x2 (fun r0=>k [.v .bool r0]):=by
 simp only [c9,arY eG cW cg dx fw fI fJ bK h11 h13 h16 h31 h32 h33 h34 h35,akk,akl,akm,akn,ar]
 rfl
def as1 (S:dT→V4→bm→Option (Bool)):aQ:=Ri 9 fx .str bW S fun b=> [.v .bool b]
def S9 (N:Nat) (x0:dT) (x1:V4) (x2:bm):Option (Bool):=g9 N (eG N) (cW N) (cg N) (dx N) (fw N) (fI N) (fJ N) (bK N) x0 x1 x2 (fun (r0:Bool)=>some (r0))
end Go.Fw.L19
