/- Own work. -/
import Derived.Test.YtooiookccchmeaaGreatFwMc13a
import Derived.Test.YtooiookccchmeaaGreatFwB4
set_option linter.unusedVariables false
set_option linter.unusedSimpArgs false
open List renaming replicate → gn
open Option renaming bind_some → aq
namespace Go.Fw.L19
open Go Go.Fw
set_option maxRecDepth 100000
variable {N:Nat} {cl:aA} {R:Type} {K:KE R}
def Ln (k0:V3→Option R) (k1:aF→V3→Int→Option R) (x0:aF) (x1:V3):Option R:=
ad ((x0.length:Int)==(0:Int)) (k0 ([]:List UInt8)) (ad ((x0.length:Int)==(1:Int)) (if 0≤(0:Int)∧(0:Int) < (x0.length:Int) then
k0 (x0.getD (0:Int).toNat [])
else none) (ad (decide ((x1.length:Int) > (0:Int))) (let v1110:Int:=(IntKind.i64.wrap ((x0.length:Int) - (1:Int)))
if v1110=0 then none else
ad (decide ((x1.length:Int)≥(IntKind.i64.wrap (Int.tdiv (9223372036854775807:Int) v1110)))) (none /- operation makeInterface -/) (k1 x0 x1 (IntKind.i64.wrap ((0:Int)+(IntKind.i64.wrap ((x1.length:Int) * (IntKind.i64.wrap ((x0.length:Int) - (1:Int))))))))) (k1 x0 x1 (0:Int))))
theorem auf (x0 x1):exec cl N Cb [(0,.v U1 x0),(1,.v .str x1)] K=(Ln (fun y0=>K .ret (J5 y0)) (fun y0 y1 y2=>exec cl N Ca (pe y0 y1 y2) K) x0 x1):=by
 delta Cb
 generalize Ca=q
 revert q
 refine id ?_
 intro q
 kernel_rfl
def Lj (k0:aF→V3→Int→aF→Int→Int→Option R) (x0:aF) (x1:V3) (x2:Int):Option R:=
k0 x0 x1 x2 x0 (x0.length:Int) (0:Int)
theorem aub (x0 x1 x2):exec cl N R8 (pe x0 x1 x2) K=(Lj (fun y0 y1 y2 y3 y4 y5=>K .normal (mc y0 y1 y2 y3 y4 y5)) x0 x1 x2):=by
 kernel_rfl
theorem WB (x0 x1 x2 x3 x4 x5):aj [0,1,5,39,40,41] (mc x0 x1 x2 x3 x4 x5)=(mc x0 x1 x2 x3 x4 x5):=by kernel_rfl
def Lk (k0:aF→V3→Int→aF→Int→Int→Option R) (k1:aF→V3→Int→aF→Int→Int→Option R) (x0:aF) (x1:V3) (x2:Int) (x3:aF) (x4 x5:Int):Option R:=
ad (decide (x5 < x4)) (if 0≤x5∧x5 < (x3.length:Int) then
ad (decide (((x3.getD x5.toNat []).length:Int) > (IntKind.i64.wrap ((9223372036854775807:Int) - x2)))) (none /- operation makeInterface -/) (k0 x0 x1 (IntKind.i64.wrap (x2+((x3.getD x5.toNat []).length:Int))) x3 x4 (IntKind.i64.wrap (x5+(1:Int))))
else none) (k1 x0 x1 x2 x3 x4 x5)
theorem auc (x0 x1 x2 x3 x4 x5):exec cl N IF (mc x0 x1 x2 x3 x4 x5) K=(Lk (fun y0 y1 y2 y3 y4 y5=>K .normal (mc y0 y1 y2 y3 y4 y5)) (fun y0 y1 y2 y3 y4 y5=>K (.exit 1) (mc y0 y1 y2 y3 y4 y5)) x0 x1 x2 x3 x4 x5):=by
 kernel_rfl
def L3 {R:Type} (k0:aF→V3→Int→aF→Int→Int→Option R):Nat→aF→V3→Int→aF→Int→Int→Option R
 | 0,_,_,_,_,_,_=>none
 | m+1,x0,x1,x2,x3,x4,x5=>(Lk (L3 k0 m) k0 x0 x1 x2 x3 x4 x5)
theorem aho:∀ (m) (x0 x1 x2 x3 x4 x5),iter [0,1,5,39,40,41] (fun env K=>exec cl N IF env K) K m (mc x0 x1 x2 x3 x4 x5)=L3 (fun y0 y1 y2 y3 y4 y5=>K (.exit 1) (mc y0 y1 y2 y3 y4 y5)) m x0 x1 x2 x3 x4 x5:=by
 intro m
 induction m with
 | zero=>intros; rfl
 | succ m ih=>
   intro x0 x1 x2 x3 x4 x5
   simp only [bX,auc,bZ,bY,b5,WB,ih]
   rfl
theorem afx (x0 x1 x2 x3 x4 x5):aj [0,1,5] (mc x0 x1 x2 x3 x4 x5)=(pe x0 x1 x2):=by kernel_rfl
def Ll (N:Nat) (k0:aF→V3→Int→Option R) (x0:aF) (x1:V3) (x2:Int) (x3:aF) (x4 x5:Int):Option R:=
L3 (fun y0 y1 y2 y3 y4 y5=>k0 y0 y1 y2) N x0 x1 x2 x3 x4 x5
theorem aud (x0 x1 x2 x3 x4 x5):exec cl N IG (mc x0 x1 x2 x3 x4 x5) K=(Ll N (fun y0 y1 y2=>K (.exit 1) (pe y0 y1 y2)) x0 x1 x2 x3 x4 x5):=by
 simp only [IG,aT,bW,WB,aho,afx]
 rfl
theorem afy (x0 x1 x2):aj [0,1,5] (pe x0 x1 x2)=(pe x0 x1 x2):=by kernel_rfl
def Lm (x0:aF) (x1:V3) (x2:Int):Option R:=
none /- lent:sb -/
theorem aue (x0 x1 x2):exec cl N IH (pe x0 x1 x2) K=(Lm x0 x1 x2):=by
 delta IH
 generalize R9=q
 revert q
 refine id ?_
 intro q
 kernel_rfl
def Lo (N:Nat) (k0:V3→Option R) (x0:aF) (x1:V3):Option R:=
(Ln k0 (Lj (Ll N Lm)) x0 x1)
theorem aug (x0 x1):exec cl N Cb [(0,.v U1 x0),(1,.v .str x1)] K=(Lo N (fun y0=>K .ret (J5 y0)) x0 x1):=by
 simp only [bQ,bT,bS,bU,auf,Ca,Sb,aub,Sa,aT,ca,aud,b8,b9,b7,afy,aue]
 rfl
theorem amn (y0):ag d99 .ret (J5 y0)=some [.v .str y0]:=by kernel_rfl
def Dx (N:Nat) (x0:aF) (x1:V3) (k:V3→Option R):Option R:=
(Lo N k x0 x1)
theorem aaN (x0 x1) (k:List E→Option R):exec cl N IE [(0,.v U1 x0),(1,.v .str x1)] (fun e env=>(ag d99 e env).bind k)=Dx N x0 x1 (fun r0=>k [.v .str r0]):=by
 simp only [IE,aug,amn,aq]
 rfl
def CA (S:aF→V3→Option V6):aN:=dT 99 U1 .str S fun b=> [.v .str b]
def fH (N:Nat) (x0:aF) (x1:V3):Option V6:=Dx N x0 x1 (fun (r0:V3)=>some (r0))
def yw (k0:aF→Option R) (x0:aF):Option R:=
k0 x0
theorem as1 (x0):exec cl N Rf [(0,.v U1 x0)] K=(yw (fun y0=>K .normal [(0,.v U1 y0)]) x0):=by
 kernel_rfl
def yx (k0:aF→aF→Int→Int→Option R) (x0:aF):Option R:=
k0 x0 x0 (x0.length:Int) (0:Int)
theorem as2 (x0):exec cl N Rg [(0,.v U1 x0)] K=(yx (fun y0 y1 y2 y3=>K .normal (me y0 y1 y2 y3)) x0):=by
 kernel_rfl
theorem Wr (x0 x1 x2 x3):aj [0,7,8,9] (me x0 x1 x2 x3)=(me x0 x1 x2 x3):=by kernel_rfl
def yy (df:V0→cg→Option (Bool)) (dz:Int→Option (Bool)) (k0:V3→Int→Option R) (k1:aF→aF→Int→Int→Option R) (k2:aF→aF→Int→Int→Option R) (x0 x1:aF) (x2 x3:Int):Option R:=
ad (decide (x3 < x2)) (if 0≤x3∧x3 < (x1.length:Int) then
ad ((x1.getD x3.toNat [])==([]:List UInt8)) (k0 ([]:List UInt8) (7:Int)) ((df ((x1.getD x3.toNat []).map fun b=>(b.toNat:Int)) (fun (x1125:V4)=>((dz x1125.1).bind fun b1126=>some [.v .bool b1126]).bind (j0 .bool))).bind fun r1127=>
ad r1127 (k0 ([]:List UInt8) (2:Int)) (k1 x0 x1 x2 (IntKind.i64.wrap (x3+(1:Int)))))
else none) (k2 x0 x1 x2 x3)
theorem as3 (df) (dz) (h96:(ry df).holds cl) (h97:(rz dz).holds cl) (x0 x1 x2 x3):exec cl N HV (me x0 x1 x2 x3) K=(yy df dz (fun y0 y1=>K .ret (J6 y0 y1)) (fun y0 y1 y2 y3=>K .normal (me y0 y1 y2 y3)) (fun y0 y1 y2 y3=>K (.exit 0) (me y0 y1 y2 y3)) x0 x1 x2 x3):=by
 rw [←aJ h96]
 rw [←aJ h97]
 kernel_rfl
def qa {R:Type} (df:V0→cg→Option (Bool)) (dz:Int→Option (Bool)) (k0:V3→Int→Option R) (k1:aF→aF→Int→Int→Option R):Nat→aF→aF→Int→Int→Option R
 | 0,_,_,_,_=>none
 | m+1,x0,x1,x2,x3=>(yy df dz k0 (qa df dz k0 k1 m) k1 x0 x1 x2 x3)
theorem ahe (df) (dz) (h96:(ry df).holds cl) (h97:(rz dz).holds cl):∀ (m) (x0 x1 x2 x3),iter [0,7,8,9] (fun env K=>exec cl N HV env K) K m (me x0 x1 x2 x3)=qa df dz (fun y0 y1=>K .ret (J6 y0 y1)) (fun y0 y1 y2 y3=>K (.exit 0) (me y0 y1 y2 y3)) m x0 x1 x2 x3:=by
 intro m
 induction m with
 | zero=>intros; rfl
 | succ m ih=>
   intro x0 x1 x2 x3
   simp only [bX,as3 df dz h96 h97,bZ,bY,b5,Wr,ih]
   rfl
theorem ae1 (x0 x1):aj [0,2,3] (J6 x0 x1)=(rM x0 x1):=by kernel_rfl
theorem ae2 (x0 x1 x2 x3):aj [0,2,3] (me x0 x1 x2 x3)=(uQ x0):=by kernel_rfl
def yz (N:Nat) (df:V0→cg→Option (Bool)) (dz:Int→Option (Bool)) (k0:V3→Int→Option R) (k1:aF→Option R) (x0 x1:aF) (x2 x3:Int):Option R:=
qa df dz k0 (fun y0 y1 y2 y3=>k1 y0) N x0 x1 x2 x3
theorem as4 (df) (dz) (h96:(ry df).holds cl) (h97:(rz dz).holds cl) (x0 x1 x2 x3):exec cl N HW (me x0 x1 x2 x3) K=(yz N df dz (fun y0 y1=>K .ret (rM y0 y1)) (fun y0=>K (.exit 0) (uQ y0)) x0 x1 x2 x3):=by
 simp only [HW,aT,bW,Wr,ahe df dz h96 h97,ae1,ae2]
 rfl
theorem ae3 (x0 x1):aj [0,2,3] (rM x0 x1)=(rM x0 x1):=by kernel_rfl
theorem ae4 (x0):aj [0,2,3] (uQ x0)=(uQ x0):=by kernel_rfl
def yA (fH:aF→V3→Option V6) (k0:V3→Int→Option R) (k1:V3→Int→Option R) (x0:aF):Option R:=
(fH x0 ([32]:List UInt8)).bind fun r1129=>
ad (decide ((r1129.length:Int) > (120:Int))) (k0 ([]:List UInt8) (3:Int)) (k1 r1129 (0:Int))
theorem as5 (fH) (h99:(CA fH).holds cl) (x0):exec cl N Rj (uQ x0) K=(yA fH (fun y0 y1=>K .ret (Jr y0 y1)) (fun y0 y1=>K .ret [(2,.v .str y0),(3,.v U2 y1)]) x0):=by
 rw [←aJ h99]
 kernel_rfl
def yB (N:Nat) (df:V0→cg→Option (Bool)) (dz:Int→Option (Bool)) (fH:aF→V3→Option V6) (k0:V3→Int→Option R) (k1:V3→Int→Option R) (k2:V3→Int→Option R) (x0:aF):Option R:=
(yw (yx (yz N df dz k0 ((yA fH k1 k2)))) x0)
theorem as6 (df) (dz) (fH) (h96:(ry df).holds cl) (h97:(rz dz).holds cl) (h99:(CA fH).holds cl) (x0):exec cl N HX [(0,.v U1 x0)] K=(yB N df dz fH (fun y0 y1=>K .ret (rM y0 y1)) (fun y0 y1=>K .ret (Jr y0 y1)) (fun y0 y1=>K .ret [(2,.v .str y0),(3,.v U2 y1)]) x0):=by
 simp only [HX,bQ,bT,bS,bU,as1,Rk,Ri,as2,Rh,aT,ca,as4 df dz h96 h97,b8,b9,b7,ae3,ae4,as5 fH h99]
 rfl
theorem alJ (y0 y1):ag d71 .ret (rM y0 y1)=some [.v .str y0,.v U2 y1]:=by kernel_rfl
theorem alK (y0 y1):ag d71 .ret (Jr y0 y1)=some [.v .str y0,.v U2 y1]:=by kernel_rfl
theorem alL (y0 y1):ag d71 .ret [(2,.v .str y0),(3,.v U2 y1)]=some [.v .str y0,.v U2 y1]:=by kernel_rfl
def sH (N:Nat) (df:V0→cg→Option (Bool)) (dz:Int→Option (Bool)) (fH:aF→V3→Option V6) (x0:aF) (k:V3→Int→Option R):Option R:=
(yB N df dz fH k k k x0)
theorem aaw (df) (dz) (fH) (h96:(ry df).holds cl) (h97:(rz dz).holds cl) (h99:(CA fH).holds cl) (x0) (k:List E→Option R):exec cl N HU [(0,.v U1 x0)] (fun e env=>(ag d71 e env).bind k)=sH N df dz fH x0 (fun r0 r1=>k [.v .str r0,.v U2 r1]):=by
 simp only [HU,as6 df dz fH h96 h97 h99,alJ,alK,alL,aq]
 rfl
def Jg (S:aF→Option Ah):aN:=cC 71 U1 S fun b=> [.v .str b.1,.v U2 b.2]
def iz (N:Nat) (x0:aF):Option Ah:=sH N (df N) (dz N) (fH N) x0 (fun (r0:V3) (r1:Int)=>some (r0,r1))
def KN (ey:ae→Option (Int)) (iz:aF→Option Ah) (ez:V3→Option V6) (k0:Int→Option R) (k1:Int→Option R) (x0:ae) (x1:V3):Option R:=
(ey x0).bind fun r1134=>
ad (r1134 != (0:Int)) (k0 r1134) (ad (x1==([]:List UInt8)) (k0 (7:Int)) (ad (decide ((x1.length:Int) > (16:Int))) (k0 (3:Int)) ((iz [x1]).bind fun r1138=>
ad (r1138.2 != (0:Int)) (k1 (2:Int)) ((ez x1).bind fun r1140=>
ad (r1140 != x1) (k1 (2:Int)) (k1 (0:Int))))))
theorem arq (ey) (iz) (ez) (h70:(uN ey).holds cl) (h71:(Jg iz).holds cl) (h72:(uO ez).holds cl) (x0 x1):exec cl N P2 (kP x0 x1) K=(KN ey iz ez (fun y0=>K .ret (CG y0)) (fun y0=>K .ret [(4,.v U2 y0)]) x0 x1):=by
 rw [←aJ h70]
 rw [←aJ h71]
 rw [←aJ h72]
 kernel_rfl
theorem ak1 (y0):ag d40 .ret (CG y0)=some [.v U2 y0]:=by kernel_rfl
theorem ak2 (y0):ag d40 .ret [(4,.v U2 y0)]=some [.v U2 y0]:=by kernel_rfl
def Dg (ey:ae→Option (Int)) (iz:aF→Option Ah) (ez:V3→Option V6) (x0:ae) (x1:V3) (k:Int→Option R):Option R:=
(KN ey iz ez k k x0 x1)
theorem aac (ey) (iz) (ez) (h70:(uN ey).holds cl) (h71:(Jg iz).holds cl) (h72:(uO ez).holds cl) (x0 x1) (k:List E→Option R):exec cl N G5 (kP x0 x1) (fun e env=>(ag d40 e env).bind k)=Dg ey iz ez x0 x1 (fun r0=>k [.v U2 r0]):=by
 simp only [G5,arq ey iz ez h70 h71 h72,ak1,ak2,aq]
 rfl
def mV (S:ae→V3→Option (Int)):aN:=dT 40 ar .str S fun b=> [.v U2 b]
def cd (N:Nat) (x0:ae) (x1:V3):Option (Int):=Dg (ey N) (iz N) (ez N) x0 x1 (fun (r0:Int)=>some (r0))
def K4 (k0:av→Option R) (k1:av→Option R) (x0:aI) (x1:Int):Option R:=
ad (decide (x1 < (0:Int))) (k0 []) (if 0≤x1∧x1 < (x0.1.2.1.length:Int) then
k1 ((x0.1.2.1.getD x1.toNat ([],([],((0:Int),((0:Int),()))))).2.1)
else none)
theorem atd (x0 x1):exec cl N Rp [(0,.at bG x0),(1,.v U2 x1)] K=(K4 (fun y0=>K .ret (SC y0)) (fun y0=>K .ret [(4,.v ba y0)]) x0 x1):=by
 kernel_rfl
theorem alN (y0):ag d73 .ret (SC y0)=some [.v ba y0]:=by kernel_rfl
theorem alO (y0):ag d73 .ret [(4,.v ba y0)]=some [.v ba y0]:=by kernel_rfl
def sJ (x0:aI) (x1:Int) (k:av→Option R):Option R:=
(K4 k k x0 x1)
theorem Ls (x0 x1) (k:List E→Option R):exec cl N H2 [(0,.at bG x0),(1,.v U2 x1)] (fun e env=>(ag d73 e env).bind k)=sJ x0 x1 (fun r0=>k [.v ba r0]):=by
 simp only [H2,atd,alN,alO,aq]
 rfl
def jt (S:aI→Int→Option gT):aN:={A:=aI×Int×Unit,B:=av,f:=73,enc:=fun a=> [.at bG a.1,.v U2 a.2.1],dec:=(bj (oZ bG) (bj (bM U2) cz)),S:=fun a=>S a.1 a.2.1,aw:=fun b=> [.v ba b],ok:=(CC (T:=bG) (gz (T:=U2) (fun es b h=>jv h)))}
def bD (N:Nat) (x0:aI) (x1:Int):Option gT:=sJ x0 x1 (fun (r0:av)=>some (r0))
def K8 (k0:Bool→Option R) (x0:aQ):Option R:=
ad (x0.1==(1:Int)) (k0 true) (k0 (x0.1==(2:Int)))
theorem atu (x0):exec cl N RC [(0,.v aC x0)] K=(K8 (fun y0=>K .ret [(2,.v .bool y0)]) x0):=by
 kernel_rfl
theorem alW (y0):ag d87 .ret [(2,.v .bool y0)]=some [.v .bool y0]:=by kernel_rfl
def sM (x0:aQ) (k:Bool→Option R):Option R:=
(K8 k x0)
theorem Lv (x0) (k:List E→Option R):exec cl N Ic [(0,.v aC x0)] (fun e env=>(ag d87 e env).bind k)=sM x0 (fun r0=>k [.v .bool r0]):=by
 simp only [Ic,atu,alW,aq]
 rfl
def mW (S:aQ→Option (Bool)):aN:=cC 87 aC S fun b=> [.v .bool b]
def c6 (N:Nat) (x0:aQ):Option (Bool):=sM x0 (fun (r0:Bool)=>some (r0))
def KU (k0:Int→av→av→ae→Option R) (x0:ae) (x1:Int) (x2 x3:av):Option R:=
k0 x1 x2 x3 x0
theorem asm (x0 x1 x2 x3):exec cl N QE (uR x0 x1 x2 x3) K=(KU (fun y0 y1 y2 y3=>K .normal [(1,.v U2 y0),(2,.v ba y1),(3,.v ba y2),(4,.loc ar .no y3)]) x0 x1 x2 x3):=by
 kernel_rfl
def KV (k0:Bool→Option R) (k1:Int→av→av→ae→Option R) (x0:Int) (x1 x2:av) (x3:ae):Option R:=
ad (decide (x0 < (0:Int))) (k0 false) (ad (decide (x0≥(x3.2.1.length:Int))) (k0 false) (k1 x0 x1 x2 x3))
theorem asn (x0 x1 x2 x3):exec cl N QF [(1,.v U2 x0),(2,.v ba x1),(3,.v ba x2),(4,.loc ar .no x3)] K=(KV (fun y0=>K .ret (uS y0)) (fun y0 y1 y2 y3=>K .normal (SD y0 y1 y2 y3)) x0 x1 x2 x3):=by
 kernel_rfl
def KW (c6:aQ→Option (Bool)) (k0:Int→av→ae→Bool→Option R) (x0:Int) (x1 x2:av) (x3:ae):Option R:=
ad (decide ((x2.length:Int) > (0:Int))) (if 0≤(0:Int)∧(0:Int) < (x2.length:Int) then
(c6 (x2.getD (0:Int).toNat ((0:Int),((0:Int),([],()))))).bind fun r1213=>
k0 x0 x1 x3 r1213
else none) (k0 x0 x1 x3 false)
theorem aso (c6) (h87:(mW c6).holds cl) (x0 x1 x2 x3):exec cl N QG (SD x0 x1 x2 x3) K=(KW c6 (fun y0 y1 y2 y3=>K .normal [(1,.v U2 y0),(2,.v ba y1),(4,.loc ar .no y2),(9,.v .bool y3)]) x0 x1 x2 x3):=by
 rw [←aJ h87]
 kernel_rfl
def KX (c6:aQ→Option (Bool)) (k0:Bool→Option R) (x0:Int) (x1:av) (x2:ae) (x3:Bool):Option R:=
if 0≤x0∧x0 < (x2.2.1.length:Int) then
ad ((x2.2.1.getD x0.toNat ([],([],((0:Int),((0:Int),()))))).2.2.2.1==(0:Int)) (k0 true) (ad ((x2.2.1.getD x0.toNat ([],([],((0:Int),((0:Int),()))))).2.2.2.1==(1:Int)) (k0 x3) (ad ((x2.2.1.getD x0.toNat ([],([],((0:Int),((0:Int),()))))).2.2.2.1==(2:Int)) (ad x3 (k0 ((x1.length:Int)==(0:Int))) (k0 false)) (ad ((x2.2.1.getD x0.toNat ([],([],((0:Int),((0:Int),()))))).2.2.2.1==(3:Int)) (ad x3 (ad (decide ((x1.length:Int) > (0:Int))) (let v1220:Int:=(IntKind.i64.wrap ((x1.length:Int) - (1:Int)))
if 0≤v1220∧v1220 < (x1.length:Int) then
(c6 (x1.getD v1220.toNat ((0:Int),((0:Int),([],()))))).bind fun r1221=>
k0 r1221
else none) (k0 false)) (k0 false)) (ad ((x2.2.1.getD x0.toNat ([],([],((0:Int),((0:Int),()))))).2.2.2.1==(4:Int)) (k0 (!x3)) (k0 false)))))
else none
theorem asp (c6) (h87:(mW c6).holds cl) (x0 x1 x2 x3):exec cl N QH [(1,.v U2 x0),(2,.v ba x1),(4,.loc ar .no x2),(9,.v .bool x3)] K=(KX c6 (fun y0=>K .ret [(8,.v .bool y0)]) x0 x1 x2 x3):=by
 rw [←aJ h87]
 kernel_rfl
def KY (c6:aQ→Option (Bool)) (k0:Bool→Option R) (k1:Bool→Option R) (x0:ae) (x1:Int) (x2 x3:av):Option R:=
(KU (KV k0 (KW c6 (KX c6 k1))) x0 x1 x2 x3)
theorem asq (c6) (h87:(mW c6).holds cl) (x0 x1 x2 x3):exec cl N HC (uR x0 x1 x2 x3) K=(KY c6 (fun y0=>K .ret (uS y0)) (fun y0=>K .ret [(8,.v .bool y0)]) x0 x1 x2 x3):=by
 simp only [HC,bQ,bT,bS,bU,asm,QJ,asn,QI,aso c6 h87,asp c6 h87]
 rfl
theorem als (y0):ag d60 .ret (uS y0)=some [.v .bool y0]:=by kernel_rfl
theorem alu (y0):ag d60 .ret [(8,.v .bool y0)]=some [.v .bool y0]:=by kernel_rfl
def sz (c6:aQ→Option (Bool)) (x0:ae) (x1:Int) (x2 x3:av) (k:Bool→Option R):Option R:=
(KY c6 k k x0 x1 x2 x3)
theorem Lr (c6) (h87:(mW c6).holds cl) (x0 x1 x2 x3) (k:List E→Option R):exec cl N HB (uR x0 x1 x2 x3) (fun e env=>(ag d60 e env).bind k)=sz c6 x0 x1 x2 x3 (fun r0=>k [.v .bool r0]):=by
 simp only [HB,asq c6 h87,als,alu,aq]
 rfl
def gy (S:ae→Int→av→av→Option (Bool)):aN:=Su 60 ar U2 ba ba S fun b=> [.v .bool b]
def aS (N:Nat) (x0:ae) (x1:Int) (x2:av) (x3:av):Option (Bool):=sz (c6 N) x0 x1 x2 x3 (fun (r0:Bool)=>some (r0))
def K6 (k0:Bool→Option R) (x0 x1:V3):Option R:=
ad (decide ((x0.length:Int)≥(x1.length:Int))) (if 0≤(0:Int)∧(0:Int)≤(x1.length:Int)∧(x1.length:Int)≤(x0.length:Int) then
k0 (((x0.drop (0:Int).toNat).take ((x1.length:Int).toNat - (0:Int).toNat))==x1)
else none) (k0 false)
theorem atr (x0 x1):exec cl N RA (CH x0 x1) K=(K6 (fun y0=>K .ret [(4,.v .bool y0)]) x0 x1):=by
 kernel_rfl
theorem alT (y0):ag d83 .ret [(4,.v .bool y0)]=some [.v .bool y0]:=by kernel_rfl
def sL (x0 x1:V3) (k:Bool→Option R):Option R:=
(K6 k x0 x1)
theorem Lu (x0 x1) (k:List E→Option R):exec cl N Ia (CH x0 x1) (fun e env=>(ag d83 e env).bind k)=sL x0 x1 (fun r0=>k [.v .bool r0]):=by
 simp only [Ia,atr,alT,aq]
 rfl
def oW (S:V3→V3→Option (Bool)):aN:=dT 83 .str .str S fun b=> [.v .bool b]
def eW (N:Nat) (x0:V3) (x1:V3):Option (Bool):=sL x0 x1 (fun (r0:Bool)=>some (r0))
def KR (eW:V3→V3→Option (Bool)) (k0:Bool→Option R) (x0 x1:V3):Option R:=
(eW x0 x1).bind fun r1232=>
k0 r1232
theorem ar5 (eW) (h83:(oW eW).holds cl) (x0 x1):exec cl N Qt (CH x0 x1) K=(KR eW (fun y0=>K .ret [(4,.v .bool y0)]) x0 x1):=by
 rw [←aJ h83]
 kernel_rfl
theorem alj (y0):ag d54 .ret [(4,.v .bool y0)]=some [.v .bool y0]:=by kernel_rfl
def sv (eW:V3→V3→Option (Bool)) (x0 x1:V3) (k:Bool→Option R):Option R:=
(KR eW k x0 x1)
theorem Lq (eW) (h83:(oW eW).holds cl) (x0 x1) (k:List E→Option R):exec cl N Hs (CH x0 x1) (fun e env=>(ag d54 e env).bind k)=sv eW x0 x1 (fun r0=>k [.v .bool r0]):=by
 simp only [Hs,ar5 eW h83,alj,aq]
 rfl
def gx (S:V3→V3→Option (Bool)):aN:=dT 54 .str .str S fun b=> [.v .bool b]
def aV (N:Nat) (x0:V3) (x1:V3):Option (Bool):=sv (eW N) x0 x1 (fun (r0:Bool)=>some (r0))
def yM (k0:aI→a8→cj→Option R) (x0:aI) (x1:a8):Option R:=
k0 x0 x1 []
theorem ati (x0 x1):exec cl N BU [(0,.at bG x0),(1,.v a6 x1)] K=(yM (fun y0 y1 y2=>exec cl N BT [(0,.at bG y0),(3,.loc a6 .no y1),(5,.own true 73 a6 .no y2)] K) x0 x1):=by
 delta BU
 generalize BT=q
 revert q
 refine id ?_
 intro q
 kernel_rfl
def yI (k0:aI→a8→cj→cE→Int→Int→Option R) (x0:aI) (x1:a8) (x2:cj):Option R:=
k0 x0 x1 x2 x0.1.2.1 (x0.1.2.1.length:Int) (0:Int)
theorem ate (x0 x1 x2):exec cl N Rq [(0,.at bG x0),(3,.loc a6 .no x1),(5,.own true 73 a6 .no x2)] K=(yI (fun y0 y1 y2 y3 y4 y5=>K .normal (lp y0 y1 y2 y3 y4 y5)) x0 x1 x2):=by
 kernel_rfl
theorem Wt (x0 x1 x2 x3 x4 x5):aj [0,3,5,12,13,14] (lp x0 x1 x2 x3 x4 x5)=(lp x0 x1 x2 x3 x4 x5):=by kernel_rfl
def yJ (aV:V3→V3→Option (Bool)) (aS:ae→Int→av→av→Option (Bool)) (bD:aI→Int→Option gT) (k0:aI→a8→cj→cE→Int→Int→Option R) (k1:aI→a8→cj→cE→Int→Int→Option R) (x0:aI) (x1:a8) (x2:cj) (x3:cE) (x4 x5:Int):Option R:=
ad (decide (x5 < x4)) (if 0≤x5∧x5 < (x3.length:Int) then
if 0≤x1.2.2.1∧x1.2.2.1≤(x0.2.1.length:Int)∧(x0.2.1.length:Int)≤(x0.2.1.length:Int) then
(aV ((x0.2.1.drop x1.2.2.1.toNat).take ((x0.2.1.length:Int).toNat - x1.2.2.1.toNat)) ((x3.getD x5.toNat ([],([],((0:Int),((0:Int),()))))).1)).bind fun r1247=>
ad r1247 (ad (decide (x1.2.1 < (0:Int))) (let v1250:a8:=(x1.2.1,x5,(IntKind.i64.wrap (x1.2.2.1+(((x3.getD x5.toNat ([],([],((0:Int),((0:Int),()))))).1).length:Int))),())
if x2.length+[v1250].length≤5864062014805 then
k0 x0 x1 (x2++[v1250]) x3 x4 (IntKind.i64.wrap (x5+(1:Int)))
else none) ((bD x0 x1.1).bind fun r1252=>
(aS x0.1 x1.2.1 r1252 ((x3.getD x5.toNat ([],([],((0:Int),((0:Int),()))))).2.1)).bind fun r1253=>
ad r1253 (let v1255:a8:=(x1.2.1,x5,(IntKind.i64.wrap (x1.2.2.1+(((x3.getD x5.toNat ([],([],((0:Int),((0:Int),()))))).1).length:Int))),())
if x2.length+[v1255].length≤5864062014805 then
k0 x0 x1 (x2++[v1255]) x3 x4 (IntKind.i64.wrap (x5+(1:Int)))
else none) (k0 x0 x1 x2 x3 x4 (IntKind.i64.wrap (x5+(1:Int)))))) (k0 x0 x1 x2 x3 x4 (IntKind.i64.wrap (x5+(1:Int))))
else none
else none) (k1 x0 x1 x2 x3 x4 x5)
theorem atf (aV) (aS) (bD) (h54:(gx aV).holds cl) (h60:(gy aS).holds cl) (h73:(jt bD).holds cl) (x0 x1 x2 x3 x4 x5):exec cl N H4 (lp x0 x1 x2 x3 x4 x5) K=(yJ aV aS bD (fun y0 y1 y2 y3 y4 y5=>K .normal (lp y0 y1 y2 y3 y4 y5)) (fun y0 y1 y2 y3 y4 y5=>K (.exit 0) (lp y0 y1 y2 y3 y4 y5)) x0 x1 x2 x3 x4 x5):=by
 rw [←aJ h54]
 rw [←aJ h60]
 rw [←aJ h73]
 kernel_rfl
def qb {R:Type} (aV:V3→V3→Option (Bool)) (aS:ae→Int→av→av→Option (Bool)) (bD:aI→Int→Option gT) (k0:aI→a8→cj→cE→Int→Int→Option R):Nat→aI→a8→cj→cE→Int→Int→Option R
 | 0,_,_,_,_,_,_=>none
 | m+1,x0,x1,x2,x3,x4,x5=>(yJ aV aS bD (qb aV aS bD k0 m) k0 x0 x1 x2 x3 x4 x5)
theorem ahg (aV) (aS) (bD) (h54:(gx aV).holds cl) (h60:(gy aS).holds cl) (h73:(jt bD).holds cl):∀ (m) (x0 x1 x2 x3 x4 x5),iter [0,3,5,12,13,14] (fun env K=>exec cl N H4 env K) K m (lp x0 x1 x2 x3 x4 x5)=qb aV aS bD (fun y0 y1 y2 y3 y4 y5=>K (.exit 0) (lp y0 y1 y2 y3 y4 y5)) m x0 x1 x2 x3 x4 x5:=by
 intro m
 induction m with
 | zero=>intros; rfl
 | succ m ih=>
   intro x0 x1 x2 x3 x4 x5
   simp only [bX,atf aV aS bD h54 h60 h73,bZ,bY,b5,Wt,ih]
   rfl
theorem ae7 (x0 x1 x2 x3 x4 x5):aj [5] (lp x0 x1 x2 x3 x4 x5)=(uT x2):=by kernel_rfl
def yK (N:Nat) (aV:V3→V3→Option (Bool)) (aS:ae→Int→av→av→Option (Bool)) (bD:aI→Int→Option gT) (k0:cj→Option R) (x0:aI) (x1:a8) (x2:cj) (x3:cE) (x4 x5:Int):Option R:=
qb aV aS bD (fun y0 y1 y2 y3 y4 y5=>k0 y2) N x0 x1 x2 x3 x4 x5
theorem atg (aV) (aS) (bD) (h54:(gx aV).holds cl) (h60:(gy aS).holds cl) (h73:(jt bD).holds cl) (x0 x1 x2 x3 x4 x5):exec cl N H5 (lp x0 x1 x2 x3 x4 x5) K=(yK N aV aS bD (fun y0=>K (.exit 0) (uT y0)) x0 x1 x2 x3 x4 x5):=by
 simp only [H5,aT,bW,Wt,ahg aV aS bD h54 h60 h73,ae7]
 rfl
theorem ae8 (x0):aj [5] (uT x0)=(uT x0):=by kernel_rfl
def yL (k0:cj→Option R) (x0:cj):Option R:=
k0 x0
theorem ath (x0):exec cl N Ru (uT x0) K=(yL (fun y0=>K .ret (Jt y0)) x0):=by
 kernel_rfl
def yN (N:Nat) (aV:V3→V3→Option (Bool)) (aS:ae→Int→av→av→Option (Bool)) (bD:aI→Int→Option gT) (k0:cj→Option R) (x0:aI) (x1:a8):Option R:=
(yM (yI (yK N aV aS bD ((yL k0)))) x0 x1)
theorem atj (aV) (aS) (bD) (h54:(gx aV).holds cl) (h60:(gy aS).holds cl) (h73:(jt bD).holds cl) (x0 x1):exec cl N BU [(0,.at bG x0),(1,.v a6 x1)] K=(yN N aV aS bD (fun y0=>K .ret (Jt y0)) x0 x1):=by
 simp only [bQ,bT,bS,bU,ati,BT,Rt,ate,Rs,aT,ca,atg aV aS bD h54 h60 h73,b8,b9,b7,ae8,ath]
 rfl
theorem alP (y0):ag d74 .ret (Jt y0)=some [.own true 73 a6 .no y0]:=by kernel_rfl
def od (N:Nat) (aV:V3→V3→Option (Bool)) (aS:ae→Int→av→av→Option (Bool)) (bD:aI→Int→Option gT) (x0:aI) (x1:a8) (k:cj→Option R):Option R:=
(yN N aV aS bD k x0 x1)
theorem Lt (aV) (aS) (bD) (h54:(gx aV).holds cl) (h60:(gy aS).holds cl) (h73:(jt bD).holds cl) (x0 x1) (k:List E→Option R):exec cl N H3 [(0,.at bG x0),(1,.v a6 x1)] (fun e env=>(ag d74 e env).bind k)=od N aV aS bD x0 x1 (fun r0=>k [.own true 73 a6 .no r0]):=by
 simp only [H3,atj aV aS bD h54 h60 h73,alP,aq]
 rfl
def kN (S:aI→a8→Option nC):aN:={A:=aI×a8×Unit,B:=cj,f:=74,enc:=fun a=> [.at bG a.1,.v a6 a.2.1],dec:=(bj (oZ bG) (bj (bM a6) cz)),S:=fun a=>S a.1 a.2.1,aw:=fun b=> [.own true 73 a6 .no b],ok:=(CC (T:=bG) (gz (T:=a6) (fun es b h=>jv h)))}
def cy (N:Nat) (x0:aI) (x1:a8):Option nC:=od N (aV N) (aS N) (bD N) x0 x1 (fun (r0:cj)=>some (r0))
def xM (aS:ae→Int→av→av→Option (Bool)) (bD:aI→Int→Option gT) (k0:aI→Int→Option R) (k1:aI→a8→Int→Option R) (x0:aI) (x1:a8):Option R:=
ad (x1.2.2.1==(x0.2.1.length:Int)) (ad (decide (x1.2.1≥(0:Int))) ((bD x0 x1.1).bind fun r1268=>
(aS x0.1 x1.2.1 r1268 []).bind fun r1269=>
ad r1269 (k0 x0 (1:Int)) (k0 x0 (0:Int))) (k0 x0 (0:Int))) (let v1270:Int×Bool:=iI (fun a b:a8=>((a.1==b.1)&&((a.2.1==b.2.1)&&((a.2.2.1==b.2.2.1)&&true)))) (0:Int) x0.2.2.1 x1
ad v1270.2 (k0 x0 v1270.1) (k1 x0 x1 (0:Int)))
theorem arw (aS) (bD) (h60:(gy aS).holds cl) (h73:(jt bD).holds cl) (x0 x1):exec cl N Bv (rB x0 x1) K=(xM aS bD (fun y0 y1=>K .ret (Ju y0 y1)) (fun y0 y1 y2=>exec cl N Bu (o4 y0 y1 y2) K) x0 x1):=by
 rw [←aJ h60]
 rw [←aJ h73]
 delta Bv
 generalize Bu=q
 revert q
 refine id ?_
 intro q
 kernel_rfl
def xI (cy:aI→a8→Option nC) (k0:aI→a8→Int→cj→Int→Int→Option R) (x0:aI) (x1:a8) (x2:Int):Option R:=
(cy x0 x1).bind fun r1271=>
k0 x0 x1 x2 r1271 (r1271.length:Int) (0:Int)
theorem ars (cy) (h74:(kN cy).holds cl) (x0 x1 x2):exec cl N P3 (o4 x0 x1 x2) K=(xI cy (fun y0 y1 y2 y3 y4 y5=>K .normal (lq y0 y1 y2 y3 y4 y5)) x0 x1 x2):=by
 rw [←aJ h74]
 kernel_rfl
theorem Wf (x0 x1 x2 x3 x4 x5):aj [0,3,7,47,48,49] (lq x0 x1 x2 x3 x4 x5)=(lq x0 x1 x2 x3 x4 x5):=by kernel_rfl
def xJ (aY:aI→a8→Option gU) (k0:aI→a8→Int→cj→Int→Int→Option R) (k1:aI→a8→Int→cj→Int→Int→Option R) (x0:aI) (x1:a8) (x2:Int) (x3:cj) (x4 x5:Int):Option R:=
ad (decide (x5 < x4)) (if 0≤x5∧x5 < (x3.length:Int) then
if x5.toNat < x3.length then
(aY x0 (x3.getD x5.toNat ((0:Int),((0:Int),((0:Int),()))))).bind fun r1274=>
let v1275:Int:=(IntKind.i64.wrap (x2+r1274.2))
k0 r1274.1 x1 (if (201:Int) < v1275 then (201:Int) else v1275) x3 x4 (IntKind.i64.wrap (x5+(1:Int)))
else none
else none) (k1 x0 x1 x2 x3 x4 x5)
theorem art (aY) (h41:(gI aY).holds cl) (x0 x1 x2 x3 x4 x5):exec cl N G7 (lq x0 x1 x2 x3 x4 x5) K=(xJ aY (fun y0 y1 y2 y3 y4 y5=>K .normal (lq y0 y1 y2 y3 y4 y5)) (fun y0 y1 y2 y3 y4 y5=>K (.exit 0) (lq y0 y1 y2 y3 y4 y5)) x0 x1 x2 x3 x4 x5):=by
 rw [←aJ h41]
 kernel_rfl
def tc {R:Type} (aY:aI→a8→Option gU) (k0:aI→a8→Int→cj→Int→Int→Option R):Nat→aI→a8→Int→cj→Int→Int→Option R
 | 0,_,_,_,_,_,_=>none
 | m+1,x0,x1,x2,x3,x4,x5=>(xJ aY (tc aY k0 m) k0 x0 x1 x2 x3 x4 x5)
theorem ag1 (aY) (h41:(gI aY).holds cl):∀ (m) (x0 x1 x2 x3 x4 x5),iter [0,3,7,47,48,49] (fun env K=>exec cl N G7 env K) K m (lq x0 x1 x2 x3 x4 x5)=tc aY (fun y0 y1 y2 y3 y4 y5=>K (.exit 0) (lq y0 y1 y2 y3 y4 y5)) m x0 x1 x2 x3 x4 x5:=by
 intro m
 induction m with
 | zero=>intros; rfl
 | succ m ih=>
   intro x0 x1 x2 x3 x4 x5
   simp only [bX,art aY h41,bZ,bY,b5,Wf,ih]
   rfl
theorem aeh (x0 x1 x2 x3 x4 x5):aj [0,3,7] (lq x0 x1 x2 x3 x4 x5)=(o4 x0 x1 x2):=by kernel_rfl
def xK (N:Nat) (aY:aI→a8→Option gU) (k0:aI→a8→Int→Option R) (x0:aI) (x1:a8) (x2:Int) (x3:cj) (x4 x5:Int):Option R:=
tc aY (fun y0 y1 y2 y3 y4 y5=>k0 y0 y1 y2) N x0 x1 x2 x3 x4 x5
theorem aru (aY) (h41:(gI aY).holds cl) (x0 x1 x2 x3 x4 x5):exec cl N G8 (lq x0 x1 x2 x3 x4 x5) K=(xK N aY (fun y0 y1 y2=>K (.exit 0) (o4 y0 y1 y2)) x0 x1 x2 x3 x4 x5):=by
 simp only [G8,aT,bW,Wf,ag1 aY h41,aeh]
 rfl
theorem aei (x0 x1 x2):aj [0,3,7] (o4 x0 x1 x2)=(o4 x0 x1 x2):=by kernel_rfl
def xL (k0:aI→Int→Option R) (x0:aI) (x1:a8) (x2:Int):Option R:=
k0 (x0.1,(x0.2.1,((jf (fun a b:a8=>((a.1==b.1)&&((a.2.1==b.2.1)&&((a.2.2.1==b.2.2.1)&&true)))) x0.2.2.1 x1 x2),x0.2.2.2))) x2
theorem arv (x0 x1 x2):exec cl N P6 (o4 x0 x1 x2) K=(xL (fun y0 y1=>K .ret (Jv y0 y1)) x0 x1 x2):=by
 kernel_rfl
def xN (N:Nat) (aY:aI→a8→Option gU) (aS:ae→Int→av→av→Option (Bool)) (bD:aI→Int→Option gT) (cy:aI→a8→Option nC) (k0:aI→Int→Option R) (k1:aI→Int→Option R) (x0:aI) (x1:a8):Option R:=
(xM aS bD k0 (xI cy (xK N aY ((xL k1)))) x0 x1)
theorem arx (aY) (aS) (bD) (cy) (h41:(gI aY).holds cl) (h60:(gy aS).holds cl) (h73:(jt bD).holds cl) (h74:(kN cy).holds cl) (x0 x1):exec cl N Bv (rB x0 x1) K=(xN N aY aS bD cy (fun y0 y1=>K .ret (Ju y0 y1)) (fun y0 y1=>K .ret (Jv y0 y1)) x0 x1):=by
 simp only [bQ,bT,bS,bU,arw aS bD h60 h73,Bu,P5,ars cy h74,P4,aT,ca,aru aY h41,b8,b9,b7,aei,arv]
 rfl
theorem ak3 (y0 y1):ag d41 .ret (Ju y0 y1)=some [.loc bG (.pair .no (.pair .no (.pair .mp .no))) y0,.v U2 y1]:=by kernel_rfl
theorem ak4 (y0 y1):ag d41 .ret (Jv y0 y1)=some [.loc bG (.pair .no (.pair .no (.pair .mp .no))) y0,.v U2 y1]:=by kernel_rfl
def sh (N:Nat) (aY:aI→a8→Option gU) (aS:ae→Int→av→av→Option (Bool)) (bD:aI→Int→Option gT) (cy:aI→a8→Option nC) (x0:aI) (x1:a8) (k:aI→Int→Option R):Option R:=
(xN N aY aS bD cy k k x0 x1)
theorem aad (aY) (aS) (bD) (cy) (h41:(gI aY).holds cl) (h60:(gy aS).holds cl) (h73:(jt bD).holds cl) (h74:(kN cy).holds cl) (x0 x1) (k:List E→Option R):exec cl N G6 (rB x0 x1) (fun e env=>(ag d41 e env).bind k)=sh N aY aS bD cy x0 x1 (fun r0 r1=>k [.loc bG (.pair .no (.pair .no (.pair .mp .no))) r0,.v U2 r1]):=by
 simp only [G6,arx aY aS bD cy h41 h60 h73 h74,ak3,ak4,aq]
 rfl
def nz (N:Nat):Nat→aI→a8→Option gU
 | 0,_,_=>none
 | m+1,x0,x1=>sh N (nz N m) (aS N) (bD N) (cy N) x0 x1 (fun (r0:aI) (r1:Int)=>some (r0,r1))
def aY (N:Nat) (x0:aI) (x1:a8):Option gU:=nz N 250 x0 x1
def nV (k0:aI→V7→Option R) (k1:aI→a8→V7→Option R) (x0:aI) (x1:a8):Option R:=
ad (x1.2.2.1==(x0.2.1.length:Int)) (k0 x0 [[]]) (k1 x0 x1 [])
theorem arB (x0 x1):exec cl N Bx (rB x0 x1) K=(nV (fun y0 y1=>K .ret (Jx y0 y1)) (fun y0 y1 y2=>exec cl N Bw (SE y0 y1 y2) K) x0 x1):=by
 delta Bx
 generalize Bw=q
 revert q
 refine id ?_
 intro q
 kernel_rfl
def nS (cy:aI→a8→Option nC) (k0:aI→V7→cj→Int→Int→Option R) (x0:aI) (x1:a8) (x2:V7):Option R:=
(cy x0 x1).bind fun r1293=>
k0 x0 x2 r1293 (r1293.length:Int) (0:Int)
theorem ary (cy) (h74:(kN cy).holds cl) (x0 x1 x2):exec cl N P7 (SE x0 x1 x2) K=(nS cy (fun y0 y1 y2 y3 y4=>K .normal (fN y0 y1 y2 y3 y4)) x0 x1 x2):=by
 rw [←aJ h74]
 kernel_rfl
theorem LM (x0 x1 x2 x3 x4):aj [0,5,21,22,23] (fN x0 x1 x2 x3 x4)=(fN x0 x1 x2 x3 x4):=by kernel_rfl
def n7 (k0:aI→V7→cj→Int→Int→Option R) (k1:aI→V7→cj→Int→Int→Option R) (x0:aI) (x1:V7) (x2:cj) (x3 x4:Int):Option R:=
ad (decide (x4 < x3)) (k0 x0 x1 x2 x3 x4) (k1 x0 x1 x2 x3 x4)
theorem arH (x0 x1 x2 x3 x4):exec cl N uD (fN x0 x1 x2 x3 x4) K=(n7 (fun y0 y1 y2 y3 y4=>exec cl N Bz (fN y0 y1 y2 y3 y4) K) (fun y0 y1 y2 y3 y4=>K (.exit 0) (fN y0 y1 y2 y3 y4)) x0 x1 x2 x3 x4):=by
 delta uD
 generalize Bz=q
 revert q
 refine id ?_
 intro q
 kernel_rfl
def nY (aY:aI→a8→Option gU) (bV:aI→a8→Option ka) (k0:aI→V7→a8→cj→Int→Int→Option R) (k1:aI→V7→a8→cj→Int→Int→V7→Int→Int→Option R) (x0:aI) (x1:V7) (x2:cj) (x3 x4:Int):Option R:=
if 0≤x4∧x4 < (x2.length:Int) then
if x4.toNat < x2.length then
let v1295:a8:=(x2.getD x4.toNat ((0:Int),((0:Int),((0:Int),()))))
(aY x0 v1295).bind fun r1296=>
ad (r1296.2==(0:Int)) (k0 r1296.1 x1 v1295 x2 x3 x4) ((bV r1296.1 v1295).bind fun r1298=>
k1 r1298.1 x1 v1295 x2 x3 x4 r1298.2 (r1298.2.length:Int) (0:Int))
else none
else none
theorem arE (aY) (bV) (h41:(gI aY).holds cl) (h42:(kL bV).holds cl) (x0 x1 x2 x3 x4):exec cl N Hc (fN x0 x1 x2 x3 x4) K=(nY aY bV (fun y0 y1 y2 y3 y4 y5=>K (.exit 1) (SF y0 y1 y2 y3 y4 y5)) (fun y0 y1 y2 y3 y4 y5 y6 y7 y8=>exec cl N By (lr y0 y1 y2 y3 y4 y5 y6 y7 y8) K) x0 x1 x2 x3 x4):=by
 rw [←aJ h41]
 rw [←aJ h42]
 delta Hc
 generalize By=q
 revert q
 refine id ?_
 intro q
 kernel_rfl
theorem Wg (x0 x1 x2 x3 x4 x5 x6 x7 x8):aj [0,5,7,21,22,23,33,34,35] (lr x0 x1 x2 x3 x4 x5 x6 x7 x8)=(lr x0 x1 x2 x3 x4 x5 x6 x7 x8):=by kernel_rfl
def nT (k0:aI→V7→a8→cj→Int→Int→V7→Int→Int→Option R) (k1:aI→V7→a8→cj→Int→Int→V7→Int→Int→Option R) (x0:aI) (x1:V7) (x2:a8) (x3:cj) (x4 x5:Int) (x6:V7) (x7 x8:Int):Option R:=
ad (decide (x8 < x7)) (if 0≤x8∧x8 < (x6.length:Int) then
if x8.toNat < x6.length then
if [x2.2.1].length+(x6.getD x8.toNat []).length≤17592186044416 then
if x1.length+[([x2.2.1]++(x6.getD x8.toNat []))].length≤5864062014805 then
k0 x0 (x1++[([x2.2.1]++(x6.getD x8.toNat []))]) x2 x3 x4 x5 x6 x7 (IntKind.i64.wrap (x8+(1:Int)))
else none
else none
else none
else none) (k1 x0 x1 x2 x3 x4 x5 x6 x7 x8)
theorem arz (x0 x1 x2 x3 x4 x5 x6 x7 x8):exec cl N Ha (lr x0 x1 x2 x3 x4 x5 x6 x7 x8) K=(nT (fun y0 y1 y2 y3 y4 y5 y6 y7 y8=>K .normal (lr y0 y1 y2 y3 y4 y5 y6 y7 y8)) (fun y0 y1 y2 y3 y4 y5 y6 y7 y8=>K (.exit 2) (lr y0 y1 y2 y3 y4 y5 y6 y7 y8)) x0 x1 x2 x3 x4 x5 x6 x7 x8):=by
 kernel_rfl
def td {R:Type} (k0:aI→V7→a8→cj→Int→Int→V7→Int→Int→Option R):Nat→aI→V7→a8→cj→Int→Int→V7→Int→Int→Option R
 | 0,_,_,_,_,_,_,_,_,_=>none
 | m+1,x0,x1,x2,x3,x4,x5,x6,x7,x8=>(nT (td k0 m) k0 x0 x1 x2 x3 x4 x5 x6 x7 x8)
theorem ag2:∀ (m) (x0 x1 x2 x3 x4 x5 x6 x7 x8),iter [0,5,7,21,22,23,33,34,35] (fun env K=>exec cl N Ha env K) K m (lr x0 x1 x2 x3 x4 x5 x6 x7 x8)=td (fun y0 y1 y2 y3 y4 y5 y6 y7 y8=>K (.exit 2) (lr y0 y1 y2 y3 y4 y5 y6 y7 y8)) m x0 x1 x2 x3 x4 x5 x6 x7 x8:=by
 intro m
 induction m with
 | zero=>intros; rfl
 | succ m ih=>
   intro x0 x1 x2 x3 x4 x5 x6 x7 x8
   simp only [bX,arz,bZ,bY,b5,Wg,ih]
   rfl
theorem aej (x0 x1 x2 x3 x4 x5 x6 x7 x8):aj [0,5,21,22,23] (lr x0 x1 x2 x3 x4 x5 x6 x7 x8)=(fN x0 x1 x3 x4 x5):=by kernel_rfl
def nX (N:Nat) (k0:aI→V7→cj→Int→Int→Option R) (x0:aI) (x1:V7) (x2:a8) (x3:cj) (x4 x5:Int) (x6:V7) (x7 x8:Int):Option R:=
td (fun y0 y1 y2 y3 y4 y5 y6 y7 y8=>k0 y0 y1 y3 y4 y5) N x0 x1 x2 x3 x4 x5 x6 x7 x8
theorem arD (x0 x1 x2 x3 x4 x5 x6 x7 x8):exec cl N Hb (lr x0 x1 x2 x3 x4 x5 x6 x7 x8) K=(nX N (fun y0 y1 y2 y3 y4=>K (.exit 2) (fN y0 y1 y2 y3 y4)) x0 x1 x2 x3 x4 x5 x6 x7 x8):=by
 simp only [Hb,aT,bW,Wg,ag2,aej]
 rfl
theorem aek (x0 x1 x2 x3 x4 x5):aj [0,5,21,22,23] (SF x0 x1 x2 x3 x4 x5)=(fN x0 x1 x3 x4 x5):=by kernel_rfl
def nZ (N:Nat) (aY:aI→a8→Option gU) (bV:aI→a8→Option ka) (k0:aI→V7→cj→Int→Int→Option R) (x0:aI) (x1:V7) (x2:cj) (x3 x4:Int):Option R:=
(nY aY bV (fun y0 y1 y2 y3 y4 y5=>(k0 y0 y1 y3 y4 y5)) (nX N k0) x0 x1 x2 x3 x4)
theorem arF (aY) (bV) (h41:(gI aY).holds cl) (h42:(kL bV).holds cl) (x0 x1 x2 x3 x4):exec cl N Hd (fN x0 x1 x2 x3 x4) K=(nZ N aY bV (fun y0 y1 y2 y3 y4=>K .normal (fN y0 y1 y2 y3 y4)) x0 x1 x2 x3 x4):=by
 simp only [Hd,aT,ca,bQ,bT,bS,bU,arE aY bV h41 h42,By,arD,b8,b9,b7,LM,aek]
 rfl
def n0 (k0:aI→V7→cj→Int→Int→Option R) (x0:aI) (x1:V7) (x2:cj) (x3 x4:Int):Option R:=
k0 x0 x1 x2 x3 (IntKind.i64.wrap (x4+(1:Int)))
theorem arG (x0 x1 x2 x3 x4):exec cl N Qb (fN x0 x1 x2 x3 x4) K=(n0 (fun y0 y1 y2 y3 y4=>K .normal (fN y0 y1 y2 y3 y4)) x0 x1 x2 x3 x4):=by
 kernel_rfl
def n8 (N:Nat) (aY:aI→a8→Option gU) (bV:aI→a8→Option ka) (k0:aI→V7→cj→Int→Int→Option R) (k1:aI→V7→cj→Int→Int→Option R) (x0:aI) (x1:V7) (x2:cj) (x3 x4:Int):Option R:=
(n7 (nZ N aY bV (n0 k0)) k1 x0 x1 x2 x3 x4)
theorem arI (aY) (bV) (h41:(gI aY).holds cl) (h42:(kL bV).holds cl) (x0 x1 x2 x3 x4):exec cl N uD (fN x0 x1 x2 x3 x4) K=(n8 N aY bV (fun y0 y1 y2 y3 y4=>K .normal (fN y0 y1 y2 y3 y4)) (fun y0 y1 y2 y3 y4=>K (.exit 0) (fN y0 y1 y2 y3 y4)) x0 x1 x2 x3 x4):=by
 simp only [bQ,bT,bS,bU,arH,Bz,arF aY bV h41 h42,arG]
 rfl
def oe {R:Type} (N:Nat) (aY:aI→a8→Option gU) (bV:aI→a8→Option ka) (k0:aI→V7→cj→Int→Int→Option R):Nat→aI→V7→cj→Int→Int→Option R
 | 0,_,_,_,_,_=>none
 | m+1,x0,x1,x2,x3,x4=>(n8 N aY bV (oe N aY bV k0 m) k0 x0 x1 x2 x3 x4)
theorem ag3 (aY) (bV) (h41:(gI aY).holds cl) (h42:(kL bV).holds cl):∀ (m) (x0 x1 x2 x3 x4),iter [0,5,21,22,23] (fun env K=>exec cl N uD env K) K m (fN x0 x1 x2 x3 x4)=oe N aY bV (fun y0 y1 y2 y3 y4=>K (.exit 0) (fN y0 y1 y2 y3 y4)) m x0 x1 x2 x3 x4:=by
 intro m
 induction m with
 | zero=>intros; rfl
 | succ m ih=>
   intro x0 x1 x2 x3 x4
   simp only [bX,arI aY bV h41 h42,bZ,bY,b5,LM,ih]
   rfl
theorem ael (x0 x1 x2 x3 x4):aj [0,5] (fN x0 x1 x2 x3 x4)=(uU x0 x1):=by kernel_rfl
def n9 (N:Nat) (aY:aI→a8→Option gU) (bV:aI→a8→Option ka) (k0:aI→V7→Option R) (x0:aI) (x1:V7) (x2:cj) (x3 x4:Int):Option R:=
oe N aY bV (fun y0 y1 y2 y3 y4=>k0 y0 y1) N x0 x1 x2 x3 x4
theorem arJ (aY) (bV) (h41:(gI aY).holds cl) (h42:(kL bV).holds cl) (x0 x1 x2 x3 x4):exec cl N He (fN x0 x1 x2 x3 x4) K=(n9 N aY bV (fun y0 y1=>K (.exit 0) (uU y0 y1)) x0 x1 x2 x3 x4):=by
 simp only [He,aT,bW,LM,ag3 aY bV h41 h42,ael]
 rfl
theorem aem (x0 x1):aj [0,5] (uU x0 x1)=(uU x0 x1):=by kernel_rfl
def nU (k0:aI→V7→Option R) (x0:aI) (x1:V7):Option R:=
k0 x0 x1
theorem arA (x0 x1):exec cl N Qa (uU x0 x1) K=(nU (fun y0 y1=>K .ret (Jy y0 y1)) x0 x1):=by
 kernel_rfl
def nW (N:Nat) (aY:aI→a8→Option gU) (bV:aI→a8→Option ka) (cy:aI→a8→Option nC) (k0:aI→V7→Option R) (k1:aI→V7→Option R) (x0:aI) (x1:a8):Option R:=
(nV k0 (nS cy (n9 N aY bV ((nU k1)))) x0 x1)
theorem arC (aY) (bV) (cy) (h41:(gI aY).holds cl) (h42:(kL bV).holds cl) (h74:(kN cy).holds cl) (x0 x1):exec cl N Bx (rB x0 x1) K=(nW N aY bV cy (fun y0 y1=>K .ret (Jx y0 y1)) (fun y0 y1=>K .ret (Jy y0 y1)) x0 x1):=by
 simp only [bQ,bT,bS,bU,arB,Bw,P9,ary cy h74,P8,aT,ca,arJ aY bV h41 h42,b8,b9,b7,aem,arA]
 rfl
theorem ak5 (y0 y1):ag d42 .ret (Jx y0 y1)=some [.loc bG (.pair .no (.pair .no (.pair .mp .no))) y0,.own true 27 U5 .no y1]:=by kernel_rfl
theorem ak6 (y0 y1):ag d42 .ret (Jy y0 y1)=some [.loc bG (.pair .no (.pair .no (.pair .mp .no))) y0,.own true 27 U5 .no y1]:=by kernel_rfl
def nc (N:Nat) (aY:aI→a8→Option gU) (bV:aI→a8→Option ka) (cy:aI→a8→Option nC) (x0:aI) (x1:a8) (k:aI→V7→Option R):Option R:=
(nW N aY bV cy k k x0 x1)
theorem aae (aY) (bV) (cy) (h41:(gI aY).holds cl) (h42:(kL bV).holds cl) (h74:(kN cy).holds cl) (x0 x1) (k:List E→Option R):exec cl N G9 (rB x0 x1) (fun e env=>(ag d42 e env).bind k)=nc N aY bV cy x0 x1 (fun r0 r1=>k [.loc bG (.pair .no (.pair .no (.pair .mp .no))) r0,.own true 27 U5 .no r1]):=by
 simp only [G9,arC aY bV cy h41 h42 h74,ak5,ak6,aq]
 rfl
def nA (N:Nat):Nat→aI→a8→Option ka
 | 0,_,_=>none
 | m+1,x0,x1=>nc N (aY N) (nA N m) (cy N) x0 x1 (fun (r0:aI) (r1:V7)=>some (r0,r1))
def bV (N:Nat) (x0:aI) (x1:a8):Option ka:=nA N 250 x0 x1
def xA (k0:V0→ae→Int→Option R) (x0:ae) (x1:V0):Option R:=
k0 x1 x0 (0:Int)
theorem arh (x0 x1):exec cl N Br (gd x0 x1) K=(xA (fun y0 y1 y2=>exec cl N Bq (jw y0 y1 y2) K) x0 x1):=by
 delta Br
 generalize Bq=q
 revert q
 refine id ?_
 intro q
 kernel_rfl
def xw (k0:ae→Int→V0→Int→Int→Option R) (x0:V0) (x1:ae) (x2:Int):Option R:=
k0 x1 x2 x0 (x0.length:Int) (0:Int)
theorem arb (x0 x1 x2):exec cl N PU (jw x0 x1 x2) K=(xw (fun y0 y1 y2 y3 y4=>K .normal (lu y0 y1 y2 y3 y4)) x0 x1 x2):=by
 kernel_rfl
theorem Wd (x0 x1 x2 x3 x4):aj [2,5,8,9,10] (lu x0 x1 x2 x3 x4)=(lu x0 x1 x2 x3 x4):=by kernel_rfl
def xx (k0:ae→Int→V0→Int→Int→Option R) (k1:ae→Int→V0→Int→Int→Option R) (x0:ae) (x1:Int) (x2:V0) (x3 x4:Int):Option R:=
ad (decide (x4 < x3)) (if 0≤x4∧x4 < (x2.length:Int) then
if 0≤(x2.getD x4.toNat (0:Int))∧(x2.getD x4.toNat (0:Int)) < (x0.2.1.length:Int) then
k0 x0 (IntKind.i64.wrap (x1+(x0.2.1.getD (x2.getD x4.toNat (0:Int)).toNat ([],([],((0:Int),((0:Int),()))))).2.2.1)) x2 x3 (IntKind.i64.wrap (x4+(1:Int)))
else none
else none) (k1 x0 x1 x2 x3 x4)
theorem arc (x0 x1 x2 x3 x4):exec cl N GX (lu x0 x1 x2 x3 x4) K=(xx (fun y0 y1 y2 y3 y4=>K .normal (lu y0 y1 y2 y3 y4)) (fun y0 y1 y2 y3 y4=>K (.exit 0) (lu y0 y1 y2 y3 y4)) x0 x1 x2 x3 x4):=by
 kernel_rfl
def s9 {R:Type} (k0:ae→Int→V0→Int→Int→Option R):Nat→ae→Int→V0→Int→Int→Option R
 | 0,_,_,_,_,_=>none
 | m+1,x0,x1,x2,x3,x4=>(xx (s9 k0 m) k0 x0 x1 x2 x3 x4)
theorem agZ:∀ (m) (x0 x1 x2 x3 x4),iter [2,5,8,9,10] (fun env K=>exec cl N GX env K) K m (lu x0 x1 x2 x3 x4)=s9 (fun y0 y1 y2 y3 y4=>K (.exit 0) (lu y0 y1 y2 y3 y4)) m x0 x1 x2 x3 x4:=by
 intro m
 induction m with
 | zero=>intros; rfl
 | succ m ih=>
   intro x0 x1 x2 x3 x4
   simp only [bX,arc,bZ,bY,b5,Wd,ih]
   rfl
theorem aed (x0 x1 x2 x3 x4):aj [5] (lu x0 x1 x2 x3 x4)=[(5,.v U2 x1)]:=by kernel_rfl
def xy (N:Nat) (k0:Int→Option R) (x0:ae) (x1:Int) (x2:V0) (x3 x4:Int):Option R:=
s9 (fun y0 y1 y2 y3 y4=>k0 y1) N x0 x1 x2 x3 x4
theorem ard (x0 x1 x2 x3 x4):exec cl N GY (lu x0 x1 x2 x3 x4) K=(xy N (fun y0=>K (.exit 0) [(5,.v U2 y0)]) x0 x1 x2 x3 x4):=by
 simp only [GY,aT,bW,Wd,agZ,aed]
 rfl
theorem aee (x0):aj [5] [(5,.v U2 x0)]=[(5,.v U2 x0)]:=by kernel_rfl
def xz (k0:Int→Option R) (x0:Int):Option R:=
k0 x0
theorem arf (x0):exec cl N PX [(5,.v U2 x0)] K=(xz (fun y0=>K .ret [(4,.v U2 y0)]) x0):=by
 kernel_rfl
def xB (N:Nat) (k0:Int→Option R) (x0:ae) (x1:V0):Option R:=
(xA (xw (xy N ((xz k0)))) x0 x1)
theorem ari (x0 x1):exec cl N Br (gd x0 x1) K=(xB N (fun y0=>K .ret [(4,.v U2 y0)]) x0 x1):=by
 simp only [bQ,bT,bS,bU,arh,Bq,PW,arb,PV,aT,ca,ard,b8,b9,b7,aee,arf]
 rfl
theorem akZ (y0):ag d38 .ret [(4,.v U2 y0)]=some [.v U2 y0]:=by kernel_rfl
def se (N:Nat) (x0:ae) (x1:V0) (k:Int→Option R):Option R:=
(xB N k x0 x1)
theorem aaa (x0 x1) (k:List E→Option R):exec cl N GW (gd x0 x1) (fun e env=>(ag d38 e env).bind k)=se N x0 x1 (fun r0=>k [.v U2 r0]):=by
 simp only [GW,ari,akZ,aq]
 rfl
def nN (S:ae→V0→Option (Int)):aN:=dT 38 ar U5 S fun b=> [.v U2 b]
def ct (N:Nat) (x0:ae) (x1:V0):Option (Int):=se N x0 x1 (fun (r0:Int)=>some (r0))
def K5 (k0:Bool→Option R) (x0:Int):Option R:=
k0 (x0 != x0)
theorem atk (x0):exec cl N Rv [(0,.v U2 x0)] K=(K5 (fun y0=>K .ret [(2,.v .bool y0)]) x0):=by
 kernel_rfl
theorem alQ (y0):ag d77 .ret [(2,.v .bool y0)]=some [.v .bool y0]:=by kernel_rfl
def Dq (x0:Int) (k:Bool→Option R):Option R:=
(K5 k x0)
theorem aay (x0) (k:List E→Option R):exec cl N H6 [(0,.v U2 x0)] (fun e env=>(ag d77 e env).bind k)=Dq x0 (fun r0=>k [.v .bool r0]):=by
 simp only [H6,atk,alQ,aq]
 rfl
def Jh (S:Int→Option (Bool)):aN:=cC 77 U2 S fun b=> [.v .bool b]
def gR (N:Nat) (x0:Int):Option (Bool):=Dq x0 (fun (r0:Bool)=>some (r0))
def KP (gR:Int→Option (Bool)) (k0:Int→Option R) (k1:Int→Option R) (k2:Int→Option R) (x0 x1:Int):Option R:=
(gR x0).bind fun r1316=>
(gR x1).bind fun r1317=>
ad r1316 (ad r1317 (k0 (0:Int)) (k0 (-1:Int))) (ad r1317 (k1 (1:Int)) (ad (decide (x0 < x1)) (k1 (-1:Int)) (ad (decide (x0 > x1)) (k2 (1:Int)) (k2 (0:Int)))))
theorem arR (gR) (h77:(Jh gR).holds cl) (x0 x1):exec cl N Qh (CI x0 x1) K=(KP gR (fun y0=>K .ret [(0,.dead),(1,.dead),(4,.v U2 y0),(6,.dead)]) (fun y0=>K .ret (lV y0)) (fun y0=>K .ret [(4,.v U2 y0)]) x0 x1):=by
 rw [←aJ h77]
 kernel_rfl
theorem ala (y0):ag d46 .ret [(0,.dead),(1,.dead),(4,.v U2 y0),(6,.dead)]=some [.v U2 y0]:=by kernel_rfl
theorem alb (y0):ag d46 .ret (lV y0)=some [.v U2 y0]:=by kernel_rfl
theorem alc (y0):ag d46 .ret [(4,.v U2 y0)]=some [.v U2 y0]:=by kernel_rfl
def Di (gR:Int→Option (Bool)) (x0 x1:Int) (k:Int→Option R):Option R:=
(KP gR k k k x0 x1)
theorem aah (gR) (h77:(Jh gR).holds cl) (x0 x1) (k:List E→Option R):exec cl N Hj (CI x0 x1) (fun e env=>(ag d46 e env).bind k)=Di gR x0 x1 (fun r0=>k [.v U2 r0]):=by
 simp only [Hj,arR gR h77,ala,alb,alc,aq]
 rfl
def nO (S:Int→Int→Option (Int)):aN:=dT 46 U2 U2 S fun b=> [.v U2 b]
def cx (N:Nat) (x0:Int) (x1:Int):Option (Int):=Di (gR N) x0 x1 (fun (r0:Int)=>some (r0))
def xO (k0:V0→V0→Option R) (x0 x1:V0):Option R:=
k0 x0 x1
theorem arS (x0 x1):exec cl N Qi (kQ x0 x1) K=(xO (fun y0 y1=>K .normal (kQ y0 y1)) x0 x1):=by
 kernel_rfl
def xP (k0:V0→V0→V0→Int→Int→Option R) (x0 x1:V0):Option R:=
k0 x0 x1 x0 (x0.length:Int) (0:Int)
theorem arT (x0 x1):exec cl N Qj (kQ x0 x1) K=(xP (fun y0 y1 y2 y3 y4=>K .normal (lv y0 y1 y2 y3 y4)) x0 x1):=by
 kernel_rfl
theorem Wi (x0 x1 x2 x3 x4):aj [0,1,9,10,11] (lv x0 x1 x2 x3 x4)=(lv x0 x1 x2 x3 x4):=by kernel_rfl
def xQ (cx:Int→Int→Option (Int)) (k0:Int→Option R) (k1:V0→V0→V0→Int→Int→Option R) (k2:V0→V0→V0→Int→Int→Option R) (x0 x1 x2:V0) (x3 x4:Int):Option R:=
ad (decide (x4 < x3)) (if 0≤x4∧x4 < (x2.length:Int) then
ad (decide (x4≥(x1.length:Int))) (k0 (1:Int)) (if 0≤x4∧x4 < (x1.length:Int) then
(cx (x2.getD x4.toNat (0:Int)) (x1.getD x4.toNat (0:Int))).bind fun r1329=>
ad (r1329 != (0:Int)) (k0 r1329) (k1 x0 x1 x2 x3 (IntKind.i64.wrap (x4+(1:Int))))
else none)
else none) (k2 x0 x1 x2 x3 x4)
theorem arU (cx) (h46:(nO cx).holds cl) (x0 x1 x2 x3 x4):exec cl N Hl (lv x0 x1 x2 x3 x4) K=(xQ cx (fun y0=>K .ret (Jz y0)) (fun y0 y1 y2 y3 y4=>K .normal (lv y0 y1 y2 y3 y4)) (fun y0 y1 y2 y3 y4=>K (.exit 0) (lv y0 y1 y2 y3 y4)) x0 x1 x2 x3 x4):=by
 rw [←aJ h46]
 kernel_rfl
def te {R:Type} (cx:Int→Int→Option (Int)) (k0:Int→Option R) (k1:V0→V0→V0→Int→Int→Option R):Nat→V0→V0→V0→Int→Int→Option R
 | 0,_,_,_,_,_=>none
 | m+1,x0,x1,x2,x3,x4=>(xQ cx k0 (te cx k0 k1 m) k1 x0 x1 x2 x3 x4)
theorem ag5 (cx) (h46:(nO cx).holds cl):∀ (m) (x0 x1 x2 x3 x4),iter [0,1,9,10,11] (fun env K=>exec cl N Hl env K) K m (lv x0 x1 x2 x3 x4)=te cx (fun y0=>K .ret (Jz y0)) (fun y0 y1 y2 y3 y4=>K (.exit 0) (lv y0 y1 y2 y3 y4)) m x0 x1 x2 x3 x4:=by
 intro m
 induction m with
 | zero=>intros; rfl
 | succ m ih=>
   intro x0 x1 x2 x3 x4
   simp only [bX,arU cx h46,bZ,bY,b5,Wi,ih]
   rfl
theorem aer (x0):aj [0,1,4] (Jz x0)=(lV x0):=by kernel_rfl
theorem aes (x0 x1 x2 x3 x4):aj [0,1,4] (lv x0 x1 x2 x3 x4)=(mY x0 x1):=by kernel_rfl
def xR (N:Nat) (cx:Int→Int→Option (Int)) (k0:Int→Option R) (k1:V0→V0→Option R) (x0 x1 x2:V0) (x3 x4:Int):Option R:=
te cx k0 (fun y0 y1 y2 y3 y4=>k1 y0 y1) N x0 x1 x2 x3 x4
theorem arV (cx) (h46:(nO cx).holds cl) (x0 x1 x2 x3 x4):exec cl N Hm (lv x0 x1 x2 x3 x4) K=(xR N cx (fun y0=>K .ret (lV y0)) (fun y0 y1=>K (.exit 0) (mY y0 y1)) x0 x1 x2 x3 x4):=by
 simp only [Hm,aT,bW,Wi,ag5 cx h46,aer,aes]
 rfl
theorem aet (x0):aj [0,1,4] (lV x0)=(lV x0):=by kernel_rfl
theorem aeu (x0 x1):aj [0,1,4] (mY x0 x1)=(mY x0 x1):=by kernel_rfl
def xS (k0:Int→Option R) (x0 x1:V0):Option R:=
ad (decide ((x0.length:Int) < (x1.length:Int))) (k0 (-1:Int)) (k0 (0:Int))
theorem arW (x0 x1):exec cl N Qm (mY x0 x1) K=(xS (fun y0=>K .ret [(4,.v U2 y0)]) x0 x1):=by
 kernel_rfl
def xT (N:Nat) (cx:Int→Int→Option (Int)) (k0:Int→Option R) (k1:Int→Option R) (x0 x1:V0):Option R:=
(xO (xP (xR N cx k0 ((xS k1)))) x0 x1)
theorem arX (cx) (h46:(nO cx).holds cl) (x0 x1):exec cl N Hn (kQ x0 x1) K=(xT N cx (fun y0=>K .ret (lV y0)) (fun y0=>K .ret [(4,.v U2 y0)]) x0 x1):=by
 simp only [Hn,bQ,bT,bS,bU,arS,Qn,Ql,arT,Qk,aT,ca,arV cx h46,b8,b9,b7,aet,aeu,arW]
 rfl
theorem ald (y0):ag d47 .ret (lV y0)=some [.v U2 y0]:=by kernel_rfl
theorem ale (y0):ag d47 .ret [(4,.v U2 y0)]=some [.v U2 y0]:=by kernel_rfl
def ss (N:Nat) (cx:Int→Int→Option (Int)) (x0 x1:V0) (k:Int→Option R):Option R:=
(xT N cx k k x0 x1)
theorem aai (cx) (h46:(nO cx).holds cl) (x0 x1) (k:List E→Option R):exec cl N Hk (kQ x0 x1) (fun e env=>(ag d47 e env).bind k)=ss N cx x0 x1 (fun r0=>k [.v U2 r0]):=by
 simp only [Hk,arX cx h46,ald,ale,aq]
 rfl
def Je (S:V0→V0→Option (Int)):aN:=dT 47 U5 U5 S fun b=> [.v U2 b]
def iw (N:Nat) (x0:V0) (x1:V0):Option (Int):=ss N (cx N) x0 x1 (fun (r0:Int)=>some (r0))
def sq (k0:V0→Int→Option R) (x0:V0):Option R:=
k0 x0 (0:Int)
theorem arP (x0):exec cl N BB [(0,.v U5 x0)] K=(sq (fun y0 y1=>exec cl N BA [(0,.v U5 y0),(3,.v U2 y1)] K) x0):=by
 delta BB
 generalize BA=q
 revert q
 refine id ?_
 intro q
 kernel_rfl
def si (k0:Int→V0→Int→Int→Option R) (x0:V0) (x1:Int):Option R:=
k0 x1 x0 (x0.length:Int) (0:Int)
theorem arL (x0 x1):exec cl N Qd [(0,.v U5 x0),(3,.v U2 x1)] K=(si (fun y0 y1 y2 y3=>K .normal (ly y0 y1 y2 y3)) x0 x1):=by
 kernel_rfl
theorem Wh (x0 x1 x2 x3):aj [3,6,7,8] (ly x0 x1 x2 x3)=(ly x0 x1 x2 x3):=by kernel_rfl
def sj (k0:Int→Option R) (k1:Int→V0→Int→Int→Option R) (k2:Int→V0→Int→Int→Option R) (x0:Int) (x1:V0) (x2 x3:Int):Option R:=
ad (decide (x3 < x2)) (if 0≤x3∧x3 < (x1.length:Int) then
ad ((x1.getD x3.toNat (0:Int)) != x0) (k0 (x1.getD x3.toNat (0:Int))) (k1 x0 x1 x2 (IntKind.i64.wrap (x3+(1:Int))))
else none) (k2 x0 x1 x2 x3)
theorem arM (x0 x1 x2 x3):exec cl N Hh (ly x0 x1 x2 x3) K=(sj (fun y0=>K .ret (JA y0)) (fun y0 y1 y2 y3=>K .normal (ly y0 y1 y2 y3)) (fun y0 y1 y2 y3=>K (.exit 0) (ly y0 y1 y2 y3)) x0 x1 x2 x3):=by
 kernel_rfl
def nh {R:Type} (k0:Int→Option R) (k1:Int→V0→Int→Int→Option R):Nat→Int→V0→Int→Int→Option R
 | 0,_,_,_,_=>none
 | m+1,x0,x1,x2,x3=>(sj k0 (nh k0 k1 m) k1 x0 x1 x2 x3)
theorem ag4:∀ (m) (x0 x1 x2 x3),iter [3,6,7,8] (fun env K=>exec cl N Hh env K) K m (ly x0 x1 x2 x3)=nh (fun y0=>K .ret (JA y0)) (fun y0 y1 y2 y3=>K (.exit 0) (ly y0 y1 y2 y3)) m x0 x1 x2 x3:=by
 intro m
 induction m with
 | zero=>intros; rfl
 | succ m ih=>
   intro x0 x1 x2 x3
   simp only [bX,arM,bZ,bY,b5,Wh,ih]
   rfl
theorem aen (x0):aj [2,3] (JA x0)=(kj x0):=by kernel_rfl
theorem aeo (x0 x1 x2 x3):aj [2,3] (ly x0 x1 x2 x3)=(jc x0):=by kernel_rfl
def sk (N:Nat) (k0:Int→Option R) (k1:Int→Option R) (x0:Int) (x1:V0) (x2 x3:Int):Option R:=
nh k0 (fun y0 y1 y2 y3=>k1 y0) N x0 x1 x2 x3
theorem arN (x0 x1 x2 x3):exec cl N Hi (ly x0 x1 x2 x3) K=(sk N (fun y0=>K .ret (kj y0)) (fun y0=>K (.exit 0) (jc y0)) x0 x1 x2 x3):=by
 simp only [Hi,aT,bW,Wh,ag4,aen,aeo]
 rfl
theorem aep (x0):aj [2,3] (kj x0)=(kj x0):=by kernel_rfl
theorem aeq (x0):aj [2,3] (jc x0)=(jc x0):=by kernel_rfl
def sn (k0:Int→Option R) (x0:Int):Option R:=
k0 x0
theorem arO (x0):exec cl N Qg (jc x0) K=(sn (fun y0=>K .ret [(2,.v U2 y0)]) x0):=by
 kernel_rfl
def sr (N:Nat) (k0:Int→Option R) (k1:Int→Option R) (x0:V0):Option R:=
(sq (si (sk N k0 ((sn k1)))) x0)
theorem arQ (x0):exec cl N BB [(0,.v U5 x0)] K=(sr N (fun y0=>K .ret (kj y0)) (fun y0=>K .ret [(2,.v U2 y0)]) x0):=by
 simp only [bQ,bT,bS,bU,arP,BA,Qf,arL,Qe,aT,ca,arN,b8,b9,b7,aep,aeq,arO]
 rfl
theorem ak8 (y0):ag d45 .ret (kj y0)=some [.v U2 y0]:=by kernel_rfl
theorem ak9 (y0):ag d45 .ret [(2,.v U2 y0)]=some [.v U2 y0]:=by kernel_rfl
def pH (N:Nat) (x0:V0) (k:Int→Option R):Option R:=
(sr N k k x0)
theorem aag (x0) (k:List E→Option R):exec cl N Hg [(0,.v U5 x0)] (fun e env=>(ag d45 e env).bind k)=pH N x0 (fun r0=>k [.v U2 r0]):=by
 simp only [Hg,arQ,ak8,ak9,aq]
 rfl
def Jd (S:V0→Option (Int)):aN:=cC 45 U5 S fun b=> [.v U2 b]
def iv (N:Nat) (x0:V0):Option (Int):=pH N x0 (fun (r0:Int)=>some (r0))
def KO (ct:ae→V0→Option (Int)) (iv:V0→Option (Int)) (cx:Int→Int→Option (Int)) (iw:V0→V0→Option (Int)) (k0:Int→Option R) (x0 x1:V0) (x2:ae):Option R:=
(ct x2 x0).bind fun r1341=>
(ct x2 x1).bind fun r1342=>
(cx r1341 r1342).bind fun r1343=>
(iw x0 x1).bind fun r1344=>
(iv [r1343,r1344]).bind fun r1345=>
k0 r1345
theorem arK (ct) (iv) (cx) (iw) (h38:(nN ct).holds cl) (h45:(Jd iv).holds cl) (h46:(nO cx).holds cl) (h47:(Je iw).holds cl) (x0 x1 x2):exec cl N Qc [(0,.v U5 x0),(1,.v U5 x1),(2,.at ar x2)] K=(KO ct iv cx iw (fun y0=>K .ret [(5,.v U2 y0)]) x0 x1 x2):=by
 rw [←aJ h38]
 rw [←aJ h45]
 rw [←aJ h46]
 rw [←aJ h47]
 kernel_rfl
theorem ak7 (y0):ag d44 .ret [(5,.v U2 y0)]=some [.v U2 y0]:=by kernel_rfl
def Dh (ct:ae→V0→Option (Int)) (iv:V0→Option (Int)) (cx:Int→Int→Option (Int)) (iw:V0→V0→Option (Int)) (x0 x1:V0) (x2:ae) (k:Int→Option R):Option R:=
(KO ct iv cx iw k x0 x1 x2)
theorem aaf (ct) (iv) (cx) (iw) (h38:(nN ct).holds cl) (h45:(Jd iv).holds cl) (h46:(nO cx).holds cl) (h47:(Je iw).holds cl) (x0 x1 x2) (k:List E→Option R):exec cl N Hf [(0,.v U5 x0),(1,.v U5 x1),(2,.at ar x2)] (fun e env=>(ag d44 e env).bind k)=Dh ct iv cx iw x0 x1 x2 (fun r0=>k [.v U2 r0]):=by
 simp only [Hf,arK ct iv cx iw h38 h45 h46 h47,ak7,aq]
 rfl
def Jc (S:V0→V0→ae→Option (Int)):aN:={A:=V0×V0×ae×Unit,B:=Int,f:=44,enc:=fun a=> [.v U5 a.1,.v U5 a.2.1,.at ar a.2.2.1],dec:=(bj (bM U5) (bj (bM U5) (bj (oZ ar) cz))),S:=fun a=>S a.1 a.2.1 a.2.2.1,aw:=fun b=> [.v U2 b],ok:=(gz (T:=U5) (gz (T:=U5) (CC (T:=ar) (fun es b h=>jv h))))}
def gF (N:Nat) (x0:V0) (x1:V0) (x2:ae):Option (Int):=Dh (ct N) (iv N) (cx N) (iw N) x0 x1 x2 (fun (r0:Int)=>some (r0))
def KK (cd:ae→V3→Option (Int)) (aY:aI→a8→Option gU) (bV:aI→a8→Option ka) (eQ:Aj→V7→Option EA) (gF:V0→V0→ae→Option (Int)) (k0:V7→Int→Option R) (k1:V7→Int→Option R) (k2:Int→V7→Option R) (x0:ae) (x1:V3):Option R:=
(cd x0 x1).bind fun r1349=>
ad (r1349 != (0:Int)) (k0 [] r1349) (let v1351:a8:=((-1:Int),(-1:Int),(0:Int),())
(aY (x0,x1,[],()) v1351).bind fun r1352=>
ad (r1352.2==(0:Int)) (k1 [] (9:Int)) (ad (decide (r1352.2 > (200:Int))) (k1 [] (3:Int)) ((bV r1352.1 v1351).bind fun r1355=>
(eQ (fun (x1356:(V0×V9))=>((gF x1356.1 x1356.2.1 x0).bind fun b1357=>some [.v U2 b1357]).bind (j0 U2)) r1355.2).bind fun r1358=>
k2 (0:Int) r1358)))
theorem ap9 (cd) (aY) (bV) (eQ) (gF) (h40:(mV cd).holds cl) (h41:(gI aY).holds cl) (h42:(kL bV).holds cl) (h43:(jV eQ).holds cl) (h44:(Jc gF).holds cl) (x0 x1):exec cl N O7 (kP x0 x1) K=(KK cd aY bV eQ gF (fun y0 y1=>K .ret (SG y0 y1)) (fun y0 y1=>K .ret (SH y0 y1)) (fun y0 y1=>K .ret (SI y0 y1)) x0 x1):=by
 rw [←aJ h40]
 rw [←aJ h41]
 rw [←aJ h42]
 rw [←aJ h43]
 rw [←aJ h44]
 kernel_rfl
theorem akC (y0 y1):ag d16 .ret (SG y0 y1)=some [.own true 27 U5 .no y0,.v U2 y1]:=by kernel_rfl
theorem akD (y0 y1):ag d16 .ret (SH y0 y1)=some [.own true 27 U5 .no y0,.v U2 y1]:=by kernel_rfl
theorem akE (y0 y1):ag d16 .ret (SI y0 y1)=some [.own true 27 U5 .no y1,.v U2 y0]:=by kernel_rfl
def g16 (cd:ae→V3→Option (Int)) (aY:aI→a8→Option gU) (bV:aI→a8→Option ka) (eQ:Aj→V7→Option EA) (gF:V0→V0→ae→Option (Int)) (x0:ae) (x1:V3) (k:V7→Int→Option R):Option R:=
(KK cd aY bV eQ gF k k (fun y0 y1=>k y1 y0) x0 x1)
theorem ZY (cd) (aY) (bV) (eQ) (gF) (h40:(mV cd).holds cl) (h41:(gI aY).holds cl) (h42:(kL bV).holds cl) (h43:(jV eQ).holds cl) (h44:(Jc gF).holds cl) (x0 x1) (k:List E→Option R):exec cl N Gh (kP x0 x1) (fun e env=>(ag d16 e env).bind k)=g16 cd aY bV eQ gF x0 x1 (fun r0 r1=>k [.own true 27 U5 .no r0,.v U2 r1]):=by
 simp only [Gh,ap9 cd aY bV eQ gF h40 h41 h42 h43 h44,akC,akD,akE,aq]
 rfl
def oV (S:ae→V3→Option nB):aN:=dT 16 ar .str S fun b=> [.own true 27 U5 .no b.1,.v U2 b.2]
def cK (N:Nat) (x0:ae) (x1:V3):Option nB:=g16 (cd N) (aY N) (bV N) (eQ N) (gF N) x0 x1 (fun (r0:V7) (r1:Int)=>some (r0,r1))
def Kx (cK:ae→V3→Option nB) (ct:ae→V0→Option (Int)) (k0:V0→Int→Int→Option R) (k1:V0→Int→Int→Option R) (x0:ae) (x1:V3):Option R:=
(cK x0 x1).bind fun r1366=>
ad (r1366.2 != (0:Int)) (k0 [] (0:Int) r1366.2) (if 0≤(0:Int)∧(0:Int) < (r1366.1.length:Int) then
if ((0:Int).toNat) < r1366.1.length then
if 0≤(0:Int)∧(0:Int) < (r1366.1.length:Int) then
if ((0:Int).toNat) < r1366.1.length then
(ct x0 (r1366.1.getD ((0:Int).toNat) [])).bind fun r1370=>
k1 (r1366.1.getD ((0:Int).toNat) []) r1370 (0:Int)
else none
else none
else none
else none)
theorem apj (cK) (ct) (h16:(oV cK).holds cl) (h38:(nN ct).holds cl) (x0 x1):exec cl N Ot (kP x0 x1) K=(Kx cK ct (fun y0 y1 y2=>K .ret (SJ y0 y1 y2)) (fun y0 y1 y2=>K .ret [(4,.v U5 y0),(5,.v U2 y1),(6,.v U2 y2)]) x0 x1):=by
 rw [←aJ h16]
 rw [←aJ h38]
 kernel_rfl
theorem akc (y0 y1 y2):ag d13 .ret (SJ y0 y1 y2)=some [.v U5 y0,.v U2 y1,.v U2 y2]:=by kernel_rfl
theorem akd (y0 y1 y2):ag d13 .ret [(4,.v U5 y0),(5,.v U2 y1),(6,.v U2 y2)]=some [.v U5 y0,.v U2 y1,.v U2 y2]:=by kernel_rfl
def g13 (cK:ae→V3→Option nB) (ct:ae→V0→Option (Int)) (x0:ae) (x1:V3) (k:V0→Int→Int→Option R):Option R:=
(Kx cK ct k k x0 x1)
theorem ZC (cK) (ct) (h16:(oV cK).holds cl) (h38:(nN ct).holds cl) (x0 x1) (k:List E→Option R):exec cl N Fx (kP x0 x1) (fun e env=>(ag d13 e env).bind k)=g13 cK ct x0 x1 (fun r0 r1 r2=>k [.v U5 r0,.v U2 r1,.v U2 r2]):=by
 simp only [Fx,apj cK ct h16 h38,akc,akd,aq]
 rfl
def uM (S:ae→V3→Option qL):aN:=dT 13 ar .str S fun b=> [.v U5 b.1,.v U2 b.2.1,.v U2 b.2.2]
def er (N:Nat) (x0:ae) (x1:V3):Option qL:=g13 (cK N) (ct N) x0 x1 (fun (r0:V0) (r1:Int) (r2:Int)=>some (r0,r1,r2))
def ye (k0:V0→ae→V3→Option R) (x0:ae) (x1:V0):Option R:=
k0 x1 x0 ([]:List UInt8)
theorem asb (x0 x1):exec cl N BF (gd x0 x1) K=(ye (fun y0 y1 y2=>exec cl N BE [(1,.v U5 y0),(2,.loc ar .no y1),(6,.sb 123 5 y2)] K) x0 x1):=by
 delta BF
 generalize BE=q
 revert q
 refine id ?_
 intro q
 kernel_rfl
def ya (k0:ae→V3→V0→Int→Int→Option R) (x0:V0) (x1:ae) (x2:V3):Option R:=
k0 x1 x2 x0 (x0.length:Int) (0:Int)
theorem ar7 (x0 x1 x2):exec cl N Qv [(1,.v U5 x0),(2,.loc ar .no x1),(6,.sb 123 5 x2)] K=(ya (fun y0 y1 y2 y3 y4=>K .normal (lz y0 y1 y2 y3 y4)) x0 x1 x2):=by
 kernel_rfl
theorem Wk (x0 x1 x2 x3 x4):aj [2,6,9,10,11] (lz x0 x1 x2 x3 x4)=(lz x0 x1 x2 x3 x4):=by kernel_rfl
def yb (cH:V3→V3→Option V6) (k0:V3→Bool→Option R) (k1:ae→V3→V0→Int→Int→Option R) (k2:ae→V3→V0→Int→Int→Option R) (x0:ae) (x1:V3) (x2:V0) (x3 x4:Int):Option R:=
ad (decide (x4 < x3)) (if 0≤x4∧x4 < (x2.length:Int) then
ad (decide ((x2.getD x4.toNat (0:Int)) < (0:Int))) (k0 ([]:List UInt8) false) (ad (decide ((x2.getD x4.toNat (0:Int))≥(x0.2.1.length:Int))) (k0 ([]:List UInt8) false) (if 0≤(x2.getD x4.toNat (0:Int))∧(x2.getD x4.toNat (0:Int)) < (x0.2.1.length:Int) then
(cH x1 ((x0.2.1.getD (x2.getD x4.toNat (0:Int)).toNat ([],([],((0:Int),((0:Int),()))))).1)).bind fun r1384=>
k1 x0 r1384 x2 x3 (IntKind.i64.wrap (x4+(1:Int)))
else none))
else none) (k2 x0 x1 x2 x3 x4)
theorem ar8 (cH) (h84:(iE cH).holds cl) (x0 x1 x2 x3 x4):exec cl N Hv (lz x0 x1 x2 x3 x4) K=(yb cH (fun y0 y1=>K .ret (JB y0 y1)) (fun y0 y1 y2 y3 y4=>K .normal (lz y0 y1 y2 y3 y4)) (fun y0 y1 y2 y3 y4=>K (.exit 0) (lz y0 y1 y2 y3 y4)) x0 x1 x2 x3 x4):=by
 rw [←aJ h84]
 kernel_rfl
def tg {R:Type} (cH:V3→V3→Option V6) (k0:V3→Bool→Option R) (k1:ae→V3→V0→Int→Int→Option R):Nat→ae→V3→V0→Int→Int→Option R
 | 0,_,_,_,_,_=>none
 | m+1,x0,x1,x2,x3,x4=>(yb cH k0 (tg cH k0 k1 m) k1 x0 x1 x2 x3 x4)
theorem ag7 (cH) (h84:(iE cH).holds cl):∀ (m) (x0 x1 x2 x3 x4),iter [2,6,9,10,11] (fun env K=>exec cl N Hv env K) K m (lz x0 x1 x2 x3 x4)=tg cH (fun y0 y1=>K .ret (JB y0 y1)) (fun y0 y1 y2 y3 y4=>K (.exit 0) (lz y0 y1 y2 y3 y4)) m x0 x1 x2 x3 x4:=by
 intro m
 induction m with
 | zero=>intros; rfl
 | succ m ih=>
   intro x0 x1 x2 x3 x4
   simp only [bX,ar8 cH h84,bZ,bY,b5,Wk,ih]
   rfl
theorem aez (x0 x1):aj [4,5,6] (JB x0 x1)=(rC x0 x1):=by kernel_rfl
theorem aeA (x0 x1 x2 x3 x4):aj [4,5,6] (lz x0 x1 x2 x3 x4)=(uV x1):=by kernel_rfl
def yc (N:Nat) (cH:V3→V3→Option V6) (k0:V3→Bool→Option R) (k1:V3→Option R) (x0:ae) (x1:V3) (x2:V0) (x3 x4:Int):Option R:=
tg cH k0 (fun y0 y1 y2 y3 y4=>k1 y1) N x0 x1 x2 x3 x4
theorem ar9 (cH) (h84:(iE cH).holds cl) (x0 x1 x2 x3 x4):exec cl N Hw (lz x0 x1 x2 x3 x4) K=(yc N cH (fun y0 y1=>K .ret (rC y0 y1)) (fun y0=>K (.exit 0) (uV y0)) x0 x1 x2 x3 x4):=by
 simp only [Hw,aT,bW,Wk,ag7 cH h84,aez,aeA]
 rfl
theorem aeB (x0 x1):aj [4,5,6] (rC x0 x1)=(rC x0 x1):=by kernel_rfl
theorem aeC (x0):aj [4,5,6] (uV x0)=(uV x0):=by kernel_rfl
def yd (eg:V3→Option V6) (k0:V3→Bool→Option R) (x0:V3):Option R:=
(eg x0).bind fun r1386=>
k0 r1386 true
theorem asa (eg) (h85:(ju eg).holds cl) (x0):exec cl N Qy (uV x0) K=(yd eg (fun y0 y1=>K .ret [(4,.v .str y0),(5,.v .bool y1)]) x0):=by
 rw [←aJ h85]
 kernel_rfl
def yf (N:Nat) (cH:V3→V3→Option V6) (eg:V3→Option V6) (k0:V3→Bool→Option R) (k1:V3→Bool→Option R) (x0:ae) (x1:V0):Option R:=
(ye (ya (yc N cH k0 ((yd eg k1)))) x0 x1)
theorem asc (cH) (eg) (h84:(iE cH).holds cl) (h85:(ju eg).holds cl) (x0 x1):exec cl N BF (gd x0 x1) K=(yf N cH eg (fun y0 y1=>K .ret (rC y0 y1)) (fun y0 y1=>K .ret [(4,.v .str y0),(5,.v .bool y1)]) x0 x1):=by
 simp only [bQ,bT,bS,bU,asb,BE,Qx,ar7,Qw,aT,ca,ar9 cH h84,b8,b9,b7,aeB,aeC,asa eg h85]
 rfl
theorem aln (y0 y1):ag d57 .ret (rC y0 y1)=some [.v .str y0,.v .bool y1]:=by kernel_rfl
theorem alo (y0 y1):ag d57 .ret [(4,.v .str y0),(5,.v .bool y1)]=some [.v .str y0,.v .bool y1]:=by kernel_rfl
def sw (N:Nat) (cH:V3→V3→Option V6) (eg:V3→Option V6) (x0:ae) (x1:V0) (k:V3→Bool→Option R):Option R:=
(yf N cH eg k k x0 x1)
theorem aam (cH) (eg) (h84:(iE cH).holds cl) (h85:(ju eg).holds cl) (x0 x1) (k:List E→Option R):exec cl N Hu (gd x0 x1) (fun e env=>(ag d57 e env).bind k)=sw N cH eg x0 x1 (fun r0 r1=>k [.v .str r0,.v .bool r1]):=by
 simp only [Hu,asc cH eg h84 h85,aln,alo,aq]
 rfl
def rk (S:ae→V0→Option oM):aN:=dT 57 ar U5 S fun b=> [.v .str b.1,.v .bool b.2]
def dI (N:Nat) (x0:ae) (x1:V0):Option oM:=sw N (cH N) (eg N) x0 x1 (fun (r0:V3) (r1:Bool)=>some (r0,r1))
def KS (dI:ae→V0→Option oM) (ey:ae→Option (Int)) (k0:Int→Option R) (k1:Int→Option R) (x0:ae) (x1:V0):Option R:=
(ey x0).bind fun r1388=>
ad (r1388 != (0:Int)) (k0 r1388) (ad (decide ((x1.length:Int) > (16:Int))) (k0 (3:Int)) ((dI x0 x1).bind fun r1391=>
ad (!r1391.2) (k1 (6:Int)) (k1 (0:Int))))
theorem ar6 (dI) (ey) (h57:(rk dI).holds cl) (h70:(uN ey).holds cl) (x0 x1):exec cl N Qu (gd x0 x1) K=(KS dI ey (fun y0=>K .ret [(1,.dead),(2,.dead),(4,.v U2 y0)]) (fun y0=>K .ret [(4,.v U2 y0)]) x0 x1):=by
 rw [←aJ h57]
 rw [←aJ h70]
 kernel_rfl
theorem alk (y0):ag d55 .ret [(1,.dead),(2,.dead),(4,.v U2 y0)]=some [.v U2 y0]:=by kernel_rfl
theorem alm (y0):ag d55 .ret [(4,.v U2 y0)]=some [.v U2 y0]:=by kernel_rfl
def Dk (dI:ae→V0→Option oM) (ey:ae→Option (Int)) (x0:ae) (x1:V0) (k:Int→Option R):Option R:=
(KS dI ey k k x0 x1)
theorem aal (dI) (ey) (h57:(rk dI).holds cl) (h70:(uN ey).holds cl) (x0 x1) (k:List E→Option R):exec cl N Ht (gd x0 x1) (fun e env=>(ag d55 e env).bind k)=Dk dI ey x0 x1 (fun r0=>k [.v U2 r0]):=by
 simp only [Ht,ar6 dI ey h57 h70,alk,alm,aq]
 rfl
def Cv (S:ae→V0→Option (Int)):aN:=dT 55 ar U5 S fun b=> [.v U2 b]
def fE (N:Nat) (x0:ae) (x1:V0):Option (Int):=Dk (dI N) (ey N) x0 x1 (fun (r0:Int)=>some (r0))
def pB (fE:ae→V0→Option (Int)) (k0:V0→Int→Option R) (k1:V0→ae→V0→Int→Option R) (x0:ae) (x1:V0):Option R:=
(fE x0 x1).bind fun r1399=>
ad (r1399 != (0:Int)) (k0 [] r1399) (k1 x1 x0 [] (0:Int))
theorem aqz (fE) (h55:(Cv fE).holds cl) (x0 x1):exec cl N Bh (gd x0 x1) K=(pB fE (fun y0 y1=>K .ret (JD y0 y1)) (fun y0 y1 y2 y3=>exec cl N Bg (SK y0 y1 y2 y3) K) x0 x1):=by
 rw [←aJ h55]
 delta Bh
 generalize Bg=q
 revert q
 refine id ?_
 intro q
 kernel_rfl
def pt (k0:ae→V0→Int→V0→Int→Int→Option R) (x0:V0) (x1:ae) (x2:V0) (x3:Int):Option R:=
k0 x1 x2 x3 x0 (x0.length:Int) (0:Int)
theorem aqs (x0 x1 x2 x3):exec cl N Ph (SK x0 x1 x2 x3) K=(pt (fun y0 y1 y2 y3 y4 y5=>K .normal (gV y0 y1 y2 y3 y4 y5)) x0 x1 x2 x3):=by
 kernel_rfl
theorem LL (x0 x1 x2 x3 x4 x5):aj [2,7,8,17,18,19] (gV x0 x1 x2 x3 x4 x5)=(gV x0 x1 x2 x3 x4 x5):=by kernel_rfl
def px (k0:ae→V0→Int→V0→Int→Int→Option R) (k1:ae→V0→Int→V0→Int→Int→Option R) (x0:ae) (x1:V0) (x2:Int) (x3:V0) (x4 x5:Int):Option R:=
ad (decide (x5 < x4)) (k0 x0 x1 x2 x3 x4 x5) (k1 x0 x1 x2 x3 x4 x5)
theorem aqv (x0 x1 x2 x3 x4 x5):exec cl N uC (gV x0 x1 x2 x3 x4 x5) K=(px (fun y0 y1 y2 y3 y4 y5=>exec cl N Bf (gV y0 y1 y2 y3 y4 y5) K) (fun y0 y1 y2 y3 y4 y5=>K (.exit 0) (gV y0 y1 y2 y3 y4 y5)) x0 x1 x2 x3 x4 x5):=by
 delta uC
 generalize Bf=q
 revert q
 refine id ?_
 intro q
 kernel_rfl
def pv (k0:ae→V0→Int→Int→V0→Int→Int→Option R) (x0:ae) (x1:V0) (x2:Int) (x3:V0) (x4 x5:Int):Option R:=
if 0≤x5∧x5 < (x3.length:Int) then
k0 x0 x1 x2 (x3.getD x5.toNat (0:Int)) x3 x4 x5
else none
theorem aqt (x0 x1 x2 x3 x4 x5):exec cl N Pj (gV x0 x1 x2 x3 x4 x5) K=(pv (fun y0 y1 y2 y3 y4 y5 y6=>K .normal (o6 y0 y1 y2 y3 y4 y5 y6)) x0 x1 x2 x3 x4 x5):=by
 kernel_rfl
def pD (k0:ae→V0→Int→Int→V0→Int→Int→Int→Int→Option R) (x0:ae) (x1:V0) (x2 x3:Int) (x4:V0) (x5 x6:Int):Option R:=
if 0≤x3∧x3 < (x0.2.1.length:Int) then
k0 x0 x1 x2 x3 x4 x5 x6 (((x0.2.1.getD x3.toNat ([],([],((0:Int),((0:Int),()))))).2.1).length:Int) (0:Int)
else none
theorem aqB (x0 x1 x2 x3 x4 x5 x6):exec cl N Pp (o6 x0 x1 x2 x3 x4 x5 x6) K=(pD (fun y0 y1 y2 y3 y4 y5 y6 y7 y8=>K .normal (lA y0 y1 y2 y3 y4 y5 y6 y7 y8)) x0 x1 x2 x3 x4 x5 x6):=by
 kernel_rfl
theorem VX (x0 x1 x2 x3 x4 x5 x6 x7 x8):aj [2,7,8,10,17,18,19,29,30] (lA x0 x1 x2 x3 x4 x5 x6 x7 x8)=(lA x0 x1 x2 x3 x4 x5 x6 x7 x8):=by kernel_rfl
def pE (k0:ae→V0→Int→Int→V0→Int→Int→Int→Int→Option R) (k1:ae→V0→Int→Int→V0→Int→Int→Int→Int→Option R) (x0:ae) (x1:V0) (x2 x3:Int) (x4:V0) (x5 x6 x7 x8:Int):Option R:=
ad (decide (x8 < x7)) (if x1.length+[x2].length≤17592186044416 then
k0 x0 (x1++[x2]) x2 x3 x4 x5 x6 x7 (IntKind.i64.wrap (x8+(1:Int)))
else none) (k1 x0 x1 x2 x3 x4 x5 x6 x7 x8)
theorem aqC (x0 x1 x2 x3 x4 x5 x6 x7 x8):exec cl N GA (lA x0 x1 x2 x3 x4 x5 x6 x7 x8) K=(pE (fun y0 y1 y2 y3 y4 y5 y6 y7 y8=>K .normal (lA y0 y1 y2 y3 y4 y5 y6 y7 y8)) (fun y0 y1 y2 y3 y4 y5 y6 y7 y8=>K (.exit 2) (lA y0 y1 y2 y3 y4 y5 y6 y7 y8)) x0 x1 x2 x3 x4 x5 x6 x7 x8):=by
 kernel_rfl
def s5 {R:Type} (k0:ae→V0→Int→Int→V0→Int→Int→Int→Int→Option R):Nat→ae→V0→Int→Int→V0→Int→Int→Int→Int→Option R
 | 0,_,_,_,_,_,_,_,_,_=>none
 | m+1,x0,x1,x2,x3,x4,x5,x6,x7,x8=>(pE (s5 k0 m) k0 x0 x1 x2 x3 x4 x5 x6 x7 x8)
theorem agS:∀ (m) (x0 x1 x2 x3 x4 x5 x6 x7 x8),iter [2,7,8,10,17,18,19,29,30] (fun env K=>exec cl N GA env K) K m (lA x0 x1 x2 x3 x4 x5 x6 x7 x8)=s5 (fun y0 y1 y2 y3 y4 y5 y6 y7 y8=>K (.exit 2) (lA y0 y1 y2 y3 y4 y5 y6 y7 y8)) m x0 x1 x2 x3 x4 x5 x6 x7 x8:=by
 intro m
 induction m with
 | zero=>intros; rfl
 | succ m ih=>
   intro x0 x1 x2 x3 x4 x5 x6 x7 x8
   simp only [bX,aqC,bZ,bY,b5,VX,ih]
   rfl
theorem adP (x0 x1 x2 x3 x4 x5 x6 x7 x8):aj [2,7,8,10,17,18,19] (lA x0 x1 x2 x3 x4 x5 x6 x7 x8)=(o6 x0 x1 x2 x3 x4 x5 x6):=by kernel_rfl
def pF (N:Nat) (k0:ae→V0→Int→Int→V0→Int→Int→Option R) (x0:ae) (x1:V0) (x2 x3:Int) (x4:V0) (x5 x6 x7 x8:Int):Option R:=
s5 (fun y0 y1 y2 y3 y4 y5 y6 y7 y8=>k0 y0 y1 y2 y3 y4 y5 y6) N x0 x1 x2 x3 x4 x5 x6 x7 x8
theorem aqD (x0 x1 x2 x3 x4 x5 x6 x7 x8):exec cl N GB (lA x0 x1 x2 x3 x4 x5 x6 x7 x8) K=(pF N (fun y0 y1 y2 y3 y4 y5 y6=>K (.exit 2) (o6 y0 y1 y2 y3 y4 y5 y6)) x0 x1 x2 x3 x4 x5 x6 x7 x8):=by
 simp only [GB,aT,bW,VX,agS,adP]
 rfl
theorem adQ (x0 x1 x2 x3 x4 x5 x6):aj [2,7,8,10,17,18,19] (o6 x0 x1 x2 x3 x4 x5 x6)=(o6 x0 x1 x2 x3 x4 x5 x6):=by kernel_rfl
def pG (k0:ae→V0→Int→V0→Int→Int→Option R) (x0:ae) (x1:V0) (x2 x3:Int) (x4:V0) (x5 x6:Int):Option R:=
if 0≤x3∧x3 < (x0.2.1.length:Int) then
k0 x0 x1 (IntKind.i64.wrap (x2+(((x0.2.1.getD x3.toNat ([],([],((0:Int),((0:Int),()))))).1).length:Int))) x4 x5 x6
else none
theorem aqE (x0 x1 x2 x3 x4 x5 x6):exec cl N Ps (o6 x0 x1 x2 x3 x4 x5 x6) K=(pG (fun y0 y1 y2 y3 y4 y5=>K .normal (gV y0 y1 y2 y3 y4 y5)) x0 x1 x2 x3 x4 x5 x6):=by
 kernel_rfl
def pw (k0:ae→V0→Int→V0→Int→Int→Option R) (x0:ae) (x1:V0) (x2:Int) (x3:V0) (x4 x5:Int):Option R:=
k0 x0 x1 x2 x3 x4 (IntKind.i64.wrap (x5+(1:Int)))
theorem aqu (x0 x1 x2 x3 x4 x5):exec cl N Pl (gV x0 x1 x2 x3 x4 x5) K=(pw (fun y0 y1 y2 y3 y4 y5=>K .normal (gV y0 y1 y2 y3 y4 y5)) x0 x1 x2 x3 x4 x5):=by
 kernel_rfl
def py (N:Nat) (k0:ae→V0→Int→V0→Int→Int→Option R) (k1:ae→V0→Int→V0→Int→Int→Option R) (x0:ae) (x1:V0) (x2:Int) (x3:V0) (x4 x5:Int):Option R:=
(px (pv (pD (pF N ((pG ((pw k0))))))) k1 x0 x1 x2 x3 x4 x5)
theorem aqw (x0 x1 x2 x3 x4 x5):exec cl N uC (gV x0 x1 x2 x3 x4 x5) K=(py N (fun y0 y1 y2 y3 y4 y5=>K .normal (gV y0 y1 y2 y3 y4 y5)) (fun y0 y1 y2 y3 y4 y5=>K (.exit 0) (gV y0 y1 y2 y3 y4 y5)) x0 x1 x2 x3 x4 x5):=by
 simp only [bQ,bT,bS,bU,aqv,Bf,Pk,aT,ca,Pu,aqt,Pt,Pr,aqB,Pq,aqD,b8,b9,b7,adQ,aqE,LL,aqu]
 rfl
def p7 {R:Type} (N:Nat) (k0:ae→V0→Int→V0→Int→Int→Option R):Nat→ae→V0→Int→V0→Int→Int→Option R
 | 0,_,_,_,_,_,_=>none
 | m+1,x0,x1,x2,x3,x4,x5=>(py N (p7 N k0 m) k0 x0 x1 x2 x3 x4 x5)
theorem agR:∀ (m) (x0 x1 x2 x3 x4 x5),iter [2,7,8,17,18,19] (fun env K=>exec cl N uC env K) K m (gV x0 x1 x2 x3 x4 x5)=p7 N (fun y0 y1 y2 y3 y4 y5=>K (.exit 0) (gV y0 y1 y2 y3 y4 y5)) m x0 x1 x2 x3 x4 x5:=by
 intro m
 induction m with
 | zero=>intros; rfl
 | succ m ih=>
   intro x0 x1 x2 x3 x4 x5
   simp only [bX,aqw,bZ,bY,b5,LL,ih]
   rfl
theorem adR (x0 x1 x2 x3 x4 x5):aj [7] (gV x0 x1 x2 x3 x4 x5)=(uW x1):=by kernel_rfl
def pz (N:Nat) (k0:V0→Option R) (x0:ae) (x1:V0) (x2:Int) (x3:V0) (x4 x5:Int):Option R:=
p7 N (fun y0 y1 y2 y3 y4 y5=>k0 y1) N x0 x1 x2 x3 x4 x5
theorem aqx (x0 x1 x2 x3 x4 x5):exec cl N Gz (gV x0 x1 x2 x3 x4 x5) K=(pz N (fun y0=>K (.exit 0) (uW y0)) x0 x1 x2 x3 x4 x5):=by
 simp only [Gz,aT,bW,LL,agR,adR]
 rfl
theorem adS (x0):aj [7] (uW x0)=(uW x0):=by kernel_rfl
def pA (k0:Int→V0→Option R) (x0:V0):Option R:=
k0 (0:Int) x0
theorem aqy (x0):exec cl N Po (uW x0) K=(pA (fun y0 y1=>K .ret (JE y0 y1)) x0):=by
 kernel_rfl
def pC (N:Nat) (fE:ae→V0→Option (Int)) (k0:V0→Int→Option R) (k1:Int→V0→Option R) (x0:ae) (x1:V0):Option R:=
(pB fE k0 (pt (pz N ((pA k1)))) x0 x1)
theorem aqA (fE) (h55:(Cv fE).holds cl) (x0 x1):exec cl N Bh (gd x0 x1) K=(pC N fE (fun y0 y1=>K .ret (JD y0 y1)) (fun y0 y1=>K .ret (JE y0 y1)) x0 x1):=by
 simp only [bQ,bT,bS,bU,aqz fE h55,Bg,Pn,aqs,Pm,aT,ca,aqx,b8,b9,b7,adS,aqy]
 rfl
theorem akJ (y0 y1):ag d24 .ret (JD y0 y1)=some [.own true 3 U2 .no y0,.v U2 y1]:=by kernel_rfl
theorem akK (y0 y1):ag d24 .ret (JE y0 y1)=some [.own true 3 U2 .no y1,.v U2 y0]:=by kernel_rfl
def g24 (N:Nat) (fE:ae→V0→Option (Int)) (x0:ae) (x1:V0) (k:V0→Int→Option R):Option R:=
(pC N fE k (fun y0 y1=>k y1 y0) x0 x1)
theorem Z2 (fE) (h55:(Cv fE).holds cl) (x0 x1) (k:List E→Option R):exec cl N Gy (gd x0 x1) (fun e env=>(ag d24 e env).bind k)=g24 N fE x0 x1 (fun r0 r1=>k [.own true 3 U2 .no r0,.v U2 r1]):=by
 simp only [Gy,aqA fE h55,akJ,akK,aq]
 rfl
def I6 (S:ae→V0→Option V8):aN:=dT 24 ar U5 S fun b=> [.own true 3 U2 .no b.1,.v U2 b.2]
def gQ (N:Nat) (x0:ae) (x1:V0):Option V8:=g24 N (fE N) x0 x1 (fun (r0:V0) (r1:Int)=>some (r0,r1))
def Uh (cd:ae→V3→Option (Int)) (k0:Int→Int→Option R) (k1:V3→ae→V2→Int→Option R) (x0:ae) (x1:V3):Option R:=
(cd x0 x1).bind fun r1419=>
ad (r1419 != (0:Int)) (k0 (0:Int) r1419) (let v1421:Int:=(IntKind.i64.wrap ((x1.length:Int)+(1:Int)))
if 0≤v1421∧v1421≤v1421∧v1421≤((140737488355328:Nat):Int) then
if 0≤(0:Int)∧(0:Int) < ((gn v1421.toNat false).length:Int) then
if ((0:Int).toNat) < (gn v1421.toNat false).length then
k1 x1 x0 ((gn v1421.toNat false).set ((0:Int).toNat) true) (0:Int)
else none
else none
else none)
theorem aqj (cd) (h40:(mV cd).holds cl) (x0 x1):exec cl N Bc (kP x0 x1) K=(Uh cd (fun y0 y1=>K .ret (JF y0 y1)) (fun y0 y1 y2 y3=>exec cl N Bb (SL y0 y1 y2 y3) K) x0 x1):=by
 rw [←aJ h40]
 delta Bc
 generalize Bb=q
 revert q
 refine id ?_
 intro q
 kernel_rfl
def Ue (k0:V3→ae→V2→Int→Int→Int→Option R) (x0:V3) (x1:ae) (x2:V2) (x3:Int):Option R:=
k0 x0 x1 x2 x3 (x2.length:Int) (0:Int)
theorem aqg (x0 x1 x2 x3):exec cl N Pc (SL x0 x1 x2 x3) K=(Ue (fun y0 y1 y2 y3 y4 y5=>K .normal (fO y0 y1 y2 y3 y4 y5)) x0 x1 x2 x3):=by
 kernel_rfl
theorem LK (x0 x1 x2 x3 x4 x5):aj [1,2,7,8,25,26,27] (fO x0 x1 x2 x3 x4 x5)=(fO x0 x1 x2 x3 x4 x5):=by kernel_rfl
def Un (k0:V3→ae→V2→Int→Int→Int→Option R) (k1:V3→ae→V2→Int→Int→Int→Option R) (x0:V3) (x1:ae) (x2:V2) (x3 x4 x5:Int):Option R:=
ad (decide (x5 < x4)) (k0 x0 x1 x2 x3 x4 x5) (k1 x0 x1 x2 x3 x4 x5)
theorem aqp (x0 x1 x2 x3 x4 x5):exec cl N uB (fO x0 x1 x2 x3 x4 x5) K=(Un (fun y0 y1 y2 y3 y4 y5=>exec cl N Be (fO y0 y1 y2 y3 y4 y5) K) (fun y0 y1 y2 y3 y4 y5=>K (.exit 0) (fO y0 y1 y2 y3 y4 y5)) x0 x1 x2 x3 x4 x5):=by
 delta uB
 generalize Be=q
 revert q
 refine id ?_
 intro q
 kernel_rfl
def Uk (k0:V3→ae→V2→Int→Int→Int→Int→Option R) (k1:V3→ae→V2→Int→Int→Int→Int→cE→Int→Int→Option R) (x0:V3) (x1:ae) (x2:V2) (x3 x4 x5:Int):Option R:=
if 0≤x5∧x5 < (x2.length:Int) then
if x5.toNat < x2.length then
ad (!(x2.getD x5.toNat false)) (k0 x0 x1 x2 x3 x5 x4 x5) (k1 x0 x1 x2 x5 x5 x4 x5 x1.2.1 (x1.2.1.length:Int) (0:Int))
else none
else none
theorem aqm (x0 x1 x2 x3 x4 x5):exec cl N Gv (fO x0 x1 x2 x3 x4 x5) K=(Uk (fun y0 y1 y2 y3 y4 y5 y6=>K (.exit 1) (SM y0 y1 y2 y3 y4 y5 y6)) (fun y0 y1 y2 y3 y4 y5 y6 y7 y8 y9=>exec cl N Bd (lB y0 y1 y2 y3 y4 y5 y6 y7 y8 y9) K) x0 x1 x2 x3 x4 x5):=by
 delta Gv
 generalize Bd=q
 revert q
 refine id ?_
 intro q
 kernel_rfl
theorem VW (x0 x1 x2 x3 x4 x5 x6 x7 x8 x9):aj [1,2,7,8,9,25,26,27,36,37,38] (lB x0 x1 x2 x3 x4 x5 x6 x7 x8 x9)=(lB x0 x1 x2 x3 x4 x5 x6 x7 x8 x9):=by kernel_rfl
def Uf (aV:V3→V3→Option (Bool)) (k0:V3→ae→V2→Int→Int→Int→Int→cE→Int→Int→Option R) (k1:V3→ae→V2→Int→Int→Int→Int→cE→Int→Int→Option R) (x0:V3) (x1:ae) (x2:V2) (x3 x4 x5 x6:Int) (x7:cE) (x8 x9:Int):Option R:=
ad (decide (x9 < x8)) (if 0≤x9∧x9 < (x7.length:Int) then
if 0≤x4∧x4≤(x0.length:Int)∧(x0.length:Int)≤(x0.length:Int) then
(aV ((x0.drop x4.toNat).take ((x0.length:Int).toNat - x4.toNat)) ((x7.getD x9.toNat ([],([],((0:Int),((0:Int),()))))).1)).bind fun r1426=>
ad r1426 (let v1427:Int:=(IntKind.i64.wrap (x4+(((x7.getD x9.toNat ([],([],((0:Int),((0:Int),()))))).1).length:Int)))
if 0≤v1427∧v1427 < (x2.length:Int) then
if v1427.toNat < x2.length then
k0 x0 x1 (x2.set v1427.toNat true) x3 x4 x5 x6 x7 x8 (IntKind.i64.wrap (x9+(1:Int)))
else none
else none) (k0 x0 x1 x2 x3 x4 x5 x6 x7 x8 (IntKind.i64.wrap (x9+(1:Int))))
else none
else none) (k1 x0 x1 x2 x3 x4 x5 x6 x7 x8 x9)
theorem aqh (aV) (h54:(gx aV).holds cl) (x0 x1 x2 x3 x4 x5 x6 x7 x8 x9):exec cl N Gt (lB x0 x1 x2 x3 x4 x5 x6 x7 x8 x9) K=(Uf aV (fun y0 y1 y2 y3 y4 y5 y6 y7 y8 y9=>K .normal (lB y0 y1 y2 y3 y4 y5 y6 y7 y8 y9)) (fun y0 y1 y2 y3 y4 y5 y6 y7 y8 y9=>K (.exit 2) (lB y0 y1 y2 y3 y4 y5 y6 y7 y8 y9)) x0 x1 x2 x3 x4 x5 x6 x7 x8 x9):=by
 rw [←aJ h54]
 kernel_rfl
def LW {R:Type} (aV:V3→V3→Option (Bool)) (k0:V3→ae→V2→Int→Int→Int→Int→cE→Int→Int→Option R):Nat→V3→ae→V2→Int→Int→Int→Int→cE→Int→Int→Option R
 | 0,_,_,_,_,_,_,_,_,_,_=>none
 | m+1,x0,x1,x2,x3,x4,x5,x6,x7,x8,x9=>(Uf aV (LW aV k0 m) k0 x0 x1 x2 x3 x4 x5 x6 x7 x8 x9)
theorem agP (aV) (h54:(gx aV).holds cl):∀ (m) (x0 x1 x2 x3 x4 x5 x6 x7 x8 x9),iter [1,2,7,8,9,25,26,27,36,37,38] (fun env K=>exec cl N Gt env K) K m (lB x0 x1 x2 x3 x4 x5 x6 x7 x8 x9)=LW aV (fun y0 y1 y2 y3 y4 y5 y6 y7 y8 y9=>K (.exit 2) (lB y0 y1 y2 y3 y4 y5 y6 y7 y8 y9)) m x0 x1 x2 x3 x4 x5 x6 x7 x8 x9:=by
 intro m
 induction m with
 | zero=>intros; rfl
 | succ m ih=>
   intro x0 x1 x2 x3 x4 x5 x6 x7 x8 x9
   simp only [bX,aqh aV h54,bZ,bY,b5,VW,ih]
   rfl
theorem adL (x0 x1 x2 x3 x4 x5 x6 x7 x8 x9):aj [1,2,7,8,25,26,27] (lB x0 x1 x2 x3 x4 x5 x6 x7 x8 x9)=(fO x0 x1 x2 x3 x5 x6):=by kernel_rfl
def Uj (N:Nat) (aV:V3→V3→Option (Bool)) (k0:V3→ae→V2→Int→Int→Int→Option R) (x0:V3) (x1:ae) (x2:V2) (x3 x4 x5 x6:Int) (x7:cE) (x8 x9:Int):Option R:=
LW aV (fun y0 y1 y2 y3 y4 y5 y6 y7 y8 y9=>k0 y0 y1 y2 y3 y5 y6) N x0 x1 x2 x3 x4 x5 x6 x7 x8 x9
theorem aql (aV) (h54:(gx aV).holds cl) (x0 x1 x2 x3 x4 x5 x6 x7 x8 x9):exec cl N Gu (lB x0 x1 x2 x3 x4 x5 x6 x7 x8 x9) K=(Uj N aV (fun y0 y1 y2 y3 y4 y5=>K (.exit 2) (fO y0 y1 y2 y3 y4 y5)) x0 x1 x2 x3 x4 x5 x6 x7 x8 x9):=by
 simp only [Gu,aT,bW,VW,agP aV h54,adL]
 rfl
theorem adM (x0 x1 x2 x3 x4 x5 x6):aj [1,2,7,8,25,26,27] (SM x0 x1 x2 x3 x4 x5 x6)=(fO x0 x1 x2 x3 x5 x6):=by kernel_rfl
def Ul (N:Nat) (aV:V3→V3→Option (Bool)) (k0:V3→ae→V2→Int→Int→Int→Option R) (x0:V3) (x1:ae) (x2:V2) (x3 x4 x5:Int):Option R:=
(Uk (fun y0 y1 y2 y3 y4 y5 y6=>(k0 y0 y1 y2 y3 y5 y6)) (Uj N aV k0) x0 x1 x2 x3 x4 x5)
theorem aqn (aV) (h54:(gx aV).holds cl) (x0 x1 x2 x3 x4 x5):exec cl N Gw (fO x0 x1 x2 x3 x4 x5) K=(Ul N aV (fun y0 y1 y2 y3 y4 y5=>K .normal (fO y0 y1 y2 y3 y4 y5)) x0 x1 x2 x3 x4 x5):=by
 simp only [Gw,aT,ca,bQ,bT,bS,bU,aqm,Bd,aql aV h54,b8,b9,b7,LK,adM]
 rfl
def Um (k0:V3→ae→V2→Int→Int→Int→Option R) (x0:V3) (x1:ae) (x2:V2) (x3 x4 x5:Int):Option R:=
k0 x0 x1 x2 x3 x4 (IntKind.i64.wrap (x5+(1:Int)))
theorem aqo (x0 x1 x2 x3 x4 x5):exec cl N Pg (fO x0 x1 x2 x3 x4 x5) K=(Um (fun y0 y1 y2 y3 y4 y5=>K .normal (fO y0 y1 y2 y3 y4 y5)) x0 x1 x2 x3 x4 x5):=by
 kernel_rfl
def Uo (N:Nat) (aV:V3→V3→Option (Bool)) (k0:V3→ae→V2→Int→Int→Int→Option R) (k1:V3→ae→V2→Int→Int→Int→Option R) (x0:V3) (x1:ae) (x2:V2) (x3 x4 x5:Int):Option R:=
(Un (Ul N aV (Um k0)) k1 x0 x1 x2 x3 x4 x5)
theorem aqq (aV) (h54:(gx aV).holds cl) (x0 x1 x2 x3 x4 x5):exec cl N uB (fO x0 x1 x2 x3 x4 x5) K=(Uo N aV (fun y0 y1 y2 y3 y4 y5=>K .normal (fO y0 y1 y2 y3 y4 y5)) (fun y0 y1 y2 y3 y4 y5=>K (.exit 0) (fO y0 y1 y2 y3 y4 y5)) x0 x1 x2 x3 x4 x5):=by
 simp only [bQ,bT,bS,bU,aqp,Be,aqn aV h54,aqo]
 rfl
def LX {R:Type} (N:Nat) (aV:V3→V3→Option (Bool)) (k0:V3→ae→V2→Int→Int→Int→Option R):Nat→V3→ae→V2→Int→Int→Int→Option R
 | 0,_,_,_,_,_,_=>none
 | m+1,x0,x1,x2,x3,x4,x5=>(Uo N aV (LX N aV k0 m) k0 x0 x1 x2 x3 x4 x5)
theorem agQ (aV) (h54:(gx aV).holds cl):∀ (m) (x0 x1 x2 x3 x4 x5),iter [1,2,7,8,25,26,27] (fun env K=>exec cl N uB env K) K m (fO x0 x1 x2 x3 x4 x5)=LX N aV (fun y0 y1 y2 y3 y4 y5=>K (.exit 0) (fO y0 y1 y2 y3 y4 y5)) m x0 x1 x2 x3 x4 x5:=by
 intro m
 induction m with
 | zero=>intros; rfl
 | succ m ih=>
   intro x0 x1 x2 x3 x4 x5
   simp only [bX,aqq aV h54,bZ,bY,b5,LK,ih]
   rfl
theorem adN (x0 x1 x2 x3 x4 x5):aj [8] (fO x0 x1 x2 x3 x4 x5)=[(8,.v U2 x3)]:=by kernel_rfl
def Up (N:Nat) (aV:V3→V3→Option (Bool)) (k0:Int→Option R) (x0:V3) (x1:ae) (x2:V2) (x3 x4 x5:Int):Option R:=
LX N aV (fun y0 y1 y2 y3 y4 y5=>k0 y3) N x0 x1 x2 x3 x4 x5
theorem aqr (aV) (h54:(gx aV).holds cl) (x0 x1 x2 x3 x4 x5):exec cl N Gx (fO x0 x1 x2 x3 x4 x5) K=(Up N aV (fun y0=>K (.exit 0) [(8,.v U2 y0)]) x0 x1 x2 x3 x4 x5):=by
 simp only [Gx,aT,bW,LK,agQ aV h54,adN]
 rfl
theorem adO (x0):aj [8] [(8,.v U2 x0)]=[(8,.v U2 x0)]:=by kernel_rfl
def Ug (k0:Int→Int→Option R) (x0:Int):Option R:=
k0 x0 (0:Int)
theorem aqi (x0):exec cl N Pf [(8,.v U2 x0)] K=(Ug (fun y0 y1=>K .ret [(4,.v U2 y0),(5,.v U2 y1)]) x0):=by
 kernel_rfl
def Ui (N:Nat) (cd:ae→V3→Option (Int)) (aV:V3→V3→Option (Bool)) (k0:Int→Int→Option R) (k1:Int→Int→Option R) (x0:ae) (x1:V3):Option R:=
(Uh cd k0 (Ue (Up N aV ((Ug k1)))) x0 x1)
theorem aqk (cd) (aV) (h40:(mV cd).holds cl) (h54:(gx aV).holds cl) (x0 x1):exec cl N Bc (kP x0 x1) K=(Ui N cd aV (fun y0 y1=>K .ret (JF y0 y1)) (fun y0 y1=>K .ret [(4,.v U2 y0),(5,.v U2 y1)]) x0 x1):=by
 simp only [bQ,bT,bS,bU,aqj cd h40,Bb,Pe,aqg,Pd,aT,ca,aqr aV h54,b8,b9,b7,adO,aqi]
 rfl
theorem akH (y0 y1):ag d20 .ret (JF y0 y1)=some [.v U2 y0,.v U2 y1]:=by kernel_rfl
theorem akI (y0 y1):ag d20 .ret [(4,.v U2 y0),(5,.v U2 y1)]=some [.v U2 y0,.v U2 y1]:=by kernel_rfl
def g20 (N:Nat) (cd:ae→V3→Option (Int)) (aV:V3→V3→Option (Bool)) (x0:ae) (x1:V3) (k:Int→Int→Option R):Option R:=
(Ui N cd aV k k x0 x1)
theorem Z1 (cd) (aV) (h40:(mV cd).holds cl) (h54:(gx aV).holds cl) (x0 x1) (k:List E→Option R):exec cl N Gs (kP x0 x1) (fun e env=>(ag d20 e env).bind k)=g20 N cd aV x0 x1 (fun r0 r1=>k [.v U2 r0,.v U2 r1]):=by
 simp only [Gs,aqk cd aV h40 h54,akH,akI,aq]
 rfl
def I5 (S:ae→V3→Option V1):aN:=dT 20 ar .str S fun b=> [.v U2 b.1,.v U2 b.2]
def iW (N:Nat) (x0:ae) (x1:V3):Option V1:=g20 N (cd N) (aV N) x0 x1 (fun (r0:Int) (r1:Int)=>some (r0,r1))
def xY (k0:Bool→Option R) (k1:V0→V0→Option R) (x0 x1:V0):Option R:=
ad ((x0.length:Int) != (x1.length:Int)) (k0 false) (k1 x0 x1)
theorem ar3 (x0 x1):exec cl N BD (kQ x0 x1) K=(xY (fun y0=>K .ret (ja y0)) (fun y0 y1=>exec cl N BC (mY y0 y1) K) x0 x1):=by
 delta BD
 generalize BC=q
 revert q
 refine id ?_
 intro q
 kernel_rfl
def xU (k0:V0→V0→Int→Option R) (x0 x1:V0):Option R:=
k0 x0 x1 (0:Int)
theorem arZ (x0 x1):exec cl N Qp (mY x0 x1) K=(xU (fun y0 y1 y2=>K .normal (lC y0 y1 y2)) x0 x1):=by
 kernel_rfl
theorem Wj (x0 x1 x2):aj [0,1,5] (lC x0 x1 x2)=(lC x0 x1 x2):=by kernel_rfl
def xV (k0:Bool→Option R) (k1:V0→V0→Int→Option R) (k2:V0→V0→Int→Option R) (x0 x1:V0) (x2:Int):Option R:=
ad (decide (x2 < (x0.length:Int))) (if 0≤x2∧x2 < (x0.length:Int) then
if 0≤x2∧x2 < (x1.length:Int) then
ad ((x0.getD x2.toNat (0:Int)) != (x1.getD x2.toNat (0:Int))) (k0 false) (k1 x0 x1 (IntKind.i64.wrap (x2+(1:Int))))
else none
else none) (k2 x0 x1 x2)
theorem ar0 (x0 x1 x2):exec cl N Hq (lC x0 x1 x2) K=(xV (fun y0=>K .ret (ki y0)) (fun y0 y1 y2=>K .normal (lC y0 y1 y2)) (fun y0 y1 y2=>K (.exit 0) (lC y0 y1 y2)) x0 x1 x2):=by
 kernel_rfl
def tf {R:Type} (k0:Bool→Option R) (k1:V0→V0→Int→Option R):Nat→V0→V0→Int→Option R
 | 0,_,_,_=>none
 | m+1,x0,x1,x2=>(xV k0 (tf k0 k1 m) k1 x0 x1 x2)
theorem ag6:∀ (m) (x0 x1 x2),iter [0,1,5] (fun env K=>exec cl N Hq env K) K m (lC x0 x1 x2)=tf (fun y0=>K .ret (ki y0)) (fun y0 y1 y2=>K (.exit 0) (lC y0 y1 y2)) m x0 x1 x2:=by
 intro m
 induction m with
 | zero=>intros; rfl
 | succ m ih=>
   intro x0 x1 x2
   simp only [bX,ar0,bZ,bY,b5,Wj,ih]
   rfl
theorem aev (x0):aj [4] (ki x0)=[(4,.v .bool x0)]:=by kernel_rfl
theorem aew (x0 x1 x2):aj [4] (lC x0 x1 x2)=[(4,.dead)]:=by kernel_rfl
def xW (N:Nat) (k0:Bool→Option R) (k1:Option R) (x0 x1:V0) (x2:Int):Option R:=
tf k0 (fun y0 y1 y2=>k1) N x0 x1 x2
theorem ar1 (x0 x1 x2):exec cl N Hr (lC x0 x1 x2) K=(xW N (fun y0=>K .ret [(4,.v .bool y0)]) (K (.exit 0) [(4,.dead)]) x0 x1 x2):=by
 simp only [Hr,aT,bW,Wj,ag6,aev,aew]
 rfl
theorem aex (x0):aj [4] [(4,.v .bool x0)]=[(4,.v .bool x0)]:=by kernel_rfl
theorem aey:aj [4] [(4,.dead)]=[(4,.dead)]:=by kernel_rfl
def xX (k0:Bool→Option R):Option R:=
k0 true
theorem ar2:exec cl N Qs [(4,.dead)] K=(xX (fun y0=>K .ret [(4,.v .bool y0)])):=by
 kernel_rfl
def xZ (N:Nat) (k0:Bool→Option R) (k1:Bool→Option R) (x0 x1:V0):Option R:=
(xY k0 (xU (xW N k1 (xX k1))) x0 x1)
theorem ar4 (x0 x1):exec cl N BD (kQ x0 x1) K=(xZ N (fun y0=>K .ret (ja y0)) (fun y0=>K .ret [(4,.v .bool y0)]) x0 x1):=by
 simp only [bQ,bT,bS,bU,ar3,BC,Qr,arZ,Qq,aT,ca,ar1,b8,b9,b7,aex,aey,ar2]
 rfl
theorem alh (y0):ag d53 .ret (ja y0)=some [.v .bool y0]:=by kernel_rfl
theorem ali (y0):ag d53 .ret [(4,.v .bool y0)]=some [.v .bool y0]:=by kernel_rfl
def su (N:Nat) (x0 x1:V0) (k:Bool→Option R):Option R:=
(xZ N k k x0 x1)
theorem aak (x0 x1) (k:List E→Option R):exec cl N Hp (kQ x0 x1) (fun e env=>(ag d53 e env).bind k)=su N x0 x1 (fun r0=>k [.v .bool r0]):=by
 simp only [Hp,ar4,alh,ali,aq]
 rfl
def kM (S:V0→V0→Option (Bool)):aN:=dT 53 U5 U5 S fun b=> [.v .bool b]
def bC (N:Nat) (x0:V0) (x1:V0):Option (Bool):=su N x0 x1 (fun (r0:Bool)=>some (r0))
def Uc (k0:Bool→Option R) (k1:V7→V7→Option R) (x0 x1:V7):Option R:=
ad ((x0.length:Int) != (x1.length:Int)) (k0 false) (k1 x0 x1)
theorem aqe (x0 x1):exec cl N Ba [(0,.v U7 x0),(1,.v U7 x1)] K=(Uc (fun y0=>K .ret (ja y0)) (fun y0 y1=>exec cl N A9 [(0,.v U7 y0),(1,.v U7 y1),(4,.dead)] K) x0 x1):=by
 delta Ba
 generalize A9=q
 revert q
 refine id ?_
 intro q
 kernel_rfl
def T8 (k0:V7→V7→Int→Option R) (x0 x1:V7):Option R:=
k0 x0 x1 (0:Int)
theorem aqa (x0 x1):exec cl N O8 [(0,.v U7 x0),(1,.v U7 x1),(4,.dead)] K=(T8 (fun y0 y1 y2=>K .normal (lD y0 y1 y2)) x0 x1):=by
 kernel_rfl
theorem VV (x0 x1 x2):aj [0,1,5] (lD x0 x1 x2)=(lD x0 x1 x2):=by kernel_rfl
def T9 (bC:V0→V0→Option (Bool)) (k0:Bool→Option R) (k1:V7→V7→Int→Option R) (k2:V7→V7→Int→Option R) (x0 x1:V7) (x2:Int):Option R:=
ad (decide (x2 < (x0.length:Int))) (if 0≤x2∧x2 < (x0.length:Int) then
if 0≤x2∧x2 < (x1.length:Int) then
(bC (x0.getD x2.toNat []) (x1.getD x2.toNat [])).bind fun r1453=>
ad (!r1453) (k0 false) (k1 x0 x1 (IntKind.i64.wrap (x2+(1:Int))))
else none
else none) (k2 x0 x1 x2)
theorem aqb (bC) (h53:(kM bC).holds cl) (x0 x1 x2):exec cl N Gp (lD x0 x1 x2) K=(T9 bC (fun y0=>K .ret (ki y0)) (fun y0 y1 y2=>K .normal (lD y0 y1 y2)) (fun y0 y1 y2=>K (.exit 0) (lD y0 y1 y2)) x0 x1 x2):=by
 rw [←aJ h53]
 kernel_rfl
def LV {R:Type} (bC:V0→V0→Option (Bool)) (k0:Bool→Option R) (k1:V7→V7→Int→Option R):Nat→V7→V7→Int→Option R
 | 0,_,_,_=>none
 | m+1,x0,x1,x2=>(T9 bC k0 (LV bC k0 k1 m) k1 x0 x1 x2)
theorem agO (bC) (h53:(kM bC).holds cl):∀ (m) (x0 x1 x2),iter [0,1,5] (fun env K=>exec cl N Gp env K) K m (lD x0 x1 x2)=LV bC (fun y0=>K .ret (ki y0)) (fun y0 y1 y2=>K (.exit 0) (lD y0 y1 y2)) m x0 x1 x2:=by
 intro m
 induction m with
 | zero=>intros; rfl
 | succ m ih=>
   intro x0 x1 x2
   simp only [bX,aqb bC h53,bZ,bY,b5,VV,ih]
   rfl
theorem adH (x0):aj [4] (ki x0)=[(4,.v .bool x0)]:=by kernel_rfl
theorem adI (x0 x1 x2):aj [4] (lD x0 x1 x2)=[(4,.dead)]:=by kernel_rfl
def Ua (N:Nat) (bC:V0→V0→Option (Bool)) (k0:Bool→Option R) (k1:Option R) (x0 x1:V7) (x2:Int):Option R:=
LV bC k0 (fun y0 y1 y2=>k1) N x0 x1 x2
theorem aqc (bC) (h53:(kM bC).holds cl) (x0 x1 x2):exec cl N Gq (lD x0 x1 x2) K=(Ua N bC (fun y0=>K .ret [(4,.v .bool y0)]) (K (.exit 0) [(4,.dead)]) x0 x1 x2):=by
 simp only [Gq,aT,bW,VV,agO bC h53,adH,adI]
 rfl
theorem adJ (x0):aj [4] [(4,.v .bool x0)]=[(4,.v .bool x0)]:=by kernel_rfl
theorem adK:aj [4] [(4,.dead)]=[(4,.dead)]:=by kernel_rfl
def Ub (k0:Bool→Option R):Option R:=
k0 true
theorem aqd:exec cl N Pb [(4,.dead)] K=(Ub (fun y0=>K .ret [(4,.v .bool y0)])):=by
 kernel_rfl
def Ud (N:Nat) (bC:V0→V0→Option (Bool)) (k0:Bool→Option R) (k1:Bool→Option R) (x0 x1:V7):Option R:=
(Uc k0 (T8 (Ua N bC k1 (Ub k1))) x0 x1)
theorem aqf (bC) (h53:(kM bC).holds cl) (x0 x1):exec cl N Ba [(0,.v U7 x0),(1,.v U7 x1)] K=(Ud N bC (fun y0=>K .ret (ja y0)) (fun y0=>K .ret [(4,.v .bool y0)]) x0 x1):=by
 simp only [bQ,bT,bS,bU,aqe,A9,Pa,aqa,O9,aT,ca,aqc bC h53,b8,b9,b7,adJ,adK,aqd]
 rfl
theorem akF (y0):ag d19 .ret (ja y0)=some [.v .bool y0]:=by kernel_rfl
theorem akG (y0):ag d19 .ret [(4,.v .bool y0)]=some [.v .bool y0]:=by kernel_rfl
def g19 (N:Nat) (bC:V0→V0→Option (Bool)) (x0 x1:V7) (k:Bool→Option R):Option R:=
(Ud N bC k k x0 x1)
theorem Z0 (bC) (h53:(kM bC).holds cl) (x0 x1) (k:List E→Option R):exec cl N Gn [(0,.v U7 x0),(1,.v U7 x1)] (fun e env=>(ag d19 e env).bind k)=g19 N bC x0 x1 (fun r0=>k [.v .bool r0]):=by
 simp only [Gn,aqf bC h53,akF,akG,aq]
 rfl
def I4 (S:V7→V7→Option (Bool)):aN:=dT 19 U7 U7 S fun b=> [.v .bool b]
def iV (N:Nat) (x0:V7) (x1:V7):Option (Bool):=g19 N (bC N) x0 x1 (fun (r0:Bool)=>some (r0))
def wJ (k0:Bool→Option R) (k1:V0→V0→Option R) (x0 x1:V0):Option R:=
ad ((x0.length:Int) != (x1.length:Int)) (k0 false) (k1 x0 x1)
theorem ap1 (x0 x1):exec cl N A8 (kQ x0 x1) K=(wJ (fun y0=>K .ret (ja y0)) (fun y0 y1=>exec cl N A7 (mY y0 y1) K) x0 x1):=by
 delta A8
 generalize A7=q
 revert q
 refine id ?_
 intro q
 kernel_rfl
def wF (k0:V0→V0→Int→Int→Option R) (x0 x1:V0):Option R:=
k0 x0 x1 (x0.length:Int) (0:Int)
theorem apX (x0 x1):exec cl N OX (mY x0 x1) K=(wF (fun y0 y1 y2 y3=>K .normal (lF y0 y1 y2 y3)) x0 x1):=by
 kernel_rfl
theorem VU (x0 x1 x2 x3):aj [0,1,12,13] (lF x0 x1 x2 x3)=(lF x0 x1 x2 x3):=by kernel_rfl
def wG (k0:Bool→Option R) (k1:V0→V0→Int→Int→Option R) (k2:V0→V0→Int→Int→Option R) (x0 x1:V0) (x2 x3:Int):Option R:=
ad (decide (x3 < x2)) (if 0≤x3∧x3 < (x0.length:Int) then
if 0≤x3∧x3 < (x1.length:Int) then
ad ((x0.getD x3.toNat (0:Int)) != (x1.getD x3.toNat (0:Int))) (k0 false) (k1 x0 x1 x2 (IntKind.i64.wrap (x3+(1:Int))))
else none
else none) (k2 x0 x1 x2 x3)
theorem apY (x0 x1 x2 x3):exec cl N Gf (lF x0 x1 x2 x3) K=(wG (fun y0=>K .ret (rK y0)) (fun y0 y1 y2 y3=>K .normal (lF y0 y1 y2 y3)) (fun y0 y1 y2 y3=>K (.exit 0) (lF y0 y1 y2 y3)) x0 x1 x2 x3):=by
 kernel_rfl
def s3 {R:Type} (k0:Bool→Option R) (k1:V0→V0→Int→Int→Option R):Nat→V0→V0→Int→Int→Option R
 | 0,_,_,_,_=>none
 | m+1,x0,x1,x2,x3=>(wG k0 (s3 k0 k1 m) k1 x0 x1 x2 x3)
theorem agM:∀ (m) (x0 x1 x2 x3),iter [0,1,12,13] (fun env K=>exec cl N Gf env K) K m (lF x0 x1 x2 x3)=s3 (fun y0=>K .ret (rK y0)) (fun y0 y1 y2 y3=>K (.exit 0) (lF y0 y1 y2 y3)) m x0 x1 x2 x3:=by
 intro m
 induction m with
 | zero=>intros; rfl
 | succ m ih=>
   intro x0 x1 x2 x3
   simp only [bX,apY,bZ,bY,b5,VU,ih]
   rfl
theorem adx (x0):aj [4] (rK x0)=[(4,.v .bool x0)]:=by kernel_rfl
theorem ady (x0 x1 x2 x3):aj [4] (lF x0 x1 x2 x3)=[(4,.dead)]:=by kernel_rfl
def wH (N:Nat) (k0:Bool→Option R) (k1:Option R) (x0 x1:V0) (x2 x3:Int):Option R:=
s3 k0 (fun y0 y1 y2 y3=>k1) N x0 x1 x2 x3
theorem apZ (x0 x1 x2 x3):exec cl N Gg (lF x0 x1 x2 x3) K=(wH N (fun y0=>K .ret [(4,.v .bool y0)]) (K (.exit 0) [(4,.dead)]) x0 x1 x2 x3):=by
 simp only [Gg,aT,bW,VU,agM,adx,ady]
 rfl
theorem adz (x0):aj [4] [(4,.v .bool x0)]=[(4,.v .bool x0)]:=by kernel_rfl
theorem adA:aj [4] [(4,.dead)]=[(4,.dead)]:=by kernel_rfl
def wI (k0:Bool→Option R):Option R:=
k0 true
theorem ap0:exec cl N O0 [(4,.dead)] K=(wI (fun y0=>K .ret [(4,.v .bool y0)])):=by
 kernel_rfl
def wK (N:Nat) (k0:Bool→Option R) (k1:Bool→Option R) (x0 x1:V0):Option R:=
(wJ k0 (wF (wH N k1 (wI k1))) x0 x1)
theorem ap2 (x0 x1):exec cl N A8 (kQ x0 x1) K=(wK N (fun y0=>K .ret (ja y0)) (fun y0=>K .ret [(4,.v .bool y0)]) x0 x1):=by
 simp only [bQ,bT,bS,bU,ap1,A7,OZ,apX,OY,aT,ca,apZ,b8,b9,b7,adz,adA,ap0]
 rfl
theorem akz (y0):ag d15 .ret (ja y0)=some [.v .bool y0]:=by kernel_rfl
theorem akA (y0):ag d15 .ret [(4,.v .bool y0)]=some [.v .bool y0]:=by kernel_rfl
def g15 (N:Nat) (x0 x1:V0) (k:Bool→Option R):Option R:=
(wK N k k x0 x1)
theorem ZP (x0 x1) (k:List E→Option R):exec cl N F1 (kQ x0 x1) (fun e env=>(ag d15 e env).bind k)=g15 N x0 x1 (fun r0=>k [.v .bool r0]):=by
 simp only [F1,ap2,akz,akA,aq]
 rfl
def IW (S:V0→V0→Option (Bool)):aN:=dT 15 U5 U5 S fun b=> [.v .bool b]
def gP (N:Nat) (x0:V0) (x1:V0):Option (Bool):=g15 N x0 x1 (fun (r0:Bool)=>some (r0))
def Kl (er:ae→V3→Option qL) (gP:V0→V0→Option (Bool)) (cK:ae→V3→Option nB) (iV:V7→V7→Option (Bool)) (iW:ae→V3→Option V1) (gQ:ae→V0→Option V8) (iu:Option uh) (k0:Bool→Option R) (k1:Bool→Option R):Option R:=
(iu).bind fun r1467=>
(cK r1467 ([97,114,109,97]:List UInt8)).bind fun r1468=>
(cK r1467 ([116,114,111,105,97,101]:List UInt8)).bind fun r1469=>
(er r1467 ([105,97,109]:List UInt8)).bind fun r1470=>
(gQ r1467 [(38:Int),(40:Int),(3:Int),(23:Int),(18:Int)]).bind fun r1471=>
(iW r1467 ([97,114,109,113]:List UInt8)).bind fun r1472=>
ad (r1468.2 != (0:Int)) (k0 false) (ad (r1469.2 != (0:Int)) (k0 false) (ad (r1470.2.2 != (0:Int)) (k0 false) (ad (r1471.2 != (0:Int)) (k0 false) (ad (r1472.2 != (0:Int)) (k0 false) (ad (r1472.1 != (3:Int)) (k0 false) (ad (r1470.2.1 != (1:Int)) (k0 false) ((iV r1468.1 [[(0:Int),(40:Int),(41:Int),(0:Int)]]).bind fun r1480=>
ad r1480 ((iV r1469.1 [[(38:Int),(40:Int),(3:Int),(23:Int),(18:Int)],[(38:Int),(40:Int),(3:Int),(2:Int),(18:Int)],[(38:Int),(40:Int),(3:Int),(23:Int),(0:Int),(1:Int)],[(38:Int),(40:Int),(3:Int),(2:Int),(0:Int),(1:Int)]]).bind fun r1481=>
ad r1481 ((gP r1470.1 [(22:Int),(0:Int),(41:Int)]).bind fun r1482=>
ad r1482 ((gP r1471.1 [(0:Int),(1:Int),(2:Int),(3:Int),(3:Int),(4:Int)]).bind fun r1483=>
k1 r1483) (k1 false)) (k1 false)) (k1 false))))))))
theorem aoC (er) (gP) (cK) (iV) (iW) (gQ) (iu) (h13:(uM er).holds cl) (h15:(IW gP).holds cl) (h16:(oV cK).holds cl) (h19:(I4 iV).holds cl) (h20:(I5 iW).holds cl) (h24:(I6 gQ).holds cl) (h37:(Cs iu).holds cl):exec cl N NR [] K=(Kl er gP cK iV iW gQ iu (fun y0=>K .ret (SN y0)) (fun y0=>K .ret [(0,.v .bool y0)])):=by
 rw [←aJ h13]
 rw [←aJ h15]
 rw [←aJ h16]
 rw [←aJ h19]
 rw [←aJ h20]
 rw [←aJ h24]
 rw [←aJ h37]
 kernel_rfl
theorem ajT (y0):ag d11 .ret (SN y0)=some [.v .bool y0]:=by kernel_rfl
theorem ajU (y0):ag d11 .ret [(0,.v .bool y0)]=some [.v .bool y0]:=by kernel_rfl
def g11 (er:ae→V3→Option qL) (gP:V0→V0→Option (Bool)) (cK:ae→V3→Option nB) (iV:V7→V7→Option (Bool)) (iW:ae→V3→Option V1) (gQ:ae→V0→Option V8) (iu:Option uh) (k:Bool→Option R):Option R:=
(Kl er gP cK iV iW gQ iu k k)
theorem Zk (er) (gP) (cK) (iV) (iW) (gQ) (iu) (h13:(uM er).holds cl) (h15:(IW gP).holds cl) (h16:(oV cK).holds cl) (h19:(I4 iV).holds cl) (h20:(I5 iW).holds cl) (h24:(I6 gQ).holds cl) (h37:(Cs iu).holds cl) (k:List E→Option R):exec cl N EP [] (fun e env=>(ag d11 e env).bind k)=g11 er gP cK iV iW gQ iu (fun r0=>k [.v .bool r0]):=by
 simp only [EP,aoC er gP cK iV iW gQ iu h13 h15 h16 h19 h20 h24 h37,ajT,ajU,aq]
 rfl
def Ci (S:Option (Bool)):aN:={A:=Unit,B:=Bool,f:=11,enc:=fun a=> [],dec:=cz,S:=fun a=>S,aw:=fun b=> [.v .bool b],ok:=(fun es b h=>jv h)}
def gp (N:Nat):Option (Bool):=g11 (er N) (gP N) (cK N) (iV N) (iW N) (gQ N) (iu N) (fun (r0:Bool)=>some (r0))
def sF (k0:Bool→Option R) (k1:av→Option R) (x0:av) (x1:Int):Option R:=
ad (decide ((x0.length:Int) > x1)) (k0 false) (k1 x0)
theorem asD (x0 x1):exec cl N BJ [(0,.v ba x0),(1,.v U2 x1)] K=(sF (fun y0=>K .ret [(0,.dead),(4,.v .bool y0)]) (fun y0=>exec cl N BI [(0,.v ba y0),(4,.dead)] K) x0 x1):=by
 delta BJ
 generalize BI=q
 revert q
 refine id ?_
 intro q
 kernel_rfl
def sB (k0:av→Int→Option R) (x0:av):Option R:=
k0 x0 (0:Int)
theorem asz (x0):exec cl N QS [(0,.v ba x0),(4,.dead)] K=(sB (fun y0 y1=>K .normal (lG y0 y1)) x0):=by
 kernel_rfl
theorem Wn (x0 x1):aj [0,5] (lG x0 x1)=(lG x0 x1):=by kernel_rfl
def sC (k0:Bool→Option R) (k1:av→Int→Option R) (k2:av→Int→Option R) (x0:av) (x1:Int):Option R:=
ad (decide (x1 < (x0.length:Int))) (if 0≤x1∧x1 < (x0.length:Int) then
ad (decide ((((x0.getD x1.toNat ((0:Int),((0:Int),([],())))).2.2.1).length:Int) > (40:Int))) (k0 false) (k1 x0 (IntKind.i64.wrap (x1+(1:Int))))
else none) (k2 x0 x1)
theorem asA (x0 x1):exec cl N HK (lG x0 x1) K=(sC (fun y0=>K .ret (JH y0)) (fun y0 y1=>K .normal (lG y0 y1)) (fun y0 y1=>K (.exit 0) (lG y0 y1)) x0 x1):=by
 kernel_rfl
def tj {R:Type} (k0:Bool→Option R) (k1:av→Int→Option R):Nat→av→Int→Option R
 | 0,_,_=>none
 | m+1,x0,x1=>(sC k0 (tj k0 k1 m) k1 x0 x1)
theorem aha:∀ (m) (x0 x1),iter [0,5] (fun env K=>exec cl N HK env K) K m (lG x0 x1)=tj (fun y0=>K .ret (JH y0)) (fun y0 y1=>K (.exit 0) (lG y0 y1)) m x0 x1:=by
 intro m
 induction m with
 | zero=>intros; rfl
 | succ m ih=>
   intro x0 x1
   simp only [bX,asA,bZ,bY,b5,Wn,ih]
   rfl
theorem aeJ (x0):aj [4] (JH x0)=[(4,.v .bool x0)]:=by kernel_rfl
theorem aeK (x0 x1):aj [4] (lG x0 x1)=[(4,.dead)]:=by kernel_rfl
def sD (N:Nat) (k0:Bool→Option R) (k1:Option R) (x0:av) (x1:Int):Option R:=
tj k0 (fun y0 y1=>k1) N x0 x1
theorem asB (x0 x1):exec cl N HL (lG x0 x1) K=(sD N (fun y0=>K .ret [(4,.v .bool y0)]) (K (.exit 0) [(4,.dead)]) x0 x1):=by
 simp only [HL,aT,bW,Wn,aha,aeJ,aeK]
 rfl
theorem aeL (x0):aj [4] [(4,.v .bool x0)]=[(4,.v .bool x0)]:=by kernel_rfl
theorem aeM:aj [4] [(4,.dead)]=[(4,.dead)]:=by kernel_rfl
def sE (k0:Bool→Option R):Option R:=
k0 true
theorem asC:exec cl N QV [(4,.dead)] K=(sE (fun y0=>K .ret [(4,.v .bool y0)])):=by
 kernel_rfl
def sG (N:Nat) (k0:Bool→Option R) (k1:Bool→Option R) (x0:av) (x1:Int):Option R:=
(sF k0 (sB (sD N k1 (sE k1))) x0 x1)
theorem asE (x0 x1):exec cl N BJ [(0,.v ba x0),(1,.v U2 x1)] K=(sG N (fun y0=>K .ret [(0,.dead),(4,.v .bool y0)]) (fun y0=>K .ret [(4,.v .bool y0)]) x0 x1):=by
 simp only [bQ,bT,bS,bU,asD,BI,QU,asz,QT,aT,ca,asB,b8,b9,b7,aeL,aeM,asC]
 rfl
theorem alA (y0):ag d66 .ret [(0,.dead),(4,.v .bool y0)]=some [.v .bool y0]:=by kernel_rfl
theorem alB (y0):ag d66 .ret [(4,.v .bool y0)]=some [.v .bool y0]:=by kernel_rfl
def pI (N:Nat) (x0:av) (x1:Int) (k:Bool→Option R):Option R:=
(sG N k k x0 x1)
theorem aas (x0 x1) (k:List E→Option R):exec cl N HJ [(0,.v ba x0),(1,.v U2 x1)] (fun e env=>(ag d66 e env).bind k)=pI N x0 x1 (fun r0=>k [.v .bool r0]):=by
 simp only [HJ,asE,alA,alB,aq]
 rfl
def rq (S:av→Int→Option (Bool)):aN:=dT 66 ba U2 S fun b=> [.v .bool b]
def dy (N:Nat) (x0:av) (x1:Int):Option (Bool):=pI N x0 x1 (fun (r0:Bool)=>some (r0))
def xr (k0:Bool→Option R) (k1:ae→Int→Option R) (x0:ae):Option R:=
ad (decide ((x0.1.length:Int) > (60:Int))) (k0 false) (ad (decide ((x0.2.1.length:Int) > (130:Int))) (k0 false) (k1 x0 (0:Int)))
theorem aq7 (x0):exec cl N Bp [(0,.v ar x0)] K=(xr (fun y0=>K .ret (vb y0)) (fun y0 y1=>exec cl N Bo [(1,.loc ar .no y0),(3,.v U2 y1)] K) x0):=by
 delta Bp
 generalize Bo=q
 revert q
 refine id ?_
 intro q
 kernel_rfl
def xl (k0:ae→Int→Int→Option R) (x0:ae) (x1:Int):Option R:=
k0 x0 x1 (0:Int)
theorem aq3 (x0 x1):exec cl N PN [(1,.loc ar .no x0),(3,.v U2 x1)] K=(xl (fun y0 y1 y2=>K .normal (lH y0 y1 y2)) x0 x1):=by
 kernel_rfl
theorem Wc (x0 x1 x2):aj [1,3,4] (lH x0 x1 x2)=(lH x0 x1 x2):=by kernel_rfl
def xm (dy:av→Int→Option (Bool)) (k0:Bool→Option R) (k1:ae→Int→Int→Option R) (k2:ae→Int→Int→Option R) (x0:ae) (x1 x2:Int):Option R:=
ad (decide (x2 < (x0.2.1.length:Int))) (if 0≤x2∧x2 < (x0.2.1.length:Int) then
if 0≤x2∧x2 < (x0.2.1.length:Int) then
(dy ((x0.2.1.getD x2.toNat ([],([],((0:Int),((0:Int),()))))).2.1) (6:Int)).bind fun r1505=>
ad (!r1505) (k0 false) (k1 x0 (IntKind.i64.wrap (x1+(((x0.2.1.getD x2.toNat ([],([],((0:Int),((0:Int),()))))).1).length:Int))) (IntKind.i64.wrap (x2+(1:Int))))
else none
else none) (k2 x0 x1 x2)
theorem aq4 (dy) (h66:(rq dy).holds cl) (x0 x1 x2):exec cl N GR (lH x0 x1 x2) K=(xm dy (fun y0=>K .ret (JI y0)) (fun y0 y1 y2=>K .normal (lH y0 y1 y2)) (fun y0 y1 y2=>K (.exit 0) (lH y0 y1 y2)) x0 x1 x2):=by
 rw [←aJ h66]
 kernel_rfl
def p8 {R:Type} (dy:av→Int→Option (Bool)) (k0:Bool→Option R) (k1:ae→Int→Int→Option R):Nat→ae→Int→Int→Option R
 | 0,_,_,_=>none
 | m+1,x0,x1,x2=>(xm dy k0 (p8 dy k0 k1 m) k1 x0 x1 x2)
theorem agY (dy) (h66:(rq dy).holds cl):∀ (m) (x0 x1 x2),iter [1,3,4] (fun env K=>exec cl N GR env K) K m (lH x0 x1 x2)=p8 dy (fun y0=>K .ret (JI y0)) (fun y0 y1 y2=>K (.exit 0) (lH y0 y1 y2)) m x0 x1 x2:=by
 intro m
 induction m with
 | zero=>intros; rfl
 | succ m ih=>
   intro x0 x1 x2
   simp only [bX,aq4 dy h66,bZ,bY,b5,Wc,ih]
   rfl
theorem ad9 (x0):aj [2,3] (JI x0)=(rD x0):=by kernel_rfl
theorem aea (x0 x1 x2):aj [2,3] (lH x0 x1 x2)=(jc x1):=by kernel_rfl
def xn (N:Nat) (dy:av→Int→Option (Bool)) (k0:Bool→Option R) (k1:Int→Option R) (x0:ae) (x1 x2:Int):Option R:=
p8 dy k0 (fun y0 y1 y2=>k1 y1) N x0 x1 x2
theorem aq5 (dy) (h66:(rq dy).holds cl) (x0 x1 x2):exec cl N GS (lH x0 x1 x2) K=(xn N dy (fun y0=>K .ret (rD y0)) (fun y0=>K (.exit 0) (jc y0)) x0 x1 x2):=by
 simp only [GS,aT,bW,Wc,agY dy h66,ad9,aea]
 rfl
theorem aeb (x0):aj [2,3] (rD x0)=(rD x0):=by kernel_rfl
theorem aec (x0):aj [2,3] (jc x0)=(jc x0):=by kernel_rfl
def xp (k0:Bool→Option R) (x0:Int):Option R:=
k0 (decide (x0≤(1500:Int)))
theorem aq6 (x0):exec cl N PR (jc x0) K=(xp (fun y0=>K .ret [(2,.v .bool y0)]) x0):=by
 kernel_rfl
def xu (N:Nat) (dy:av→Int→Option (Bool)) (k0:Bool→Option R) (k1:Bool→Option R) (k2:Bool→Option R) (x0:ae):Option R:=
(xr k0 (xl (xn N dy k1 ((xp k2)))) x0)
theorem aq8 (dy) (h66:(rq dy).holds cl) (x0):exec cl N Bp [(0,.v ar x0)] K=(xu N dy (fun y0=>K .ret (vb y0)) (fun y0=>K .ret (rD y0)) (fun y0=>K .ret [(2,.v .bool y0)]) x0):=by
 simp only [bQ,bT,bS,bU,aq7,Bo,PQ,aq3,PO,aT,ca,aq5 dy h66,b8,b9,b7,aeb,aec,aq6]
 rfl
theorem akU (y0):ag d34 .ret (vb y0)=some [.v .bool y0]:=by kernel_rfl
theorem akV (y0):ag d34 .ret (rD y0)=some [.v .bool y0]:=by kernel_rfl
theorem akW (y0):ag d34 .ret [(2,.v .bool y0)]=some [.v .bool y0]:=by kernel_rfl
def sd (N:Nat) (dy:av→Int→Option (Bool)) (x0:ae) (k:Bool→Option R):Option R:=
(xu N dy k k k x0)
theorem Z7 (dy) (h66:(rq dy).holds cl) (x0) (k:List E→Option R):exec cl N GQ [(0,.v ar x0)] (fun e env=>(ag d34 e env).bind k)=sd N dy x0 (fun r0=>k [.v .bool r0]):=by
 simp only [GQ,aq8 dy h66,akU,akV,akW,aq]
 rfl
def Ja (S:ae→Option (Bool)):aN:=cC 34 ar S fun b=> [.v .bool b]
def iq (N:Nat) (x0:ae):Option (Bool):=sd N (dy N) x0 (fun (r0:Bool)=>some (r0))
def Kr (iq:ae→Option (Bool)) (k0:Bool→Option R) (x0:ae) (x1:V3) (x2:V0):Option R:=
(iq x0).bind fun r1511=>
ad r1511 (ad (decide ((x1.length:Int)≤(40:Int))) (k0 (decide ((x2.length:Int)≤(40:Int)))) (k0 false)) (k0 false)
theorem ao0 (iq) (h34:(Ja iq).holds cl) (x0 x1 x2):exec cl N Ob (lJ x0 x1 x2) K=(Kr iq (fun y0=>K .ret [(6,.v .bool y0)]) x0 x1 x2):=by
 rw [←aJ h34]
 kernel_rfl
theorem aj5 (y0):ag d12 .ret [(6,.v .bool y0)]=some [.v .bool y0]:=by kernel_rfl
def g12 (iq:ae→Option (Bool)) (x0:ae) (x1:V3) (x2:V0) (k:Bool→Option R):Option R:=
(Kr iq k x0 x1 x2)
theorem Zt (iq) (h34:(Ja iq).holds cl) (x0 x1 x2) (k:List E→Option R):exec cl N Fe (lJ x0 x1 x2) (fun e env=>(ag d12 e env).bind k)=g12 iq x0 x1 x2 (fun r0=>k [.v .bool r0]):=by
 simp only [Fe,ao0 iq h34,aj5,aq]
 rfl
def IP (S:ae→V3→V0→Option (Bool)):aN:=rA 12 ar .str U5 S fun b=> [.v .bool b]
def hR (N:Nat) (x0:ae) (x1:V3) (x2:V0):Option (Bool):=g12 (iq N) x0 x1 x2 (fun (r0:Bool)=>some (r0))
def w3 (cd:ae→V3→Option (Int)) (dI:ae→V0→Option oM) (k0:Int→Int→Option R) (k1:Int→Int→Option R) (k2:V0→ae→Option R) (x0:ae) (x1:V3) (x2:V0):Option R:=
(cd x0 x1).bind fun r1538=>
ad (r1538 != (0:Int)) (k0 (0:Int) r1538) ((dI x0 x2).bind fun r1540=>
ad (!r1540.2) (k1 (0:Int) (6:Int)) (ad (r1540.1 != x1) (k1 (0:Int) (1:Int)) (k2 x2 x0)))
theorem aqP (cd) (dI) (h40:(mV cd).holds cl) (h57:(rk dI).holds cl) (x0 x1 x2):exec cl N Bl (lJ x0 x1 x2) K=(w3 cd dI (fun y0 y1=>K .ret (rE y0 y1)) (fun y0 y1=>K .ret (jx y0 y1)) (fun y0 y1=>exec cl N Bk (jy y0 y1) K) x0 x1 x2):=by
 rw [←aJ h40]
 rw [←aJ h57]
 delta Bl
 generalize Bk=q
 revert q
 refine id ?_
 intro q
 kernel_rfl
def wX (k0:V0→ae→V0→Int→Int→Option R) (x0:V0) (x1:ae):Option R:=
k0 x0 x1 x0 (x0.length:Int) (0:Int)
theorem aqL (x0 x1):exec cl N Pz (jy x0 x1) K=(wX (fun y0 y1 y2 y3 y4=>K .normal (lK y0 y1 y2 y3 y4)) x0 x1):=by
 kernel_rfl
theorem VZ (x0 x1 x2 x3 x4):aj [2,3,34,35,36] (lK x0 x1 x2 x3 x4)=(lK x0 x1 x2 x3 x4):=by kernel_rfl
def wY (aS:ae→Int→av→av→Option (Bool)) (k0:Int→Int→Option R) (k1:V0→ae→V0→Int→Int→Option R) (k2:V0→ae→V0→Int→Int→Option R) (x0:V0) (x1:ae) (x2:V0) (x3 x4:Int):Option R:=
ad (decide (x4 < x3)) (if 0≤x4∧x4 < (x2.length:Int) then
ad (decide (x4 > (0:Int))) (let v1544:Int:=(IntKind.i64.wrap (x4 - (1:Int)))
if 0≤v1544∧v1544 < (x0.length:Int) then
if 0≤(x0.getD v1544.toNat (0:Int))∧(x0.getD v1544.toNat (0:Int)) < (x1.2.1.length:Int) then
ad (decide ((IntKind.i64.wrap (x4+(1:Int))) < (x0.length:Int))) (let v1547:Int:=(IntKind.i64.wrap (x4+(1:Int)))
if 0≤v1547∧v1547 < (x0.length:Int) then
if 0≤(x0.getD v1547.toNat (0:Int))∧(x0.getD v1547.toNat (0:Int)) < (x1.2.1.length:Int) then
(aS x1 (x2.getD x4.toNat (0:Int)) ((x1.2.1.getD (x0.getD v1544.toNat (0:Int)).toNat ([],([],((0:Int),((0:Int),()))))).2.1) ((x1.2.1.getD (x0.getD v1547.toNat (0:Int)).toNat ([],([],((0:Int),((0:Int),()))))).2.1)).bind fun r1548=>
ad (!r1548) (k0 (0:Int) (19:Int)) (k1 x0 x1 x2 x3 (IntKind.i64.wrap (x4+(1:Int))))
else none
else none) ((aS x1 (x2.getD x4.toNat (0:Int)) ((x1.2.1.getD (x0.getD v1544.toNat (0:Int)).toNat ([],([],((0:Int),((0:Int),()))))).2.1) []).bind fun r1550=>
ad (!r1550) (k0 (0:Int) (19:Int)) (k1 x0 x1 x2 x3 (IntKind.i64.wrap (x4+(1:Int)))))
else none
else none) (ad (decide ((IntKind.i64.wrap (x4+(1:Int))) < (x0.length:Int))) (let v1554:Int:=(IntKind.i64.wrap (x4+(1:Int)))
if 0≤v1554∧v1554 < (x0.length:Int) then
if 0≤(x0.getD v1554.toNat (0:Int))∧(x0.getD v1554.toNat (0:Int)) < (x1.2.1.length:Int) then
(aS x1 (x2.getD x4.toNat (0:Int)) [] ((x1.2.1.getD (x0.getD v1554.toNat (0:Int)).toNat ([],([],((0:Int),((0:Int),()))))).2.1)).bind fun r1555=>
ad (!r1555) (k0 (0:Int) (19:Int)) (k1 x0 x1 x2 x3 (IntKind.i64.wrap (x4+(1:Int))))
else none
else none) ((aS x1 (x2.getD x4.toNat (0:Int)) [] []).bind fun r1557=>
ad (!r1557) (k0 (0:Int) (19:Int)) (k1 x0 x1 x2 x3 (IntKind.i64.wrap (x4+(1:Int))))))
else none) (k2 x0 x1 x2 x3 x4)
theorem aqM (aS) (h60:(gy aS).holds cl) (x0 x1 x2 x3 x4):exec cl N GH (lK x0 x1 x2 x3 x4) K=(wY aS (fun y0 y1=>K .ret (JJ y0 y1)) (fun y0 y1 y2 y3 y4=>K .normal (lK y0 y1 y2 y3 y4)) (fun y0 y1 y2 y3 y4=>K (.exit 1) (lK y0 y1 y2 y3 y4)) x0 x1 x2 x3 x4):=by
 rw [←aJ h60]
 kernel_rfl
def ng {R:Type} (aS:ae→Int→av→av→Option (Bool)) (k0:Int→Int→Option R) (k1:V0→ae→V0→Int→Int→Option R):Nat→V0→ae→V0→Int→Int→Option R
 | 0,_,_,_,_,_=>none
 | m+1,x0,x1,x2,x3,x4=>(wY aS k0 (ng aS k0 k1 m) k1 x0 x1 x2 x3 x4)
theorem agU (aS) (h60:(gy aS).holds cl):∀ (m) (x0 x1 x2 x3 x4),iter [2,3,34,35,36] (fun env K=>exec cl N GH env K) K m (lK x0 x1 x2 x3 x4)=ng aS (fun y0 y1=>K .ret (JJ y0 y1)) (fun y0 y1 y2 y3 y4=>K (.exit 1) (lK y0 y1 y2 y3 y4)) m x0 x1 x2 x3 x4:=by
 intro m
 induction m with
 | zero=>intros; rfl
 | succ m ih=>
   intro x0 x1 x2 x3 x4
   simp only [bX,aqM aS h60,bZ,bY,b5,VZ,ih]
   rfl
theorem adX (x0 x1):aj [2,3,6,7] (JJ x0 x1)=(jx x0 x1):=by kernel_rfl
theorem adY (x0 x1 x2 x3 x4):aj [2,3,6,7] (lK x0 x1 x2 x3 x4)=(jy x0 x1):=by kernel_rfl
def wZ (N:Nat) (aS:ae→Int→av→av→Option (Bool)) (k0:Int→Int→Option R) (k1:V0→ae→Option R) (x0:V0) (x1:ae) (x2:V0) (x3 x4:Int):Option R:=
ng aS k0 (fun y0 y1 y2 y3 y4=>k1 y0 y1) N x0 x1 x2 x3 x4
theorem aqN (aS) (h60:(gy aS).holds cl) (x0 x1 x2 x3 x4):exec cl N GI (lK x0 x1 x2 x3 x4) K=(wZ N aS (fun y0 y1=>K .ret (jx y0 y1)) (fun y0 y1=>K (.exit 1) (jy y0 y1)) x0 x1 x2 x3 x4):=by
 simp only [GI,aT,bW,VZ,agU aS h60,adX,adY]
 rfl
theorem adZ (x0 x1):aj [2,3,6,7] (jx x0 x1)=(jx x0 x1):=by kernel_rfl
theorem ad0 (x0 x1):aj [2,3,6,7] (jy x0 x1)=(jy x0 x1):=by kernel_rfl
def w0 (ct:ae→V0→Option (Int)) (k0:Int→Int→Option R) (x0:V0) (x1:ae):Option R:=
(ct x1 x0).bind fun r1559=>
k0 r1559 (0:Int)
theorem aqO (ct) (h38:(nN ct).holds cl) (x0 x1):exec cl N PC (jy x0 x1) K=(w0 ct (fun y0 y1=>K .ret (rF y0 y1)) x0 x1):=by
 rw [←aJ h38]
 kernel_rfl
def w4 (N:Nat) (ct:ae→V0→Option (Int)) (cd:ae→V3→Option (Int)) (dI:ae→V0→Option oM) (aS:ae→Int→av→av→Option (Bool)) (k0:Int→Int→Option R) (k1:Int→Int→Option R) (k2:Int→Int→Option R) (x0:ae) (x1:V3) (x2:V0):Option R:=
(w3 cd dI k0 k1 (wX (wZ N aS k1 ((w0 ct k2)))) x0 x1 x2)
theorem aqQ (ct) (cd) (dI) (aS) (h38:(nN ct).holds cl) (h40:(mV cd).holds cl) (h57:(rk dI).holds cl) (h60:(gy aS).holds cl) (x0 x1 x2):exec cl N Bl (lJ x0 x1 x2) K=(w4 N ct cd dI aS (fun y0 y1=>K .ret (rE y0 y1)) (fun y0 y1=>K .ret (jx y0 y1)) (fun y0 y1=>K .ret (rF y0 y1)) x0 x1 x2):=by
 simp only [bQ,bT,bS,bU,aqP cd dI h40 h57,Bk,PB,aqL,PA,aT,ca,aqN aS h60,b8,b9,b7,adZ,ad0,aqO ct h38]
 rfl
theorem akN (y0 y1):ag d29 .ret (rE y0 y1)=some [.v U2 y0,.v U2 y1]:=by kernel_rfl
theorem akO (y0 y1):ag d29 .ret (jx y0 y1)=some [.v U2 y0,.v U2 y1]:=by kernel_rfl
theorem akP (y0 y1):ag d29 .ret (rF y0 y1)=some [.v U2 y0,.v U2 y1]:=by kernel_rfl
def r9 (N:Nat) (ct:ae→V0→Option (Int)) (cd:ae→V3→Option (Int)) (dI:ae→V0→Option oM) (aS:ae→Int→av→av→Option (Bool)) (x0:ae) (x1:V3) (x2:V0) (k:Int→Int→Option R):Option R:=
(w4 N ct cd dI aS k k k x0 x1 x2)
theorem Z4 (ct) (cd) (dI) (aS) (h38:(nN ct).holds cl) (h40:(mV cd).holds cl) (h57:(rk dI).holds cl) (h60:(gy aS).holds cl) (x0 x1 x2) (k:List E→Option R):exec cl N GG (lJ x0 x1 x2) (fun e env=>(ag d29 e env).bind k)=r9 N ct cd dI aS x0 x1 x2 (fun r0 r1=>k [.v U2 r0,.v U2 r1]):=by
 simp only [GG,aqQ ct cd dI aS h38 h40 h57 h60,akN,akO,akP,aq]
 rfl
def I7 (S:ae→V3→V0→Option V1):aN:=rA 29 ar .str U5 S fun b=> [.v U2 b.1,.v U2 b.2]
def ik (N:Nat) (x0:ae) (x1:V3) (x2:V0):Option V1:=r9 N (ct N) (cd N) (dI N) (aS N) x0 x1 x2 (fun (r0:Int) (r1:Int)=>some (r0,r1))
def KL (dM:ae→Option V1) (k0:Int→Option R) (x0:ae):Option R:=
(dM x0).bind fun r1562=>
k0 r1562.2
theorem aq9 (dM) (h67:(ru dM).holds cl) (x0):exec cl N PS [(0,.v ar x0)] K=(KL dM (fun y0=>K .ret [(2,.v U2 y0)]) x0):=by
 rw [←aJ h67]
 kernel_rfl
theorem akX (y0):ag d35 .ret [(2,.v U2 y0)]=some [.v U2 y0]:=by kernel_rfl
def Df (dM:ae→Option V1) (x0:ae) (k:Int→Option R):Option R:=
(KL dM k x0)
theorem Z8 (dM) (h67:(ru dM).holds cl) (x0) (k:List E→Option R):exec cl N GU [(0,.v ar x0)] (fun e env=>(ag d35 e env).bind k)=Df dM x0 (fun r0=>k [.v U2 r0]):=by
 simp only [GU,aq9 dM h67,akX,aq]
 rfl
def Jb (S:ae→Option (Int)):aN:=cC 35 ar S fun b=> [.v U2 b]
def ir (N:Nat) (x0:ae):Option (Int):=Df (dM N) x0 (fun (r0:Int)=>some (r0))
def vp (k0:V3→V0→Option R) (x0:V3):Option R:=
if 0≤(x0.length:Int)∧(x0.length:Int)≤(x0.length:Int)∧(x0.length:Int)≤((140737488355328:Nat):Int) then
k0 x0 (gn (x0.length:Int).toNat (0:Int))
else none
theorem anZ (x0):exec cl N AB [(0,.v .str x0)] K=(vp (fun y0 y1=>exec cl N AA [(0,.v .str y0),(3,.own true 5 U0 .no y1)] K) x0):=by
 delta AB
 generalize AA=q
 revert q
 refine id ?_
 intro q
 kernel_rfl
def vl (k0:V3→V0→Int→Option R) (x0:V3) (x1:V0):Option R:=
k0 x0 x1 (0:Int)
theorem anV (x0 x1):exec cl N Np [(0,.v .str x0),(3,.own true 5 U0 .no x1)] K=(vl (fun y0 y1 y2=>K .normal (lL y0 y1 y2)) x0 x1):=by
 kernel_rfl
theorem VE (x0 x1 x2):aj [0,3,4] (lL x0 x1 x2)=(lL x0 x1 x2):=by kernel_rfl
def vm (k0:V3→V0→Int→Option R) (k1:V3→V0→Int→Option R) (x0:V3) (x1:V0) (x2:Int):Option R:=
ad (decide (x2 < (x0.length:Int))) (if 0≤x2∧x2 < (x0.length:Int) then
let v1581:Int:=((x0.getD x2.toNat 0).toNat:Int)
if 0≤x2∧x2 < (x1.length:Int) then
if x2.toNat < x1.length then
if 0≤x2∧x2 < (x0.length:Int) then
ad (decide (((x0.getD x2.toNat 0).toNat:Int)≥(65:Int))) (if 0≤x2∧x2 < (x0.length:Int) then
ad (decide (((x0.getD x2.toNat 0).toNat:Int)≤(90:Int))) (if 0≤x2∧x2 < (x0.length:Int) then
if 0≤x2∧x2 < ((x1.set x2.toNat v1581).length:Int) then
if x2.toNat < (x1.set x2.toNat v1581).length then
k0 x0 ((x1.set x2.toNat v1581).set x2.toNat (IntKind.u8.wrap ((IntKind.u8.wrap (((x0.getD x2.toNat 0).toNat:Int) - (65:Int)))+(97:Int)))) (IntKind.i64.wrap (x2+(1:Int)))
else none
else none
else none) (k0 x0 (x1.set x2.toNat v1581) (IntKind.i64.wrap (x2+(1:Int))))
else none) (k0 x0 (x1.set x2.toNat v1581) (IntKind.i64.wrap (x2+(1:Int))))
else none
else none
else none
else none) (k1 x0 x1 x2)
theorem anW (x0 x1 x2):exec cl N ES (lL x0 x1 x2) K=(vm (fun y0 y1 y2=>K .normal (lL y0 y1 y2)) (fun y0 y1 y2=>K (.exit 0) (lL y0 y1 y2)) x0 x1 x2):=by
 kernel_rfl
def sU {R:Type} (k0:V3→V0→Int→Option R):Nat→V3→V0→Int→Option R
 | 0,_,_,_=>none
 | m+1,x0,x1,x2=>(vm (sU k0 m) k0 x0 x1 x2)
theorem agu:∀ (m) (x0 x1 x2),iter [0,3,4] (fun env K=>exec cl N ES env K) K m (lL x0 x1 x2)=sU (fun y0 y1 y2=>K (.exit 0) (lL y0 y1 y2)) m x0 x1 x2:=by
 intro m
 induction m with
 | zero=>intros; rfl
 | succ m ih=>
   intro x0 x1 x2
   simp only [bX,anW,bZ,bY,b5,VE,ih]
   rfl
theorem acB (x0 x1 x2):aj [3] (lL x0 x1 x2)=(uX x1):=by kernel_rfl
def vn (N:Nat) (k0:V0→Option R) (x0:V3) (x1:V0) (x2:Int):Option R:=
sU (fun y0 y1 y2=>k0 y1) N x0 x1 x2
theorem anX (x0 x1 x2):exec cl N ET (lL x0 x1 x2) K=(vn N (fun y0=>K (.exit 0) (uX y0)) x0 x1 x2):=by
 simp only [ET,aT,bW,VE,agu,acB]
 rfl
theorem acC (x0):aj [3] (uX x0)=(uX x0):=by kernel_rfl
def vo (k0:V3→Option R) (x0:V0):Option R:=
k0 (x0.map fun n=>UInt8.ofNat n.toNat)
theorem anY (x0):exec cl N Ns (uX x0) K=(vo (fun y0=>K .ret [(2,.v .str y0)]) x0):=by
 kernel_rfl
def vq (N:Nat) (k0:V3→Option R) (x0:V3):Option R:=
(vp (vl (vn N ((vo k0)))) x0)
theorem an0 (x0):exec cl N AB [(0,.v .str x0)] K=(vq N (fun y0=>K .ret [(2,.v .str y0)]) x0):=by
 simp only [bQ,bT,bS,bU,anZ,AA,Nr,anV,Nq,aT,ca,anX,b8,b9,b7,acC,anY]
 rfl
theorem ajE (y0):ag d110 .ret [(2,.v .str y0)]=some [.v .str y0]:=by kernel_rfl
def rR (N:Nat) (x0:V3) (k:V3→Option R):Option R:=
(vq N k x0)
theorem Zl (x0) (k:List E→Option R):exec cl N ER [(0,.v .str x0)] (fun e env=>(ag d110 e env).bind k)=rR N x0 (fun r0=>k [.v .str r0]):=by
 simp only [ER,an0,ajE,aq]
 rfl
def Cj (S:V3→Option V6):aN:=cC 110 .str S fun b=> [.v .str b]
def fw (N:Nat) (x0:V3):Option V6:=rR N x0 (fun (r0:V3)=>some (r0))
def yS (fw:V3→Option V6) (k0:Int→Option R) (k1:V3→Option R) (x0:V3):Option R:=
ad (x0==([]:List UInt8)) (k0 (7:Int)) (ad (decide ((x0.length:Int) > (16:Int))) (k0 (3:Int)) ((fw x0).bind fun r1600=>
ad (r1600 != x0) (k0 (2:Int)) (k1 x0)))
theorem atp (fw) (h110:(Cj fw).holds cl) (x0):exec cl N BW [(0,.v .str x0)] K=(yS fw (fun y0=>K .ret (gW y0)) (fun y0=>exec cl N BV (rH y0) K) x0):=by
 rw [←aJ h110]
 delta BW
 generalize BV=q
 revert q
 refine id ?_
 intro q
 kernel_rfl
def yO (k0:V3→Int→Option R) (x0:V3):Option R:=
k0 x0 (0:Int)
theorem atl (x0):exec cl N Rw (rH x0) K=(yO (fun y0 y1=>K .normal (cw y0 y1)) x0):=by
 kernel_rfl
theorem Wu (x0 x1):aj [0,3] (cw x0 x1)=(cw x0 x1):=by kernel_rfl
def yP (bz:Int→Option (Bool)) (k0:Int→Option R) (k1:V3→Int→Option R) (k2:V3→Int→Option R) (x0:V3) (x1:Int):Option R:=
ad (decide (x1 < (x0.length:Int))) (if 0≤x1∧x1 < (x0.length:Int) then
(bz ((x0.getD x1.toNat 0).toNat:Int)).bind fun r1603=>
ad (!r1603) (k0 (2:Int)) (k1 x0 (IntKind.i64.wrap (x1+(1:Int))))
else none) (k2 x0 x1)
theorem atm (bz) (h111:(kJ bz).holds cl) (x0 x1):exec cl N H8 (cw x0 x1) K=(yP bz (fun y0=>K .ret (mZ y0)) (fun y0 y1=>K .normal (cw y0 y1)) (fun y0 y1=>K (.exit 0) (cw y0 y1)) x0 x1):=by
 rw [←aJ h111]
 kernel_rfl
def tl {R:Type} (bz:Int→Option (Bool)) (k0:Int→Option R) (k1:V3→Int→Option R):Nat→V3→Int→Option R
 | 0,_,_=>none
 | m+1,x0,x1=>(yP bz k0 (tl bz k0 k1 m) k1 x0 x1)
theorem ahh (bz) (h111:(kJ bz).holds cl):∀ (m) (x0 x1),iter [0,3] (fun env K=>exec cl N H8 env K) K m (cw x0 x1)=tl bz (fun y0=>K .ret (mZ y0)) (fun y0 y1=>K (.exit 0) (cw y0 y1)) m x0 x1:=by
 intro m
 induction m with
 | zero=>intros; rfl
 | succ m ih=>
   intro x0 x1
   simp only [bX,atm bz h111,bZ,bY,b5,Wu,ih]
   rfl
theorem ae9 (x0):aj [2] (mZ x0)=[(2,.v U2 x0)]:=by kernel_rfl
theorem afa (x0 x1):aj [2] (cw x0 x1)=[(2,.dead)]:=by kernel_rfl
def yQ (N:Nat) (bz:Int→Option (Bool)) (k0:Int→Option R) (k1:Option R) (x0:V3) (x1:Int):Option R:=
tl bz k0 (fun y0 y1=>k1) N x0 x1
theorem atn (bz) (h111:(kJ bz).holds cl) (x0 x1):exec cl N H9 (cw x0 x1) K=(yQ N bz (fun y0=>K .ret [(2,.v U2 y0)]) (K (.exit 0) [(2,.dead)]) x0 x1):=by
 simp only [H9,aT,bW,Wu,ahh bz h111,ae9,afa]
 rfl
theorem afb (x0):aj [2] [(2,.v U2 x0)]=[(2,.v U2 x0)]:=by kernel_rfl
theorem afc:aj [2] [(2,.dead)]=[(2,.dead)]:=by kernel_rfl
def yR (k0:Int→Option R):Option R:=
k0 (0:Int)
theorem ato:exec cl N Rz [(2,.dead)] K=(yR (fun y0=>K .ret [(2,.v U2 y0)])):=by
 kernel_rfl
def yT (N:Nat) (fw:V3→Option V6) (bz:Int→Option (Bool)) (k0:Int→Option R) (k1:Int→Option R) (x0:V3):Option R:=
(yS fw k0 (yO (yQ N bz k1 (yR k1))) x0)
theorem atq (fw) (bz) (h110:(Cj fw).holds cl) (h111:(kJ bz).holds cl) (x0):exec cl N BW [(0,.v .str x0)] K=(yT N fw bz (fun y0=>K .ret (gW y0)) (fun y0=>K .ret [(2,.v U2 y0)]) x0):=by
 simp only [bQ,bT,bS,bU,atp fw h110,BV,Ry,atl,Rx,aT,ca,atn bz h111,b8,b9,b7,afb,afc,ato]
 rfl
theorem alR (y0):ag d78 .ret (gW y0)=some [.v U2 y0]:=by kernel_rfl
theorem alS (y0):ag d78 .ret [(2,.v U2 y0)]=some [.v U2 y0]:=by kernel_rfl
def sK (N:Nat) (fw:V3→Option V6) (bz:Int→Option (Bool)) (x0:V3) (k:Int→Option R):Option R:=
(yT N fw bz k k x0)
theorem aaz (fw) (bz) (h110:(Cj fw).holds cl) (h111:(kJ bz).holds cl) (x0) (k:List E→Option R):exec cl N H7 [(0,.v .str x0)] (fun e env=>(ag d78 e env).bind k)=sK N fw bz x0 (fun r0=>k [.v U2 r0]):=by
 simp only [H7,atq fw bz h110 h111,alR,alS,aq]
 rfl
def Ji (S:V3→Option (Int)):aN:=cC 78 .str S fun b=> [.v U2 b]
def iX (N:Nat) (x0:V3):Option (Int):=sK N (fw N) (bz N) x0 (fun (r0:Int)=>some (r0))
def KQ (ir:ae→Option (Int)) (iX:V3→Option (Int)) (k0:Int→Option R) (k1:Int→Option R) (x0:ae) (x1:V3):Option R:=
(ir x0).bind fun r1606=>
ad (r1606 != (0:Int)) (k0 r1606) ((iX x1).bind fun r1608=>
k1 r1608)
theorem arY (ir) (iX) (h35:(Jb ir).holds cl) (h78:(Ji iX).holds cl) (x0 x1):exec cl N Qo (kP x0 x1) K=(KQ ir iX (fun y0=>K .ret (CG y0)) (fun y0=>K .ret [(4,.v U2 y0)]) x0 x1):=by
 rw [←aJ h35]
 rw [←aJ h78]
 kernel_rfl
theorem alf (y0):ag d48 .ret (CG y0)=some [.v U2 y0]:=by kernel_rfl
theorem alg (y0):ag d48 .ret [(4,.v U2 y0)]=some [.v U2 y0]:=by kernel_rfl
def Dj (ir:ae→Option (Int)) (iX:V3→Option (Int)) (x0:ae) (x1:V3) (k:Int→Option R):Option R:=
(KQ ir iX k k x0 x1)
theorem aaj (ir) (iX) (h35:(Jb ir).holds cl) (h78:(Ji iX).holds cl) (x0 x1) (k:List E→Option R):exec cl N Ho (kP x0 x1) (fun e env=>(ag d48 e env).bind k)=Dj ir iX x0 x1 (fun r0=>k [.v U2 r0]):=by
 simp only [Ho,arY ir iX h35 h78,alf,alg,aq]
 rfl
def Cu (S:ae→V3→Option (Int)):aN:=dT 48 ar .str S fun b=> [.v U2 b]
def fD (N:Nat) (x0:ae) (x1:V3):Option (Int):=Dj (ir N) (iX N) x0 x1 (fun (r0:Int)=>some (r0))
def ym (k0:V0→ae→Option R) (x0:ae) (x1:V0):Option R:=
k0 x1 x0
theorem asr (x0 x1):exec cl N QK (gd x0 x1) K=(ym (fun y0 y1=>K .normal [(1,.v U5 y0),(2,.loc ar .no y1)]) x0 x1):=by
 kernel_rfl
def yn (k0:V0→ae→Int→Option R) (x0:V0) (x1:ae):Option R:=
k0 x0 x1 (0:Int)
theorem ass (x0 x1):exec cl N QL [(1,.v U5 x0),(2,.loc ar .no x1)] K=(yn (fun y0 y1 y2=>K .normal (jw y0 y1 y2)) x0 x1):=by
 kernel_rfl
theorem Wm (x0 x1 x2):aj [1,2,5] (jw x0 x1 x2)=(jw x0 x1 x2):=by kernel_rfl
def yp (k0:Int→Option R) (k1:V0→ae→Int→Option R) (k2:V0→ae→Int→Option R) (x0:V0) (x1:ae) (x2:Int):Option R:=
ad (decide (x2 < (x0.length:Int))) (if 0≤x2∧x2 < (x0.length:Int) then
ad (decide ((x0.getD x2.toNat (0:Int)) < (0:Int))) (k0 (6:Int)) (if 0≤x2∧x2 < (x0.length:Int) then
ad (decide ((x0.getD x2.toNat (0:Int))≥(x1.2.1.length:Int))) (k0 (6:Int)) (k1 x0 x1 (IntKind.i64.wrap (x2+(1:Int))))
else none)
else none) (k2 x0 x1 x2)
theorem ast (x0 x1 x2):exec cl N HE (jw x0 x1 x2) K=(yp (fun y0=>K .ret (JL y0)) (fun y0 y1 y2=>K .normal (jw y0 y1 y2)) (fun y0 y1 y2=>K (.exit 0) (jw y0 y1 y2)) x0 x1 x2):=by
 kernel_rfl
def ti {R:Type} (k0:Int→Option R) (k1:V0→ae→Int→Option R):Nat→V0→ae→Int→Option R
 | 0,_,_,_=>none
 | m+1,x0,x1,x2=>(yp k0 (ti k0 k1 m) k1 x0 x1 x2)
theorem ag9:∀ (m) (x0 x1 x2),iter [1,2,5] (fun env K=>exec cl N HE env K) K m (jw x0 x1 x2)=ti (fun y0=>K .ret (JL y0)) (fun y0 y1 y2=>K (.exit 0) (jw y0 y1 y2)) m x0 x1 x2:=by
 intro m
 induction m with
 | zero=>intros; rfl
 | succ m ih=>
   intro x0 x1 x2
   simp only [bX,ast,bZ,bY,b5,Wm,ih]
   rfl
theorem aeF (x0):aj [4] (JL x0)=[(4,.v U2 x0)]:=by kernel_rfl
theorem aeG (x0 x1 x2):aj [4] (jw x0 x1 x2)=[(4,.dead)]:=by kernel_rfl
def yq (N:Nat) (k0:Int→Option R) (k1:Option R) (x0:V0) (x1:ae) (x2:Int):Option R:=
ti k0 (fun y0 y1 y2=>k1) N x0 x1 x2
theorem asu (x0 x1 x2):exec cl N HF (jw x0 x1 x2) K=(yq N (fun y0=>K .ret [(4,.v U2 y0)]) (K (.exit 0) [(4,.dead)]) x0 x1 x2):=by
 simp only [HF,aT,bW,Wm,ag9,aeF,aeG]
 rfl
theorem aeH (x0):aj [4] [(4,.v U2 x0)]=[(4,.v U2 x0)]:=by kernel_rfl
theorem aeI:aj [4] [(4,.dead)]=[(4,.dead)]:=by kernel_rfl
def yr (k0:Int→Option R):Option R:=
k0 (0:Int)
theorem asv:exec cl N QO [(4,.dead)] K=(yr (fun y0=>K .ret [(4,.v U2 y0)])):=by
 kernel_rfl
def yu (N:Nat) (k0:Int→Option R) (x0:ae) (x1:V0):Option R:=
(ym (yn (yq N k0 (yr k0))) x0 x1)
theorem asw (x0 x1):exec cl N HG (gd x0 x1) K=(yu N (fun y0=>K .ret [(4,.v U2 y0)]) x0 x1):=by
 simp only [HG,bQ,bT,bS,bU,asr,QP,QN,ass,QM,aT,ca,asu,b8,b9,b7,aeH,aeI,asv]
 rfl
theorem alv (y0):ag d61 .ret [(4,.v U2 y0)]=some [.v U2 y0]:=by kernel_rfl
def sA (N:Nat) (x0:ae) (x1:V0) (k:Int→Option R):Option R:=
(yu N k x0 x1)
theorem aap (x0 x1) (k:List E→Option R):exec cl N HD (gd x0 x1) (fun e env=>(ag d61 e env).bind k)=sA N x0 x1 (fun r0=>k [.v U2 r0]):=by
 simp only [HD,asw,alv,aq]
 rfl
def Cx (S:ae→V0→Option (Int)):aN:=dT 61 ar U5 S fun b=> [.v U2 b]
def fG (N:Nat) (x0:ae) (x1:V0):Option (Int):=sA N x0 x1 (fun (r0:Int)=>some (r0))
def yk (k0:V0→ae→V3→Option R) (x0:ae) (x1:V0):Option R:=
k0 x1 x0 ([]:List UInt8)
theorem asi (x0 x1):exec cl N BH (gd x0 x1) K=(yk (fun y0 y1 y2=>exec cl N BG [(1,.v U5 y0),(2,.loc ar .no y1),(5,.v .str y2)] K) x0 x1):=by
 delta BH
 generalize BG=q
 revert q
 refine id ?_
 intro q
 kernel_rfl
def yg (k0:V0→ae→V3→Int→Option R) (x0:V0) (x1:ae) (x2:V3):Option R:=
k0 x0 x1 x2 (0:Int)
theorem asd (x0 x1 x2):exec cl N Qz [(1,.v U5 x0),(2,.loc ar .no x1),(5,.v .str x2)] K=(yg (fun y0 y1 y2 y3=>K .normal (lM y0 y1 y2 y3)) x0 x1 x2):=by
 kernel_rfl
theorem Wl (x0 x1 x2 x3):aj [1,2,5,6] (lM x0 x1 x2 x3)=(lM x0 x1 x2 x3):=by kernel_rfl
def yh (k0:V0→ae→V3→Int→Option R) (k1:V0→ae→V3→Int→Option R) (x0:V0) (x1:ae) (x2:V3) (x3:Int):Option R:=
ad (decide (x3 < (x0.length:Int))) (if 0≤x3∧x3 < (x0.length:Int) then
if 0≤(x0.getD x3.toNat (0:Int))∧(x0.getD x3.toNat (0:Int)) < (x1.2.1.length:Int) then
if x2.length+((x1.2.1.getD (x0.getD x3.toNat (0:Int)).toNat ([],([],((0:Int),((0:Int),()))))).1).length≤140737488355328 then
k0 x0 x1 (x2++(x1.2.1.getD (x0.getD x3.toNat (0:Int)).toNat ([],([],((0:Int),((0:Int),()))))).1) (IntKind.i64.wrap (x3+(1:Int)))
else none
else none
else none) (k1 x0 x1 x2 x3)
theorem ase (x0 x1 x2 x3):exec cl N Hy (lM x0 x1 x2 x3) K=(yh (fun y0 y1 y2 y3=>K .normal (lM y0 y1 y2 y3)) (fun y0 y1 y2 y3=>K (.exit 0) (lM y0 y1 y2 y3)) x0 x1 x2 x3):=by
 kernel_rfl
def th {R:Type} (k0:V0→ae→V3→Int→Option R):Nat→V0→ae→V3→Int→Option R
 | 0,_,_,_,_=>none
 | m+1,x0,x1,x2,x3=>(yh (th k0 m) k0 x0 x1 x2 x3)
theorem ag8:∀ (m) (x0 x1 x2 x3),iter [1,2,5,6] (fun env K=>exec cl N Hy env K) K m (lM x0 x1 x2 x3)=th (fun y0 y1 y2 y3=>K (.exit 0) (lM y0 y1 y2 y3)) m x0 x1 x2 x3:=by
 intro m
 induction m with
 | zero=>intros; rfl
 | succ m ih=>
   intro x0 x1 x2 x3
   simp only [bX,ase,bZ,bY,b5,Wl,ih]
   rfl
theorem aeD (x0 x1 x2 x3):aj [5] (lM x0 x1 x2 x3)=[(5,.v .str x2)]:=by kernel_rfl
def yi (N:Nat) (k0:V3→Option R) (x0:V0) (x1:ae) (x2:V3) (x3:Int):Option R:=
th (fun y0 y1 y2 y3=>k0 y2) N x0 x1 x2 x3
theorem asf (x0 x1 x2 x3):exec cl N Hz (lM x0 x1 x2 x3) K=(yi N (fun y0=>K (.exit 0) [(5,.v .str y0)]) x0 x1 x2 x3):=by
 simp only [Hz,aT,bW,Wl,ag8,aeD]
 rfl
theorem aeE (x0):aj [5] [(5,.v .str x0)]=[(5,.v .str x0)]:=by kernel_rfl
def yj (k0:V3→Option R) (x0:V3):Option R:=
k0 x0
theorem ash (x0):exec cl N QC [(5,.v .str x0)] K=(yj (fun y0=>K .ret [(4,.v .str y0)]) x0):=by
 kernel_rfl
def yl (N:Nat) (k0:V3→Option R) (x0:ae) (x1:V0):Option R:=
(yk (yg (yi N ((yj k0)))) x0 x1)
theorem asj (x0 x1):exec cl N BH (gd x0 x1) K=(yl N (fun y0=>K .ret [(4,.v .str y0)]) x0 x1):=by
 simp only [bQ,bT,bS,bU,asi,BG,QB,asd,QA,aT,ca,asf,b8,b9,b7,aeE,ash]
 rfl
theorem alp (y0):ag d58 .ret [(4,.v .str y0)]=some [.v .str y0]:=by kernel_rfl
def sx (N:Nat) (x0:ae) (x1:V0) (k:V3→Option R):Option R:=
(yl N k x0 x1)
theorem aan (x0 x1) (k:List E→Option R):exec cl N Hx (gd x0 x1) (fun e env=>(ag d58 e env).bind k)=sx N x0 x1 (fun r0=>k [.v .str r0]):=by
 simp only [Hx,asj,alp,aq]
 rfl
def Cw (S:ae→V0→Option V6):aN:=dT 58 ar U5 S fun b=> [.v .str b]
def fF (N:Nat) (x0:ae) (x1:V0):Option V6:=sx N x0 x1 (fun (r0:V3)=>some (r0))
def K1 (k0:av→Option R) (k1:av→Option R) (x0:ae) (x1:V0) (x2:Int):Option R:=
ad (decide (x2 < (0:Int))) (k0 []) (ad (decide (x2≥(x1.length:Int))) (k0 []) (if 0≤x2∧x2 < (x1.length:Int) then
if 0≤(x1.getD x2.toNat (0:Int))∧(x1.getD x2.toNat (0:Int)) < (x0.2.1.length:Int) then
k1 ((x0.2.1.getD (x1.getD x2.toNat (0:Int)).toNat ([],([],((0:Int),((0:Int),()))))).2.1)
else none
else none))
theorem asy (x0 x1 x2):exec cl N QR [(0,.v ar x0),(1,.v U5 x1),(2,.v U2 x2)] K=(K1 (fun y0=>K .ret (SO y0)) (fun y0=>K .ret [(6,.v ba y0)]) x0 x1 x2):=by
 kernel_rfl
theorem aly (y0):ag d63 .ret (SO y0)=some [.v ba y0]:=by kernel_rfl
theorem alz (y0):ag d63 .ret [(6,.v ba y0)]=some [.v ba y0]:=by kernel_rfl
def Dn (x0:ae) (x1:V0) (x2:Int) (k:av→Option R):Option R:=
(K1 k k x0 x1 x2)
theorem aar (x0 x1 x2) (k:List E→Option R):exec cl N HI [(0,.v ar x0),(1,.v U5 x1),(2,.v U2 x2)] (fun e env=>(ag d63 e env).bind k)=Dn x0 x1 x2 (fun r0=>k [.v ba r0]):=by
 simp only [HI,asy,aly,alz,aq]
 rfl
def rp (S:ae→V0→Int→Option gT):aN:=rA 63 ar U5 U2 S fun b=> [.v ba b]
def c5 (N:Nat) (x0:ae) (x1:V0) (x2:Int):Option gT:=Dn x0 x1 x2 (fun (r0:av)=>some (r0))
def K9 (cB:aQ→Option (Bool)) (k0:Bool→Option R) (x0:av):Option R:=
ad (decide ((x0.length:Int) > (0:Int))) (if 0≤(0:Int)∧(0:Int) < (x0.length:Int) then
(cB (x0.getD (0:Int).toNat ((0:Int),((0:Int),([],()))))).bind fun r1645=>
k0 r1645
else none) (k0 false)
theorem atv (cB) (h114:(nM cB).holds cl) (x0):exec cl N RD [(0,.v ba x0)] K=(K9 cB (fun y0=>K .ret [(2,.v .bool y0)]) x0):=by
 rw [←aJ h114]
 kernel_rfl
theorem alX (y0):ag d88 .ret [(2,.v .bool y0)]=some [.v .bool y0]:=by kernel_rfl
def Ds (cB:aQ→Option (Bool)) (x0:av) (k:Bool→Option R):Option R:=
(K9 cB k x0)
theorem aaC (cB) (h114:(nM cB).holds cl) (x0) (k:List E→Option R):exec cl N Ie [(0,.v ba x0)] (fun e env=>(ag d88 e env).bind k)=Ds cB x0 (fun r0=>k [.v .bool r0]):=by
 simp only [Ie,atv cB h114,alX,aq]
 rfl
def Jk (S:av→Option (Bool)):aN:=cC 88 ba S fun b=> [.v .bool b]
def gq (N:Nat) (x0:av):Option (Bool):=Ds (cB N) x0 (fun (r0:Bool)=>some (r0))
def La (cB:aQ→Option (Bool)) (k0:Bool→Option R) (x0:av):Option R:=
ad (decide ((x0.length:Int) > (0:Int))) (let v1655:Int:=(IntKind.i64.wrap ((x0.length:Int) - (1:Int)))
if 0≤v1655∧v1655 < (x0.length:Int) then
(cB (x0.getD v1655.toNat ((0:Int),((0:Int),([],()))))).bind fun r1656=>
k0 r1656
else none) (k0 false)
theorem atw (cB) (h114:(nM cB).holds cl) (x0):exec cl N RE [(0,.v ba x0)] K=(La cB (fun y0=>K .ret [(2,.v .bool y0)]) x0):=by
 rw [←aJ h114]
 kernel_rfl
theorem alY (y0):ag d89 .ret [(2,.v .bool y0)]=some [.v .bool y0]:=by kernel_rfl
def Dt (cB:aQ→Option (Bool)) (x0:av) (k:Bool→Option R):Option R:=
(La cB k x0)
theorem aaD (cB) (h114:(nM cB).holds cl) (x0) (k:List E→Option R):exec cl N Ig [(0,.v ba x0)] (fun e env=>(ag d89 e env).bind k)=Dt cB x0 (fun r0=>k [.v .bool r0]):=by
 simp only [Ig,atw cB h114,alY,aq]
 rfl
def Jl (S:av→Option (Bool)):aN:=cC 89 ba S fun b=> [.v .bool b]
def iA (N:Nat) (x0:av):Option (Bool):=Dt (cB N) x0 (fun (r0:Bool)=>some (r0))
def KZ (gq:av→Option (Bool)) (iA:av→Option (Bool)) (k0:Bool→Option R) (k1:Bool→Option R) (x0:ae) (x1:Int) (x2 x3:av):Option R:=
ad (decide (x1 < (0:Int))) (k0 false) (ad (decide (x1≥(x0.2.1.length:Int))) (k0 false) (if 0≤x1∧x1 < (x0.2.1.length:Int) then
ad ((x0.2.1.getD x1.toNat ([],([],((0:Int),((0:Int),()))))).2.2.2.1==(0:Int)) (k1 true) (ad ((x0.2.1.getD x1.toNat ([],([],((0:Int),((0:Int),()))))).2.2.2.1==(1:Int)) ((gq x3).bind fun r1665=>
k1 r1665) (ad ((x0.2.1.getD x1.toNat ([],([],((0:Int),((0:Int),()))))).2.2.2.1==(2:Int)) (ad ((x2.length:Int)==(0:Int)) ((gq x3).bind fun r1668=>
k1 r1668) (k1 false)) (ad ((x0.2.1.getD x1.toNat ([],([],((0:Int),((0:Int),()))))).2.2.2.1==(3:Int)) ((iA x2).bind fun r1670=>
ad r1670 ((gq x3).bind fun r1671=>
k1 r1671) (k1 false)) (ad ((x0.2.1.getD x1.toNat ([],([],((0:Int),((0:Int),()))))).2.2.2.1==(4:Int)) ((gq x3).bind fun r1673=>
k1 (!r1673)) (k1 false)))))
else none))
theorem asx (gq) (iA) (h88:(Jk gq).holds cl) (h89:(Jl iA).holds cl) (x0 x1 x2 x3):exec cl N QQ (uR x0 x1 x2 x3) K=(KZ gq iA (fun y0=>K .ret (uS y0)) (fun y0=>K .ret [(8,.v .bool y0)]) x0 x1 x2 x3):=by
 rw [←aJ h88]
 rw [←aJ h89]
 kernel_rfl
theorem alw (y0):ag d62 .ret (uS y0)=some [.v .bool y0]:=by kernel_rfl
theorem alx (y0):ag d62 .ret [(8,.v .bool y0)]=some [.v .bool y0]:=by kernel_rfl
def Dm (gq:av→Option (Bool)) (iA:av→Option (Bool)) (x0:ae) (x1:Int) (x2 x3:av) (k:Bool→Option R):Option R:=
(KZ gq iA k k x0 x1 x2 x3)
theorem aaq (gq) (iA) (h88:(Jk gq).holds cl) (h89:(Jl iA).holds cl) (x0 x1 x2 x3) (k:List E→Option R):exec cl N HH (uR x0 x1 x2 x3) (fun e env=>(ag d62 e env).bind k)=Dm gq iA x0 x1 x2 x3 (fun r0=>k [.v .bool r0]):=by
 simp only [HH,asx gq iA h88 h89,alw,alx,aq]
 rfl
def rn (S:ae→Int→av→av→Option (Bool)):aN:=Su 62 ar U2 ba ba S fun b=> [.v .bool b]
def dx (N:Nat) (x0:ae) (x1:Int) (x2:av) (x3:av):Option (Bool):=Dm (gq N) (iA N) x0 x1 x2 x3 (fun (r0:Bool)=>some (r0))
def xG (k0:V0→ae→Int→Option R) (x0:ae) (x1:V0):Option R:=
k0 x1 x0 (0:Int)
theorem aro (x0 x1):exec cl N Bt (gd x0 x1) K=(xG (fun y0 y1 y2=>exec cl N Bs (jw y0 y1 y2) K) x0 x1):=by
 delta Bt
 generalize Bs=q
 revert q
 refine id ?_
 intro q
 kernel_rfl
def xC (k0:V0→ae→Int→Int→Option R) (x0:V0) (x1:ae) (x2:Int):Option R:=
k0 x0 x1 x2 (0:Int)
theorem arj (x0 x1 x2):exec cl N PY (jw x0 x1 x2) K=(xC (fun y0 y1 y2 y3=>K .normal (lN y0 y1 y2 y3)) x0 x1 x2):=by
 kernel_rfl
theorem We (x0 x1 x2 x3):aj [1,2,5,6] (lN x0 x1 x2 x3)=(lN x0 x1 x2 x3):=by kernel_rfl
def xD (k0:V0→ae→Int→Int→Option R) (k1:V0→ae→Int→Int→Option R) (x0:V0) (x1:ae) (x2 x3:Int):Option R:=
ad (decide (x3 < (x0.length:Int))) (if 0≤x3∧x3 < (x0.length:Int) then
if 0≤(x0.getD x3.toNat (0:Int))∧(x0.getD x3.toNat (0:Int)) < (x1.2.1.length:Int) then
k0 x0 x1 (IntKind.i64.wrap (x2+(x1.2.1.getD (x0.getD x3.toNat (0:Int)).toNat ([],([],((0:Int),((0:Int),()))))).2.2.1)) (IntKind.i64.wrap (x3+(1:Int)))
else none
else none) (k1 x0 x1 x2 x3)
theorem ark (x0 x1 x2 x3):exec cl N G3 (lN x0 x1 x2 x3) K=(xD (fun y0 y1 y2 y3=>K .normal (lN y0 y1 y2 y3)) (fun y0 y1 y2 y3=>K (.exit 0) (lN y0 y1 y2 y3)) x0 x1 x2 x3):=by
 kernel_rfl
def ta {R:Type} (k0:V0→ae→Int→Int→Option R):Nat→V0→ae→Int→Int→Option R
 | 0,_,_,_,_=>none
 | m+1,x0,x1,x2,x3=>(xD (ta k0 m) k0 x0 x1 x2 x3)
theorem ag0:∀ (m) (x0 x1 x2 x3),iter [1,2,5,6] (fun env K=>exec cl N G3 env K) K m (lN x0 x1 x2 x3)=ta (fun y0 y1 y2 y3=>K (.exit 0) (lN y0 y1 y2 y3)) m x0 x1 x2 x3:=by
 intro m
 induction m with
 | zero=>intros; rfl
 | succ m ih=>
   intro x0 x1 x2 x3
   simp only [bX,ark,bZ,bY,b5,We,ih]
   rfl
theorem aef (x0 x1 x2 x3):aj [5] (lN x0 x1 x2 x3)=[(5,.v U2 x2)]:=by kernel_rfl
def xE (N:Nat) (k0:Int→Option R) (x0:V0) (x1:ae) (x2 x3:Int):Option R:=
ta (fun y0 y1 y2 y3=>k0 y2) N x0 x1 x2 x3
theorem arl (x0 x1 x2 x3):exec cl N G4 (lN x0 x1 x2 x3) K=(xE N (fun y0=>K (.exit 0) [(5,.v U2 y0)]) x0 x1 x2 x3):=by
 simp only [G4,aT,bW,We,ag0,aef]
 rfl
theorem aeg (x0):aj [5] [(5,.v U2 x0)]=[(5,.v U2 x0)]:=by kernel_rfl
def xF (k0:Int→Option R) (x0:Int):Option R:=
k0 x0
theorem arn (x0):exec cl N P1 [(5,.v U2 x0)] K=(xF (fun y0=>K .ret [(4,.v U2 y0)]) x0):=by
 kernel_rfl
def xH (N:Nat) (k0:Int→Option R) (x0:ae) (x1:V0):Option R:=
(xG (xC (xE N ((xF k0)))) x0 x1)
theorem arp (x0 x1):exec cl N Bt (gd x0 x1) K=(xH N (fun y0=>K .ret [(4,.v U2 y0)]) x0 x1):=by
 simp only [bQ,bT,bS,bU,aro,Bs,P0,arj,PZ,aT,ca,arl,b8,b9,b7,aeg,arn]
 rfl
theorem ak0 (y0):ag d39 .ret [(4,.v U2 y0)]=some [.v U2 y0]:=by kernel_rfl
def sf (N:Nat) (x0:ae) (x1:V0) (k:Int→Option R):Option R:=
(xH N k x0 x1)
theorem aab (x0 x1) (k:List E→Option R):exec cl N GZ (gd x0 x1) (fun e env=>(ag d39 e env).bind k)=sf N x0 x1 (fun r0=>k [.v U2 r0]):=by
 simp only [GZ,arp,ak0,aq]
 rfl
def Ct (S:ae→V0→Option (Int)):aN:=dT 39 ar U5 S fun b=> [.v U2 b]
def fp (N:Nat) (x0:ae) (x1:V0):Option (Int):=sf N x0 x1 (fun (r0:Int)=>some (r0))
def xc (fD:ae→V3→Option (Int)) (fF:ae→V0→Option V6) (fG:ae→V0→Option (Int)) (k0:Int→Int→Option R) (k1:Int→Int→Option R) (k2:V0→ae→Option R) (x0:ae) (x1:V3) (x2:V0):Option R:=
(fD x0 x1).bind fun r1683=>
ad (r1683 != (0:Int)) (k0 (0:Int) r1683) ((fG x0 x2).bind fun r1685=>
ad (r1685 != (0:Int)) (k0 (0:Int) r1685) (ad (decide ((x2.length:Int) > (x1.length:Int))) (k1 (0:Int) (1:Int)) ((fF x0 x2).bind fun r1688=>
ad (r1688 != x1) (k1 (0:Int) (1:Int)) (k2 x2 x0))))
theorem aqV (fD) (fF) (fG) (h48:(Cu fD).holds cl) (h58:(Cw fF).holds cl) (h61:(Cx fG).holds cl) (x0 x1 x2):exec cl N Bn (lJ x0 x1 x2) K=(xc fD fF fG (fun y0 y1=>K .ret (rE y0 y1)) (fun y0 y1=>K .ret (jx y0 y1)) (fun y0 y1=>exec cl N Bm (jy y0 y1) K) x0 x1 x2):=by
 rw [←aJ h48]
 rw [←aJ h58]
 rw [←aJ h61]
 delta Bn
 generalize Bm=q
 revert q
 refine id ?_
 intro q
 kernel_rfl
def w7 (k0:V0→ae→Int→Option R) (x0:V0) (x1:ae):Option R:=
k0 x0 x1 (0:Int)
theorem aqR (x0 x1):exec cl N PD (jy x0 x1) K=(w7 (fun y0 y1 y2=>K .normal (lO y0 y1 y2)) x0 x1):=by
 kernel_rfl
theorem Wa (x0 x1 x2):aj [2,3,10] (lO x0 x1 x2)=(lO x0 x1 x2):=by kernel_rfl
def w8 (dx:ae→Int→av→av→Option (Bool)) (c5:ae→V0→Int→Option gT) (k0:Int→Int→Option R) (k1:V0→ae→Int→Option R) (k2:V0→ae→Int→Option R) (x0:V0) (x1:ae) (x2:Int):Option R:=
ad (decide (x2 < (x0.length:Int))) (if 0≤x2∧x2 < (x0.length:Int) then
(c5 x1 x0 (IntKind.i64.wrap (x2 - (1:Int)))).bind fun r1691=>
(c5 x1 x0 (IntKind.i64.wrap (x2+(1:Int)))).bind fun r1693=>
(dx x1 (x0.getD x2.toNat (0:Int)) r1691 r1693).bind fun r1694=>
ad (!r1694) (k0 (0:Int) (19:Int)) (k1 x0 x1 (IntKind.i64.wrap (x2+(1:Int))))
else none) (k2 x0 x1 x2)
theorem aqS (dx) (c5) (h62:(rn dx).holds cl) (h63:(rp c5).holds cl) (x0 x1 x2):exec cl N GK (lO x0 x1 x2) K=(w8 dx c5 (fun y0 y1=>K .ret (JM y0 y1)) (fun y0 y1 y2=>K .normal (lO y0 y1 y2)) (fun y0 y1 y2=>K (.exit 0) (lO y0 y1 y2)) x0 x1 x2):=by
 rw [←aJ h62]
 rw [←aJ h63]
 kernel_rfl
def s7 {R:Type} (dx:ae→Int→av→av→Option (Bool)) (c5:ae→V0→Int→Option gT) (k0:Int→Int→Option R) (k1:V0→ae→Int→Option R):Nat→V0→ae→Int→Option R
 | 0,_,_,_=>none
 | m+1,x0,x1,x2=>(w8 dx c5 k0 (s7 dx c5 k0 k1 m) k1 x0 x1 x2)
theorem agW (dx) (c5) (h62:(rn dx).holds cl) (h63:(rp c5).holds cl):∀ (m) (x0 x1 x2),iter [2,3,10] (fun env K=>exec cl N GK env K) K m (lO x0 x1 x2)=s7 dx c5 (fun y0 y1=>K .ret (JM y0 y1)) (fun y0 y1 y2=>K (.exit 0) (lO y0 y1 y2)) m x0 x1 x2:=by
 intro m
 induction m with
 | zero=>intros; rfl
 | succ m ih=>
   intro x0 x1 x2
   simp only [bX,aqS dx c5 h62 h63,bZ,bY,b5,Wa,ih]
   rfl
theorem ad1 (x0 x1):aj [2,3,6,7] (JM x0 x1)=(jx x0 x1):=by kernel_rfl
theorem ad2 (x0 x1 x2):aj [2,3,6,7] (lO x0 x1 x2)=(jy x0 x1):=by kernel_rfl
def w9 (N:Nat) (dx:ae→Int→av→av→Option (Bool)) (c5:ae→V0→Int→Option gT) (k0:Int→Int→Option R) (k1:V0→ae→Option R) (x0:V0) (x1:ae) (x2:Int):Option R:=
s7 dx c5 k0 (fun y0 y1 y2=>k1 y0 y1) N x0 x1 x2
theorem aqT (dx) (c5) (h62:(rn dx).holds cl) (h63:(rp c5).holds cl) (x0 x1 x2):exec cl N GL (lO x0 x1 x2) K=(w9 N dx c5 (fun y0 y1=>K .ret (jx y0 y1)) (fun y0 y1=>K (.exit 0) (jy y0 y1)) x0 x1 x2):=by
 simp only [GL,aT,bW,Wa,agW dx c5 h62 h63,ad1,ad2]
 rfl
theorem ad3 (x0 x1):aj [2,3,6,7] (jx x0 x1)=(jx x0 x1):=by kernel_rfl
theorem ad4 (x0 x1):aj [2,3,6,7] (jy x0 x1)=(jy x0 x1):=by kernel_rfl
def xb (fp:ae→V0→Option (Int)) (k0:Int→Int→Option R) (x0:V0) (x1:ae):Option R:=
(fp x1 x0).bind fun r1696=>
k0 r1696 (0:Int)
theorem aqU (fp) (h39:(Ct fp).holds cl) (x0 x1):exec cl N PG (jy x0 x1) K=(xb fp (fun y0 y1=>K .ret (rF y0 y1)) x0 x1):=by
 rw [←aJ h39]
 kernel_rfl
def xd (N:Nat) (fp:ae→V0→Option (Int)) (fD:ae→V3→Option (Int)) (fF:ae→V0→Option V6) (fG:ae→V0→Option (Int)) (dx:ae→Int→av→av→Option (Bool)) (c5:ae→V0→Int→Option gT) (k0:Int→Int→Option R) (k1:Int→Int→Option R) (k2:Int→Int→Option R) (x0:ae) (x1:V3) (x2:V0):Option R:=
(xc fD fF fG k0 k1 (w7 (w9 N dx c5 k1 ((xb fp k2)))) x0 x1 x2)
theorem aqW (fp) (fD) (fF) (fG) (dx) (c5) (h39:(Ct fp).holds cl) (h48:(Cu fD).holds cl) (h58:(Cw fF).holds cl) (h61:(Cx fG).holds cl) (h62:(rn dx).holds cl) (h63:(rp c5).holds cl) (x0 x1 x2):exec cl N Bn (lJ x0 x1 x2) K=(xd N fp fD fF fG dx c5 (fun y0 y1=>K .ret (rE y0 y1)) (fun y0 y1=>K .ret (jx y0 y1)) (fun y0 y1=>K .ret (rF y0 y1)) x0 x1 x2):=by
 simp only [bQ,bT,bS,bU,aqV fD fF fG h48 h58 h61,Bm,PF,aqR,PE,aT,ca,aqT dx c5 h62 h63,b8,b9,b7,ad3,ad4,aqU fp h39]
 rfl
theorem akQ (y0 y1):ag d30 .ret (rE y0 y1)=some [.v U2 y0,.v U2 y1]:=by kernel_rfl
theorem akR (y0 y1):ag d30 .ret (jx y0 y1)=some [.v U2 y0,.v U2 y1]:=by kernel_rfl
theorem akS (y0 y1):ag d30 .ret (rF y0 y1)=some [.v U2 y0,.v U2 y1]:=by kernel_rfl
def sa (N:Nat) (fp:ae→V0→Option (Int)) (fD:ae→V3→Option (Int)) (fF:ae→V0→Option V6) (fG:ae→V0→Option (Int)) (dx:ae→Int→av→av→Option (Bool)) (c5:ae→V0→Int→Option gT) (x0:ae) (x1:V3) (x2:V0) (k:Int→Int→Option R):Option R:=
(xd N fp fD fF fG dx c5 k k k x0 x1 x2)
theorem Z5 (fp) (fD) (fF) (fG) (dx) (c5) (h39:(Ct fp).holds cl) (h48:(Cu fD).holds cl) (h58:(Cw fF).holds cl) (h61:(Cx fG).holds cl) (h62:(rn dx).holds cl) (h63:(rp c5).holds cl) (x0 x1 x2) (k:List E→Option R):exec cl N GJ (lJ x0 x1 x2) (fun e env=>(ag d30 e env).bind k)=sa N fp fD fF fG dx c5 x0 x1 x2 (fun r0 r1=>k [.v U2 r0,.v U2 r1]):=by
 simp only [GJ,aqW fp fD fF fG dx c5 h39 h48 h58 h61 h62 h63,akQ,akR,akS,aq]
 rfl
def I8 (S:ae→V3→V0→Option V1):aN:=rA 30 ar .str U5 S fun b=> [.v U2 b.1,.v U2 b.2]
def il (N:Nat) (x0:ae) (x1:V3) (x2:V0):Option V1:=sa N (fp N) (fD N) (fF N) (fG N) (dx N) (c5 N) x0 x1 x2 (fun (r0:Int) (r1:Int)=>some (r0,r1))
def xe (k0:V7→V0→Option R) (x0:V7) (x1:V0):Option R:=
k0 x0 x1
theorem aqX (x0 x1):exec cl N PH (uY x0 x1) K=(xe (fun y0 y1=>K .normal (uY y0 y1)) x0 x1):=by
 kernel_rfl
def xf (k0:V7→V0→Int→Option R) (x0:V7) (x1:V0):Option R:=
k0 x0 x1 (0:Int)
theorem aqY (x0 x1):exec cl N PI (uY x0 x1) K=(xf (fun y0 y1 y2=>K .normal (lP y0 y1 y2)) x0 x1):=by
 kernel_rfl
theorem Wb (x0 x1 x2):aj [0,1,5] (lP x0 x1 x2)=(lP x0 x1 x2):=by kernel_rfl
def xg (bC:V0→V0→Option (Bool)) (k0:Bool→Option R) (k1:V7→V0→Int→Option R) (k2:V7→V0→Int→Option R) (x0:V7) (x1:V0) (x2:Int):Option R:=
ad (decide (x2 < (x0.length:Int))) (if 0≤x2∧x2 < (x0.length:Int) then
(bC (x0.getD x2.toNat []) x1).bind fun r1709=>
ad r1709 (k0 true) (k1 x0 x1 (IntKind.i64.wrap (x2+(1:Int))))
else none) (k2 x0 x1 x2)
theorem aqZ (bC) (h53:(kM bC).holds cl) (x0 x1 x2):exec cl N GN (lP x0 x1 x2) K=(xg bC (fun y0=>K .ret (ki y0)) (fun y0 y1 y2=>K .normal (lP y0 y1 y2)) (fun y0 y1 y2=>K (.exit 0) (lP y0 y1 y2)) x0 x1 x2):=by
 rw [←aJ h53]
 kernel_rfl
def s8 {R:Type} (bC:V0→V0→Option (Bool)) (k0:Bool→Option R) (k1:V7→V0→Int→Option R):Nat→V7→V0→Int→Option R
 | 0,_,_,_=>none
 | m+1,x0,x1,x2=>(xg bC k0 (s8 bC k0 k1 m) k1 x0 x1 x2)
theorem agX (bC) (h53:(kM bC).holds cl):∀ (m) (x0 x1 x2),iter [0,1,5] (fun env K=>exec cl N GN env K) K m (lP x0 x1 x2)=s8 bC (fun y0=>K .ret (ki y0)) (fun y0 y1 y2=>K (.exit 0) (lP y0 y1 y2)) m x0 x1 x2:=by
 intro m
 induction m with
 | zero=>intros; rfl
 | succ m ih=>
   intro x0 x1 x2
   simp only [bX,aqZ bC h53,bZ,bY,b5,Wb,ih]
   rfl
theorem ad5 (x0):aj [4] (ki x0)=[(4,.v .bool x0)]:=by kernel_rfl
theorem ad6 (x0 x1 x2):aj [4] (lP x0 x1 x2)=[(4,.dead)]:=by kernel_rfl
def xi (N:Nat) (bC:V0→V0→Option (Bool)) (k0:Bool→Option R) (k1:Option R) (x0:V7) (x1:V0) (x2:Int):Option R:=
s8 bC k0 (fun y0 y1 y2=>k1) N x0 x1 x2
theorem aq0 (bC) (h53:(kM bC).holds cl) (x0 x1 x2):exec cl N GO (lP x0 x1 x2) K=(xi N bC (fun y0=>K .ret [(4,.v .bool y0)]) (K (.exit 0) [(4,.dead)]) x0 x1 x2):=by
 simp only [GO,aT,bW,Wb,agX bC h53,ad5,ad6]
 rfl
theorem ad7 (x0):aj [4] [(4,.v .bool x0)]=[(4,.v .bool x0)]:=by kernel_rfl
theorem ad8:aj [4] [(4,.dead)]=[(4,.dead)]:=by kernel_rfl
def xj (k0:Bool→Option R):Option R:=
k0 false
theorem aq1:exec cl N PL [(4,.dead)] K=(xj (fun y0=>K .ret [(4,.v .bool y0)])):=by
 kernel_rfl
def xk (N:Nat) (bC:V0→V0→Option (Bool)) (k0:Bool→Option R) (x0:V7) (x1:V0):Option R:=
(xe (xf (xi N bC k0 (xj k0))) x0 x1)
theorem aq2 (bC) (h53:(kM bC).holds cl) (x0 x1):exec cl N GP (uY x0 x1) K=(xk N bC (fun y0=>K .ret [(4,.v .bool y0)]) x0 x1):=by
 simp only [GP,bQ,bT,bS,bU,aqX,PM,PK,aqY,PJ,aT,ca,aq0 bC h53,b8,b9,b7,ad7,ad8,aq1]
 rfl
theorem akT (y0):ag d31 .ret [(4,.v .bool y0)]=some [.v .bool y0]:=by kernel_rfl
def sc (N:Nat) (bC:V0→V0→Option (Bool)) (x0:V7) (x1:V0) (k:Bool→Option R):Option R:=
(xk N bC k x0 x1)
theorem Z6 (bC) (h53:(kM bC).holds cl) (x0 x1) (k:List E→Option R):exec cl N GM (uY x0 x1) (fun e env=>(ag d31 e env).bind k)=sc N bC x0 x1 (fun r0=>k [.v .bool r0]):=by
 simp only [GM,aq2 bC h53,akT,aq]
 rfl
def I9 (S:V7→V0→Option (Bool)):aN:=dT 31 U7 U5 S fun b=> [.v .bool b]
def im (N:Nat) (x0:V7) (x1:V0):Option (Bool):=sc N (bC N) x0 x1 (fun (r0:Bool)=>some (r0))
end Go.Fw.L19
