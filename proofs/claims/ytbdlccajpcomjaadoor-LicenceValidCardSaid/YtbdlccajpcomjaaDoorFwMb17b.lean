/- Own work. -/
import Derived.Test.YtbdlccajpcomjaaDoorFwMb17a
import Derived.Test.YtbdlccajpcomjaaDoorFwB4
set_option linter.unusedVariables false
set_option linter.unusedSimpArgs false
open Option renaming bind_some → ah
namespace Go.Fw.L19
open Go Go.Fw
set_option maxRecDepth 100000
variable {N:Nat} {cl:aH} {R:Type} {K:KE R}
def xo (k0:ad→Option R) (x0:ad):Option R:=
k0 x0
theorem aCG (x0):exec cl N T8 [(0,.v af x0)] K=(xo (fun y0=>K .normal [(1,.loc af .no y0)]) x0):=by
 kernel_rfl
def xp (eY:V1→Option (Bool)) (k0:ad→Bool→Option R) (x0:ad):Option R:=
(eY x0.1).bind fun r437=>
k0 x0 (!r437)
theorem aCH (eY) (h40:(ED eY).holds cl) (x0):exec cl N T9 [(1,.loc af .no x0)] K=(xp eY (fun y0 y1=>K .normal (E7 y0 y1)) x0):=by
 rw [←put_eq h40]
 kernel_rfl
def xz (k0:Int→Option R) (x0:ad) (x1:Bool):Option R:=
k0 (2:Int)
theorem aCN (x0 x1):exec cl N Uf (E7 x0 x1) K=(xz (fun y0=>K .normal [(2,.v U2 y0)]) x0 x1):=by
 kernel_rfl
theorem aoQ (x0):ae [1,2] [(2,.v U2 x0)]=(ia x0):=by kernel_rfl
theorem aoR (x0 x1):ae [1,2] (E7 x0 x1)=(mr x0):=by kernel_rfl
theorem akT (x0 x1):aD (ag (E7 x0 x1) (.t 8))=some x1:=by kernel_rfl
def xC (k0:ad→Bool→Option R) (x0:ad):Option R:=
k0 x0 (decide ((x0.2.1.length:Int) > (30:Int)))
theorem aCQ (x0):exec cl N Ui (mr x0) K=(xC (fun y0 y1=>K .normal (E8 y0 y1)) x0):=by
 kernel_rfl
def xD (k0:Int→Option R) (x0:ad) (x1:Bool):Option R:=
k0 (3:Int)
theorem aCR (x0 x1):exec cl N Uj (E8 x0 x1) K=(xD (fun y0=>K .normal [(2,.v U2 y0)]) x0 x1):=by
 kernel_rfl
theorem aoV (x0 x1):ae [1,2] (E8 x0 x1)=(mr x0):=by kernel_rfl
theorem akU (x0 x1):aD (ag (E8 x0 x1) (.t 12))=some x1:=by kernel_rfl
def xE (k0:ad→Int→Option R) (x0:ad):Option R:=
k0 x0 (0:Int)
theorem aCS (x0):exec cl N Ul (mr x0) K=(xE (fun y0 y1=>K .normal (e3 y0 y1)) x0):=by
 kernel_rfl
theorem agi (x0 x1):ae [1,3] (e3 x0 x1)=(e3 x0 x1):=by kernel_rfl
def xF (k0:ad→Int→Bool→Option R) (x0:ad) (x1:Int):Option R:=
k0 x0 x1 (decide (x1 < (x0.2.1.length:Int)))
theorem aCT (x0 x1):exec cl N Um (e3 x0 x1) K=(xF (fun y0 y1 y2=>K .normal (Og y0 y1 y2)) x0 x1):=by
 kernel_rfl
theorem aoW (x0 x1 x2):ae [1,3] (Og x0 x1 x2)=(e3 x0 x1):=by kernel_rfl
theorem akV (x0 x1 x2):aD (ag (Og x0 x1 x2) (.t 17))=some x2:=by kernel_rfl
def xu (cT:ay→Option (Int)) (k0:ad→Int→Int→Bool→Option R) (x0:ad) (x1:Int):Option R:=
if 0≤x1∧x1 < (x0.2.1.length:Int) then
(cT (x0.2.1.getD x1.toNat ((0:Int),((0:Int),([],()))))).bind fun r441=>
k0 x0 x1 r441 (r441 != (0:Int))
else none
theorem aCJ (cT) (h41:(qW cT).holds cl) (x0 x1):exec cl N Ub (e3 x0 x1) K=(xu cT (fun y0 y1 y2 y3=>exec cl N Jx (E9 y0 y1 y2 y3) K) x0 x1):=by
 rw [←put_eq h41]
 kernel_rfl
def xr (k0:Int→Option R) (x0:ad) (x1 x2:Int) (x3:Bool):Option R:=
k0 x2
theorem aCI (x0 x1 x2 x3):exec cl N Ua (E9 x0 x1 x2 x3) K=(xr (fun y0=>K .normal [(2,.v U2 y0)]) x0 x1 x2 x3):=by
 kernel_rfl
theorem aoX (x0):ae [1,2,3] [(2,.v U2 x0)]=(kh x0):=by kernel_rfl
theorem aoY (x0 x1 x2 x3):ae [1,2,3] (E9 x0 x1 x2 x3)=(Fa x0 x1):=by kernel_rfl
theorem akW (x0 x1 x2 x3):aD (ag (E9 x0 x1 x2 x3) (.t 27))=some x3:=by kernel_rfl
theorem aoZ (x0):ae [1,2,3] (kh x0)=(kh x0):=by kernel_rfl
theorem ao0 (x0 x1):ae [1,2,3] (Fa x0 x1)=(Fa x0 x1):=by kernel_rfl
def xw (k0:ad→Int→Option R) (x0:ad) (x1:Int):Option R:=
k0 x0 (IntKind.i64.wrap (x1+(1:Int)))
theorem aCK (x0 x1):exec cl N Ud (Fa x0 x1) K=(xw (fun y0 y1=>K .normal (e3 y0 y1)) x0 x1):=by
 kernel_rfl
def xx (cT:ay→Option (Int)) (k0:Int→Option R) (k1:ad→Int→Option R) (k2:ad→Int→Option R) (x0:ad) (x1:Int):Option R:=
(xF (fun y0 y1 y2=>al y2 ((xu cT (fun y0 y1 y2 y3=>al y3 (xr k0 y0 y1 y2 y3) (((xw k1)) y0 y1))) y0 y1) (k2 y0 y1)) x0 x1)
theorem aCL (cT) (h41:(qW cT).holds cl) (x0 x1):exec cl N DG (e3 x0 x1) K=(xx cT (fun y0=>K .ret (kh y0)) (fun y0 y1=>K .normal (e3 y0 y1)) (fun y0 y1=>K (.exit 0) (e3 y0 y1)) x0 x1):=by
 simp only [DG,aM,aP,aO,aQ,aCT,Un,aF,bf,akV,ah,ak,aj,bj,cG,aoW,Uc,bt,aCJ cT h41,Jx,akW,aCI,bg,aoX,aoY,bp,bq,bo,aoZ,ao0,aCK]
 rfl
def uB {R:Type} (cT:ay→Option (Int)) (k0:Int→Option R) (k1:ad→Int→Option R):Nat→ad→Int→Option R
 | 0,_,_=>none
 | m+1,x0,x1=>(xx cT k0 (uB cT k0 k1 m) k1 x0 x1)
theorem av2 (cT) (h41:(qW cT).holds cl):∀ (m) (x0 x1),iter [1,3] (fun env K=>exec cl N DG env K) K m (e3 x0 x1)=uB cT (fun y0=>K .ret (kh y0)) (fun y0 y1=>K (.exit 0) (e3 y0 y1)) m x0 x1:=by
 intro m
 induction m with
 | zero=>intros; rfl
 | succ m ih=>
   intro x0 x1
   simp only [cA,aCL cT h41,cC,cB,cD,agi,ih]
   rfl
theorem ao1 (x0):ae [2] (kh x0)=[(2,.v U2 x0)]:=by kernel_rfl
theorem aoS (x0 x1):ae [2] (e3 x0 x1)=[(2,.dead)]:=by kernel_rfl
def xy (N:Nat) (cT:ay→Option (Int)) (k0:Int→Option R) (k1:Option R) (x0:ad) (x1:Int):Option R:=
uB cT k0 (fun y0 y1=>k1) N x0 x1
theorem aCM (cT) (h41:(qW cT).holds cl) (x0 x1):exec cl N Jy (e3 x0 x1) K=(xy N cT (fun y0=>K .ret [(2,.v U2 y0)]) (K (.exit 0) [(2,.dead)]) x0 x1):=by
 simp only [Jy,aF,cz,agi,av2 cT h41,aoS,ao1]
 rfl
theorem aoT (x0):ae [2] [(2,.v U2 x0)]=[(2,.v U2 x0)]:=by kernel_rfl
theorem aoU:ae [2] [(2,.dead)]=[(2,.dead)]:=by kernel_rfl
def xA (k0:Int→Option R):Option R:=
k0 (0:Int)
theorem aCO:exec cl N Ug [(2,.dead)] K=(xA (fun y0=>K .normal [(2,.v U2 y0)])):=by
 kernel_rfl
def xB (N:Nat) (eY:V1→Option (Bool)) (cT:ay→Option (Int)) (k0:Int→Option R) (k1:Int→Option R) (x0:ad):Option R:=
(xo (xp eY (fun y0 y1=>al y1 (xz k0 y0 y1) ((xC (fun y0 y1=>al y1 (xD k0 y0 y1) ((xE (xy N cT k1 (xA k1))) y0))) y0))) x0)
theorem aCP (eY) (cT) (h40:(ED eY).holds cl) (h41:(qW cT).holds cl) (x0):exec cl N Jz [(0,.v af x0)] K=(xB N eY cT (fun y0=>K .ret (ia y0)) (fun y0=>K .ret [(2,.v U2 y0)]) x0):=by
 simp only [Jz,aM,aP,aO,aQ,aCG,aCH eY h40,Uh,aF,bf,akT,ah,ak,aj,aCN,bg,bj,aoQ,aoR,aCQ,Uk,akU,aCR,aoV,aCS,Ue,bt,aCM cT h41,bp,bq,bo,aoT,aoU,aCO]
 rfl
theorem ayG (y0):au d14 .ret (ia y0)=some [.v U2 y0]:=by kernel_rfl
theorem ayH (y0):au d14 .ret [(2,.v U2 y0)]=some [.v U2 y0]:=by kernel_rfl
def g14 (N:Nat) (eY:V1→Option (Bool)) (cT:ay→Option (Int)) (x0:ad) (k:Int→Option R):Option R:=
(xB N eY cT k k x0)
theorem ajF (eY) (cT) (h40:(ED eY).holds cl) (h41:(qW cT).holds cl) (x0) (k:List E→Option R):exec cl N Jw [(0,.v af x0)] (fun e env=>(au d14 e env).bind k)=g14 N eY cT x0 (fun r0=>k [.v U2 r0]):=by
 simp only [Jw,aCP eY cT h40 h41,ayG,ayH,ah]
 rfl
def mi (S:ad→Option (Int)):a7:=cw 14 af S fun b=> [.v U2 b]
def bR (N:Nat) (x0:ad):Option (Int):=g14 N (eY N) (cT N) x0 (fun (r0:Int)=>some (r0))
def aeA (k0:Int→Option R) (x0:Int):Option R:=
k0 x0
theorem aEx (x0):exec cl N Wb [(0,.v U2 x0)] K=(aeA (fun y0=>K .normal [(0,.v U2 y0)]) x0):=by
 kernel_rfl
def aeB (k0:Int→Bool→Option R) (x0:Int):Option R:=
al (decide (x0 < (1:Int))) (k0 x0 true) (k0 x0 (decide (x0 > (12:Int))))
theorem aEy (x0):exec cl N Wc [(0,.v U2 x0)] K=(aeB (fun y0 y1=>K .normal (Fb y0 y1)) x0):=by
 kernel_rfl
def aeC (k0:V1→Option R) (x0:Int) (x1:Bool):Option R:=
k0 ([]:List UInt8)
theorem aEz (x0 x1):exec cl N Wd (Fb x0 x1) K=(aeC (fun y0=>K .normal [(2,.v .str y0)]) x0 x1):=by
 kernel_rfl
theorem ap3 (x0):ae [0,2] [(2,.v .str x0)]=(tu x0):=by kernel_rfl
theorem ap4 (x0 x1):ae [0,2] (Fb x0 x1)=(Fc x0):=by kernel_rfl
theorem alp (x0 x1):aD (ag (Fb x0 x1) (.t 8))=some x1:=by kernel_rfl
def aeD (k0:V1→Option R) (x0:Int):Option R:=
let v457:Int:=(IntKind.i64.wrap (x0 - (1:Int)))
if 0≤v457∧v457 < ([([109,117,116,101]:List UInt8),([110,101,120,116]:List UInt8),([98,114,101,118,105,115]:List UInt8),([105,110,100,105,102,102,101,114,101,110,116]:List UInt8),([108,101,110,103,116,104,101,110]:List UInt8),([115,104,111,114,116,101,110]:List UInt8),([115,121,110,105,122,101,115,105,115]:List UInt8),([101,108,105,115,105,111,110]:List UInt8),([101,99,116,104,108,105,112,115,105,115]:List UInt8),([112,114,111,100,101,108,105,115,105,111,110]:List UInt8),([104,105,97,116,117,115]:List UInt8),([99,111,114,114,101,112,116,105,111,110]:List UInt8)].length:Int) then
if v457.toNat < [([109,117,116,101]:List UInt8),([110,101,120,116]:List UInt8),([98,114,101,118,105,115]:List UInt8),([105,110,100,105,102,102,101,114,101,110,116]:List UInt8),([108,101,110,103,116,104,101,110]:List UInt8),([115,104,111,114,116,101,110]:List UInt8),([115,121,110,105,122,101,115,105,115]:List UInt8),([101,108,105,115,105,111,110]:List UInt8),([101,99,116,104,108,105,112,115,105,115]:List UInt8),([112,114,111,100,101,108,105,115,105,111,110]:List UInt8),([104,105,97,116,117,115]:List UInt8),([99,111,114,114,101,112,116,105,111,110]:List UInt8)].length then
k0 ([([109,117,116,101]:List UInt8),([110,101,120,116]:List UInt8),([98,114,101,118,105,115]:List UInt8),([105,110,100,105,102,102,101,114,101,110,116]:List UInt8),([108,101,110,103,116,104,101,110]:List UInt8),([115,104,111,114,116,101,110]:List UInt8),([115,121,110,105,122,101,115,105,115]:List UInt8),([101,108,105,115,105,111,110]:List UInt8),([101,99,116,104,108,105,112,115,105,115]:List UInt8),([112,114,111,100,101,108,105,115,105,111,110]:List UInt8),([104,105,97,116,117,115]:List UInt8),([99,111,114,114,101,112,116,105,111,110]:List UInt8)].getD v457.toNat [])
else none
else none
theorem aEA (x0):exec cl N Wf (Fc x0) K=(aeD (fun y0=>K .normal [(2,.v .str y0)]) x0):=by
 kernel_rfl
def aeE (k0:V1→Option R) (k1:V1→Option R) (x0:Int):Option R:=
(aeA (aeB (fun y0 y1=>al y1 (aeC k0 y0 y1) ((aeD k1) y0))) x0)
theorem aEB (x0):exec cl N Kn [(0,.v U2 x0)] K=(aeE (fun y0=>K .ret (tu y0)) (fun y0=>K .ret [(2,.v .str y0)]) x0):=by
 simp only [Kn,aM,aP,aO,aQ,aEx,aEy,We,aF,bf,alp,ah,ak,aj,aEz,bg,bj,ap3,ap4,aEA]
 rfl
theorem ay0 (y0):au d28 .ret (tu y0)=some [.v .str y0]:=by kernel_rfl
theorem ay1 (y0):au d28 .ret [(2,.v .str y0)]=some [.v .str y0]:=by kernel_rfl
def PD (x0:Int) (k:V1→Option R):Option R:=
(aeE k k x0)
theorem ajQ (x0) (k:List E→Option R):exec cl N Km [(0,.v U2 x0)] (fun e env=>(au d28 e env).bind k)=PD x0 (fun r0=>k [.v .str r0]):=by
 simp only [Km,aEB,ay0,ay1,ah]
 rfl
def gV (S:Int→Option V5):a7:=cw 28 U2 S fun b=> [.v .str b]
def aV (N:Nat) (x0:Int):Option V5:=PD x0 (fun (r0:V1)=>some (r0))
def aeH (k0:Int→Option R) (x0:Int):Option R:=
k0 x0
theorem aEZ (x0):exec cl N Wz [(0,.v U2 x0)] K=(aeH (fun y0=>K .normal [(0,.v U2 y0)]) x0):=by
 kernel_rfl
def aeI (k0:Int→Bool→Option R) (x0:Int):Option R:=
k0 x0 (decide (x0 < (10:Int)))
theorem aE0 (x0):exec cl N WA [(0,.v U2 x0)] K=(aeI (fun y0 y1=>K .normal (Fe y0 y1)) x0):=by
 kernel_rfl
def aeJ (k0:V1→Option R) (x0:Int) (x1:Bool):Option R:=
let v471:Int:=(IntKind.i64.wrap (x0+(1:Int)))
if 0≤x0∧x0≤v471∧v471≤(([48,49,50,51,52,53,54,55,56,57]:List UInt8).length:Int) then
k0 ((([48,49,50,51,52,53,54,55,56,57]:List UInt8).drop x0.toNat).take (v471.toNat - x0.toNat))
else none
theorem aE1 (x0 x1):exec cl N WB (Fe x0 x1) K=(aeJ (fun y0=>K .normal [(2,.v .str y0)]) x0 x1):=by
 kernel_rfl
theorem aqj (x0):ae [0,2] [(2,.v .str x0)]=(tu x0):=by kernel_rfl
theorem aqk (x0 x1):ae [0,2] (Fe x0 x1)=(Fc x0):=by kernel_rfl
theorem alv (x0 x1):aD (ag (Fe x0 x1) (.t 4))=some x1:=by kernel_rfl
def aeK (bS:Int→Option V5) (k0:V1→Option R) (x0:Int):Option R:=
(bS (IntKind.i64.wrap (Int.tdiv x0 (10:Int)))).bind fun r474=>
(bS (Int.tmod x0 (10:Int))).bind fun r476=>
if r474.length+r476.length≤140737488355328 then
k0 (r474++r476)
else none
theorem aE2 (bS) (h37:(lO bS).holds cl) (x0):exec cl N WD (Fc x0) K=(aeK bS (fun y0=>K .normal [(2,.v .str y0)]) x0):=by
 rw [←put_eq h37]
 kernel_rfl
def aeL (bS:Int→Option V5) (k0:V1→Option R) (k1:V1→Option R) (x0:Int):Option R:=
(aeH (aeI (fun y0 y1=>al y1 (aeJ k0 y0 y1) ((aeK bS k1) y0))) x0)
theorem aE3 (bS) (h37:(lO bS).holds cl) (x0):exec cl N KA [(0,.v U2 x0)] K=(aeL bS (fun y0=>K .ret (tu y0)) (fun y0=>K .ret [(2,.v .str y0)]) x0):=by
 simp only [KA,aM,aP,aO,aQ,aEZ,aE0,WC,aF,bf,alv,ah,ak,aj,aE1,bg,bj,aqj,aqk,aE2 bS h37]
 rfl
theorem ay6 (y0):au d37 .ret (tu y0)=some [.v .str y0]:=by kernel_rfl
theorem ay7 (y0):au d37 .ret [(2,.v .str y0)]=some [.v .str y0]:=by kernel_rfl
def PF (bS:Int→Option V5) (x0:Int) (k:V1→Option R):Option R:=
(aeL bS k k x0)
theorem ajV (bS) (h37:(lO bS).holds cl) (x0) (k:List E→Option R):exec cl N Kz [(0,.v U2 x0)] (fun e env=>(au d37 e env).bind k)=PF bS x0 (fun r0=>k [.v .str r0]):=by
 simp only [Kz,aE3 bS h37,ay6,ay7,ah]
 rfl
def vN (N:Nat):Nat→Int→Option V5
 | 0,_=>none
 | m+1,x0=>PF (vN N m) x0 (fun (r0:V1)=>some (r0))
def bS (N:Nat) (x0:Int):Option V5:=vN N 250 x0
def my (k0:ad→Option R) (x0:ad):Option R:=
k0 x0
theorem aB5 (x0):exec cl N To [(0,.v af x0)] K=(my (fun y0=>K .normal [(1,.loc af .no y0)]) x0):=by
 kernel_rfl
def mR (bR:ad→Option (Int)) (k0:ad→Int→Bool→Option R) (x0:ad):Option R:=
(bR x0).bind fun r492=>
k0 x0 r492 (r492 != (0:Int))
theorem aCo (bR) (h14:(mi bR).holds cl) (x0):exec cl N TG [(1,.loc af .no x0)] K=(mR bR (fun y0 y1 y2=>exec cl N Jr (Ff y0 y1 y2) K) x0):=by
 rw [←put_eq h14]
 kernel_rfl
def mM (k0:V1→Int→Option R) (x0:ad) (x1:Int) (x2:Bool):Option R:=
k0 ([]:List UInt8) x1
theorem aCj (x0 x1 x2):exec cl N TD (Ff x0 x1 x2) K=(mM (fun y0 y1=>K .normal (fb y0 y1)) x0 x1 x2):=by
 kernel_rfl
theorem aow (x0 x1):ae [1,2,3] (fb x0 x1)=(tO x0 x1):=by kernel_rfl
theorem aox (x0 x1 x2):ae [1,2,3] (Ff x0 x1 x2)=(G6 x0):=by kernel_rfl
theorem akL (x0 x1 x2):aD (ag (Ff x0 x1 x2) (.t 12))=some x2:=by kernel_rfl
def mS (k0:ad→V1→Option R) (x0:ad):Option R:=
if ([108,105,99,101,110,99,101,32]:List UInt8).length+x0.1.length≤140737488355328 then
let v494:V1:=(([108,105,99,101,110,99,101,32]:List UInt8)++x0.1)
if v494.length+([32,123,10]:List UInt8).length≤140737488355328 then
k0 x0 (v494++([32,123,10]:List UInt8))
else none
else none
theorem aCp (x0):exec cl N TH (G6 x0) K=(mS (fun y0 y1=>K .normal [(1,.loc af .no y0),(5,.v .str y1)]) x0):=by
 kernel_rfl
def mT (k0:ad→V1→Int→Option R) (x0:ad) (x1:V1):Option R:=
k0 x0 x1 (0:Int)
theorem aCq (x0 x1):exec cl N TI [(1,.loc af .no x0),(5,.v .str x1)] K=(mT (fun y0 y1 y2=>K .normal (gw y0 y1 y2)) x0 x1):=by
 kernel_rfl
theorem Rq (x0 x1 x2):ae [1,5,6] (gw x0 x1 x2)=(gw x0 x1 x2):=by kernel_rfl
def mU (k0:ad→V1→Int→Bool→Option R) (x0:ad) (x1:V1) (x2:Int):Option R:=
k0 x0 x1 x2 (decide (x2 < (x0.2.1.length:Int)))
theorem aCr (x0 x1 x2):exec cl N TJ (gw x0 x1 x2) K=(mU (fun y0 y1 y2 y3=>K .normal (Oi y0 y1 y2 y3)) x0 x1 x2):=by
 kernel_rfl
theorem aoy (x0 x1 x2 x3):ae [1,5,6] (Oi x0 x1 x2 x3)=(gw x0 x1 x2):=by kernel_rfl
theorem akM (x0 x1 x2 x3):aD (ag (Oi x0 x1 x2 x3) (.t 22))=some x3:=by kernel_rfl
def mK (aV:Int→Option V5) (bS:Int→Option V5) (k0:ad→V1→Int→ay→Option R) (x0:ad) (x1:V1) (x2:Int):Option R:=
if 0≤x2∧x2 < (x0.2.1.length:Int) then
if x1.length+([32,32]:List UInt8).length≤140737488355328 then
let v497:V1:=(x1++([32,32]:List UInt8))
(aV ((x0.2.1.getD x2.toNat ((0:Int),((0:Int),([],())))).1)).bind fun r498=>
if v497.length+r498.length≤140737488355328 then
if (v497++r498).length+([32]:List UInt8).length≤140737488355328 then
let v500:V1:=((v497++r498)++([32]:List UInt8))
(bS ((x0.2.1.getD x2.toNat ((0:Int),((0:Int),([],())))).2.1)).bind fun r501=>
if v500.length+r501.length≤140737488355328 then
k0 x0 (v500++r501) x2 (x0.2.1.getD x2.toNat ((0:Int),((0:Int),([],()))))
else none
else none
else none
else none
else none
theorem aCh (aV) (bS) (h28:(gV aV).holds cl) (h37:(lO bS).holds cl) (x0 x1 x2):exec cl N TA (gw x0 x1 x2) K=(mK aV bS (fun y0 y1 y2 y3=>exec cl N (.seq (.seq Jk Jn) Jo) [(1,.loc af .no y0),(5,.v .str y1),(6,.v U2 y2),(7,.loc aw .no y3)] K) x0 x1 x2):=by
 rw [←put_eq h28]
 rw [←put_eq h37]
 kernel_rfl
def mz (k0:ad→V1→Int→ay→Int→Option R) (x0:ad) (x1:V1) (x2:Int) (x3:ay):Option R:=
k0 x0 x1 x2 x3 (0:Int)
theorem aB6 (x0 x1 x2 x3):exec cl N Jk [(1,.loc af .no x0),(5,.v .str x1),(6,.v U2 x2),(7,.loc aw .no x3)] K=(mz (fun y0 y1 y2 y3 y4=>K .normal (gh y0 y1 y2 y3 y4)) x0 x1 x2 x3):=by
 kernel_rfl
theorem HG (x0 x1 x2 x3 x4):ae [1,5,6,7,8] (gh x0 x1 x2 x3 x4)=(gh x0 x1 x2 x3 x4):=by kernel_rfl
def mA (k0:ad→V1→Int→ay→Int→Bool→Option R) (x0:ad) (x1:V1) (x2:Int) (x3:ay) (x4:Int):Option R:=
k0 x0 x1 x2 x3 x4 (decide (x4 < (x3.2.2.1.length:Int)))
theorem aB7 (x0 x1 x2 x3 x4):exec cl N Tp (gh x0 x1 x2 x3 x4) K=(mA (fun y0 y1 y2 y3 y4 y5=>K .normal (Oj y0 y1 y2 y3 y4 y5)) x0 x1 x2 x3 x4):=by
 kernel_rfl
theorem aoz (x0 x1 x2 x3 x4 x5):ae [1,5,6,7,8] (Oj x0 x1 x2 x3 x4 x5)=(gh x0 x1 x2 x3 x4):=by kernel_rfl
theorem akN (x0 x1 x2 x3 x4 x5):aD (ag (Oj x0 x1 x2 x3 x4 x5) (.t 45))=some x5:=by kernel_rfl
def mB (k0:ad→V1→Int→ay→Int→Bool→Option R) (x0:ad) (x1:V1) (x2:Int) (x3:ay) (x4:Int):Option R:=
k0 x0 x1 x2 x3 x4 (x4==(0:Int))
theorem aB8 (x0 x1 x2 x3 x4):exec cl N Ts (gh x0 x1 x2 x3 x4) K=(mB (fun y0 y1 y2 y3 y4 y5=>K .normal (Fg y0 y1 y2 y3 y4 y5)) x0 x1 x2 x3 x4):=by
 kernel_rfl
def mC (k0:ad→V1→Int→ay→Int→Option R) (x0:ad) (x1:V1) (x2:Int) (x3:ay) (x4:Int) (x5:Bool):Option R:=
if x1.length+([32,105,110,32]:List UInt8).length≤140737488355328 then
k0 x0 (x1++([32,105,110,32]:List UInt8)) x2 x3 x4
else none
theorem aB9 (x0 x1 x2 x3 x4 x5):exec cl N Tt (Fg x0 x1 x2 x3 x4 x5) K=(mC (fun y0 y1 y2 y3 y4=>K .normal (gh y0 y1 y2 y3 y4)) x0 x1 x2 x3 x4 x5):=by
 kernel_rfl
def mD (k0:ad→V1→Int→ay→Int→Option R) (x0:ad) (x1:V1) (x2:Int) (x3:ay) (x4:Int) (x5:Bool):Option R:=
if x1.length+([44,32]:List UInt8).length≤140737488355328 then
k0 x0 (x1++([44,32]:List UInt8)) x2 x3 x4
else none
theorem aCa (x0 x1 x2 x3 x4 x5):exec cl N Tu (Fg x0 x1 x2 x3 x4 x5) K=(mD (fun y0 y1 y2 y3 y4=>K .normal (gh y0 y1 y2 y3 y4)) x0 x1 x2 x3 x4 x5):=by
 kernel_rfl
theorem akO (x0 x1 x2 x3 x4 x5):aD (ag (Fg x0 x1 x2 x3 x4 x5) (.t 49))=some x5:=by kernel_rfl
def mE (k0:ad→V1→Int→ay→Int→Option R) (x0:ad) (x1:V1) (x2:Int) (x3:ay) (x4:Int):Option R:=
(mB (fun y0 y1 y2 y3 y4 y5=>al y5 (mC k0 y0 y1 y2 y3 y4 y5) (mD k0 y0 y1 y2 y3 y4 y5)) x0 x1 x2 x3 x4)
theorem aCb (x0 x1 x2 x3 x4):exec cl N Jl (gh x0 x1 x2 x3 x4) K=(mE (fun y0 y1 y2 y3 y4=>K .normal (gh y0 y1 y2 y3 y4)) x0 x1 x2 x3 x4):=by
 simp only [Jl,aM,aP,aO,aQ,aB8,Tv,aF,bf,akO,ah,ak,aj,aB9,aCa,HG]
 rfl
def mF (k0:ad→V1→Int→ay→Int→Option R) (x0:ad) (x1:V1) (x2:Int) (x3:ay) (x4:Int):Option R:=
if x1.length+([34]:List UInt8).length≤140737488355328 then
let v507:V1:=(x1++([34]:List UInt8))
if 0≤x4∧x4 < (x3.2.2.1.length:Int) then
if v507.length+(x3.2.2.1.getD x4.toNat []).length≤140737488355328 then
let v508:V1:=(v507++(x3.2.2.1.getD x4.toNat []))
if v508.length+([34]:List UInt8).length≤140737488355328 then
k0 x0 (v508++([34]:List UInt8)) x2 x3 x4
else none
else none
else none
else none
theorem aCc (x0 x1 x2 x3 x4):exec cl N Tw (gh x0 x1 x2 x3 x4) K=(mF (fun y0 y1 y2 y3 y4=>K .normal (gh y0 y1 y2 y3 y4)) x0 x1 x2 x3 x4):=by
 kernel_rfl
def mG (k0:ad→V1→Int→ay→Int→Option R) (x0:ad) (x1:V1) (x2:Int) (x3:ay) (x4:Int):Option R:=
k0 x0 x1 x2 x3 (IntKind.i64.wrap (x4+(1:Int)))
theorem aCd (x0 x1 x2 x3 x4):exec cl N Tz (gh x0 x1 x2 x3 x4) K=(mG (fun y0 y1 y2 y3 y4=>K .normal (gh y0 y1 y2 y3 y4)) x0 x1 x2 x3 x4):=by
 kernel_rfl
def mH (k0:ad→V1→Int→ay→Int→Option R) (k1:ad→V1→Int→ay→Int→Option R) (x0:ad) (x1:V1) (x2:Int) (x3:ay) (x4:Int):Option R:=
(mA (fun y0 y1 y2 y3 y4 y5=>al y5 ((mE (mF ((mG k0)))) y0 y1 y2 y3 y4) (k1 y0 y1 y2 y3 y4)) x0 x1 x2 x3 x4)
theorem aCe (x0 x1 x2 x3 x4):exec cl N DD (gh x0 x1 x2 x3 x4) K=(mH (fun y0 y1 y2 y3 y4=>K .normal (gh y0 y1 y2 y3 y4)) (fun y0 y1 y2 y3 y4=>K (.exit 2) (gh y0 y1 y2 y3 y4)) x0 x1 x2 x3 x4):=by
 simp only [DD,aM,aP,aO,aQ,aB7,Tr,aF,bf,akN,ah,ak,aj,bj,cG,aoz,Tx,bt,aCb,aCc,bp,bq,bo,HG,aCd]
 rfl
def oi {R:Type} (k0:ad→V1→Int→ay→Int→Option R):Nat→ad→V1→Int→ay→Int→Option R
 | 0,_,_,_,_,_=>none
 | m+1,x0,x1,x2,x3,x4=>(mH (oi k0 m) k0 x0 x1 x2 x3 x4)
theorem avZ:∀ (m) (x0 x1 x2 x3 x4),iter [1,5,6,7,8] (fun env K=>exec cl N DD env K) K m (gh x0 x1 x2 x3 x4)=oi (fun y0 y1 y2 y3 y4=>K (.exit 2) (gh y0 y1 y2 y3 y4)) m x0 x1 x2 x3 x4:=by
 intro m
 induction m with
 | zero=>intros; rfl
 | succ m ih=>
   intro x0 x1 x2 x3 x4
   simp only [cA,aCe,cC,cB,cD,HG,ih]
   rfl
theorem aoA (x0 x1 x2 x3 x4):ae [1,5,6] (gh x0 x1 x2 x3 x4)=(gw x0 x1 x2):=by kernel_rfl
def mI (N:Nat) (k0:ad→V1→Int→Option R) (x0:ad) (x1:V1) (x2:Int) (x3:ay) (x4:Int):Option R:=
oi (fun y0 y1 y2 y3 y4=>k0 y0 y1 y2) N x0 x1 x2 x3 x4
theorem aCf (x0 x1 x2 x3 x4):exec cl N Jm (gh x0 x1 x2 x3 x4) K=(mI N (fun y0 y1 y2=>K (.exit 2) (gw y0 y1 y2)) x0 x1 x2 x3 x4):=by
 simp only [Jm,aF,cz,HG,avZ,aoA]
 rfl
def mJ (k0:ad→V1→Int→Option R) (x0:ad) (x1:V1) (x2:Int):Option R:=
if x1.length+([59,10]:List UInt8).length≤140737488355328 then
k0 x0 (x1++([59,10]:List UInt8)) x2
else none
theorem aCg (x0 x1 x2):exec cl N Jo (gw x0 x1 x2) K=(mJ (fun y0 y1 y2=>K .normal (gw y0 y1 y2)) x0 x1 x2):=by
 kernel_rfl
def mL (k0:ad→V1→Int→Option R) (x0:ad) (x1:V1) (x2:Int):Option R:=
k0 x0 x1 (IntKind.i64.wrap (x2+(1:Int)))
theorem aCi (x0 x1 x2):exec cl N TC (gw x0 x1 x2) K=(mL (fun y0 y1 y2=>K .normal (gw y0 y1 y2)) x0 x1 x2):=by
 kernel_rfl
def mN (N:Nat) (aV:Int→Option V5) (bS:Int→Option V5) (k0:ad→V1→Int→Option R) (k1:ad→V1→Int→Option R) (x0:ad) (x1:V1) (x2:Int):Option R:=
(mU (fun y0 y1 y2 y3=>al y3 ((mK aV bS (mz (mI N ((mJ ((mL k0))))))) y0 y1 y2) (k1 y0 y1 y2)) x0 x1 x2)
theorem aCk (aV) (bS) (h28:(gV aV).holds cl) (h37:(lO bS).holds cl) (x0 x1 x2):exec cl N DE (gw x0 x1 x2) K=(mN N aV bS (fun y0 y1 y2=>K .normal (gw y0 y1 y2)) (fun y0 y1 y2=>K (.exit 0) (gw y0 y1 y2)) x0 x1 x2):=by
 simp only [DE,aM,aP,aO,aQ,aCr,TL,aF,bf,akM,ah,ak,aj,bj,cG,aoy,TB,bt,aCh aV bS h28 h37,aB6,Jn,aCf,bp,bq,bo,Rq,aCg,aCi]
 rfl
def uz {R:Type} (N:Nat) (aV:Int→Option V5) (bS:Int→Option V5) (k0:ad→V1→Int→Option R):Nat→ad→V1→Int→Option R
 | 0,_,_,_=>none
 | m+1,x0,x1,x2=>(mN N aV bS (uz N aV bS k0 m) k0 x0 x1 x2)
theorem av0 (aV) (bS) (h28:(gV aV).holds cl) (h37:(lO bS).holds cl):∀ (m) (x0 x1 x2),iter [1,5,6] (fun env K=>exec cl N DE env K) K m (gw x0 x1 x2)=uz N aV bS (fun y0 y1 y2=>K (.exit 0) (gw y0 y1 y2)) m x0 x1 x2:=by
 intro m
 induction m with
 | zero=>intros; rfl
 | succ m ih=>
   intro x0 x1 x2
   simp only [cA,aCk aV bS h28 h37,cC,cB,cD,Rq,ih]
   rfl
theorem aoB (x0 x1 x2):ae [5] (gw x0 x1 x2)=[(5,.v .str x1)]:=by kernel_rfl
def mO (N:Nat) (aV:Int→Option V5) (bS:Int→Option V5) (k0:V1→Option R) (x0:ad) (x1:V1) (x2:Int):Option R:=
uz N aV bS (fun y0 y1 y2=>k0 y1) N x0 x1 x2
theorem aCl (aV) (bS) (h28:(gV aV).holds cl) (h37:(lO bS).holds cl) (x0 x1 x2):exec cl N Jp (gw x0 x1 x2) K=(mO N aV bS (fun y0=>K (.exit 0) [(5,.v .str y0)]) x0 x1 x2):=by
 simp only [Jp,aF,cz,Rq,av0 aV bS h28 h37,aoB]
 rfl
theorem aoC (x0):ae [5] [(5,.v .str x0)]=[(5,.v .str x0)]:=by kernel_rfl
def mP (k0:V1→Int→Option R) (x0:V1):Option R:=
if x0.length+([125,10]:List UInt8).length≤140737488355328 then
k0 (x0++([125,10]:List UInt8)) (0:Int)
else none
theorem aCm (x0):exec cl N TF [(5,.v .str x0)] K=(mP (fun y0 y1=>K .normal (fb y0 y1)) x0):=by
 kernel_rfl
def mQ (N:Nat) (bR:ad→Option (Int)) (aV:Int→Option V5) (bS:Int→Option V5) (k0:V1→Int→Option R) (k1:V1→Int→Option R) (x0:ad):Option R:=
(my (mR bR (fun y0 y1 y2=>al y2 (mM k0 y0 y1 y2) ((mS (mT (mO N aV bS ((mP k1))))) y0))) x0)
theorem aCn (bR) (aV) (bS) (h14:(mi bR).holds cl) (h28:(gV aV).holds cl) (h37:(lO bS).holds cl) (x0):exec cl N Jq [(0,.v af x0)] K=(mQ N bR aV bS (fun y0 y1=>K .ret (tO y0 y1)) (fun y0 y1=>K .ret (fb y0 y1)) x0):=by
 simp only [Jq,aM,aP,aO,aQ,aB5,aCo bR h14,Jr,aF,bf,akL,ah,ak,aj,aCj,bg,bj,aow,aox,aCp,aCq,TE,bt,aCl aV bS h28 h37,bp,bq,bo,aoC,aCm]
 rfl
theorem ayC (y0 y1):au d12 .ret (tO y0 y1)=some [.v .str y0,.v U2 y1]:=by kernel_rfl
theorem ayD (y0 y1):au d12 .ret (fb y0 y1)=some [.v .str y0,.v U2 y1]:=by kernel_rfl
def g12 (N:Nat) (bR:ad→Option (Int)) (aV:Int→Option V5) (bS:Int→Option V5) (x0:ad) (k:V1→Int→Option R):Option R:=
(mQ N bR aV bS k k x0)
theorem ajD (bR) (aV) (bS) (h14:(mi bR).holds cl) (h28:(gV aV).holds cl) (h37:(lO bS).holds cl) (x0) (k:List E→Option R):exec cl N Jj [(0,.v af x0)] (fun e env=>(au d12 e env).bind k)=g12 N bR aV bS x0 (fun r0 r1=>k [.v .str r0,.v U2 r1]):=by
 simp only [Jj,aCn bR aV bS h14 h28 h37,ayC,ayD,ah]
 rfl
def Ez (S:ad→Option V7):a7:=cw 12 af S fun b=> [.v .str b.1,.v U2 b.2]
def fh (N:Nat) (x0:ad):Option V7:=g12 N (bR N) (aV N) (bS N) x0 (fun (r0:V1) (r1:Int)=>some (r0,r1))
def AW (k0:V1→Int→Option R) (x0:V1):Option R:=
k0 x0 (0:Int)
theorem aIN (x0):exec cl N L1 [(0,.v .str x0)] K=(AW (fun y0 y1=>exec cl N (.seq L3 (.seq L4 .ret)) (aR y0 y1) K) x0):=by
 kernel_rfl
theorem Rz (x0 x1):ae [0,3] (aR x0 x1)=(aR x0 x1):=by kernel_rfl
def AY (aW:Int→Option (Bool)) (k0:V1→Int→Bool→Option R) (x0:V1) (x1:Int):Option R:=
al (decide (x1 < (x0.length:Int))) (if 0≤x1∧x1 < (x0.length:Int) then
(aW ((x0.getD x1.toNat 0).toNat:Int)).bind fun r550=>
k0 x0 x1 r550
else none) (k0 x0 x1 false)
theorem aIP (aW) (h62:(gW aW).holds cl) (x0 x1):exec cl N aat (aR x0 x1) K=(AY aW (fun y0 y1 y2=>K .normal (tv y0 y1 y2)) x0 x1):=by
 rw [←put_eq h62]
 kernel_rfl
theorem asH (x0 x1 x2):ae [0,3] (tv x0 x1 x2)=(aR x0 x1):=by kernel_rfl
theorem amv (x0 x1 x2):aD (ag (tv x0 x1 x2) (.t 13))=some x2:=by kernel_rfl
def AZ (k0:V1→Int→Option R) (x0:V1) (x1:Int):Option R:=
k0 x0 (IntKind.i64.wrap (x1+(1:Int)))
theorem aIQ (x0 x1):exec cl N aav (aR x0 x1) K=(AZ (fun y0 y1=>K .normal (aR y0 y1)) x0 x1):=by
 kernel_rfl
def A0 (aW:Int→Option (Bool)) (k0:V1→Int→Option R) (k1:V1→Int→Option R) (x0:V1) (x1:Int):Option R:=
(AY aW (fun y0 y1 y2=>al y2 ((AZ k0) y0 y1) (k1 y0 y1)) x0 x1)
theorem aIR (aW) (h62:(gW aW).holds cl) (x0 x1):exec cl N D4 (aR x0 x1) K=(A0 aW (fun y0 y1=>K .normal (aR y0 y1)) (fun y0 y1=>K (.exit 0) (aR y0 y1)) x0 x1):=by
 simp only [D4,aM,aP,aO,aQ,aIP aW h62,aau,aF,bf,amv,ah,ak,aj,bj,cG,asH,aaw,bt,aIQ,bp,bq,bo,Rz]
 rfl
def uP {R:Type} (aW:Int→Option (Bool)) (k0:V1→Int→Option R):Nat→V1→Int→Option R
 | 0,_,_=>none
 | m+1,x0,x1=>(A0 aW (uP aW k0 m) k0 x0 x1)
theorem awn (aW) (h62:(gW aW).holds cl):∀ (m) (x0 x1),iter [0,3] (fun env K=>exec cl N D4 env K) K m (aR x0 x1)=uP aW (fun y0 y1=>K (.exit 0) (aR y0 y1)) m x0 x1:=by
 intro m
 induction m with
 | zero=>intros; rfl
 | succ m ih=>
   intro x0 x1
   simp only [cA,aIR aW h62,cC,cB,cD,Rz,ih]
   rfl
theorem asI (x0 x1):ae [3] (aR x0 x1)=[(3,.v U2 x1)]:=by kernel_rfl
def A1 (N:Nat) (aW:Int→Option (Bool)) (k0:Int→Option R) (x0:V1) (x1:Int):Option R:=
uP aW (fun y0 y1=>k0 y1) N x0 x1
theorem aIS (aW) (h62:(gW aW).holds cl) (x0 x1):exec cl N L2 (aR x0 x1) K=(A1 N aW (fun y0=>K (.exit 0) [(3,.v U2 y0)]) x0 x1):=by
 simp only [L2,aF,cz,Rz,awn aW h62,asI]
 rfl
theorem asJ (x0):ae [3] [(3,.v U2 x0)]=[(3,.v U2 x0)]:=by kernel_rfl
def A2 (k0:Int→Option R) (x0:Int):Option R:=
k0 x0
theorem aIT (x0):exec cl N L4 [(3,.v U2 x0)] K=(A2 (fun y0=>K .normal [(2,.v U2 y0)]) x0):=by
 kernel_rfl
def AX (N:Nat) (aW:Int→Option (Bool)) (k0:Int→Option R) (x0:V1):Option R:=
(AW (A1 N aW ((A2 k0))) x0)
theorem aIO (aW) (h62:(gW aW).holds cl) (x0):exec cl N L1 [(0,.v .str x0)] K=(AX N aW (fun y0=>K .ret [(2,.v U2 y0)]) x0):=by
 simp only [aM,aP,aO,aQ,aIN,L3,aF,bt,aIS aW h62,bp,bq,bo,asJ,aIT,bg]
 rfl
theorem azN (y0):au d63 .ret [(2,.v U2 y0)]=some [.v U2 y0]:=by kernel_rfl
def ug (N:Nat) (aW:Int→Option (Bool)) (x0:V1) (k:Int→Option R):Option R:=
(AX N aW k x0)
theorem akk (aW) (h62:(gW aW).holds cl) (x0) (k:List E→Option R):exec cl N L0 [(0,.v .str x0)] (fun e env=>(au d63 e env).bind k)=ug N aW x0 (fun r0=>k [.v U2 r0]):=by
 simp only [L0,aIO aW h62,azN,ah]
 rfl
def rn (S:V1→Option (Int)):a7:=cw 63 .str S fun b=> [.v U2 b]
def de (N:Nat) (x0:V1):Option (Int):=ug N (aW N) x0 (fun (r0:Int)=>some (r0))
def zB (k0:V1→Option R) (x0:V1):Option R:=
k0 x0
theorem aGi (x0):exec cl N XW [(0,.v .str x0)] K=(zB (fun y0=>K .normal [(0,.v .str y0)]) x0):=by
 kernel_rfl
def zC (de:V1→Option (Int)) (k0:V1→Bool→Option R) (x0:V1):Option R:=
al (x0==([]:List UInt8)) (k0 x0 true) (al (decide ((x0.length:Int) > (6:Int))) (k0 x0 true) ((de x0).bind fun r573=>
al (r573 != (x0.length:Int)) (k0 x0 true) (al (decide ((x0.length:Int) > (1:Int))) (if 0≤(0:Int)∧(0:Int) < (x0.length:Int) then
k0 x0 (((x0.getD (0:Int).toNat 0).toNat:Int)==(48:Int))
else none) (k0 x0 false))))
theorem aGj (de) (h63:(rn de).holds cl) (x0):exec cl N XX [(0,.v .str x0)] K=(zC de (fun y0 y1=>K .normal (Fh y0 y1)) x0):=by
 rw [←put_eq h63]
 kernel_rfl
def zJ (k0:Int→Bool→Option R) (x0:V1) (x1:Bool):Option R:=
k0 (0:Int) false
theorem aGq (x0 x1):exec cl N X3 (Fh x0 x1) K=(zJ (fun y0 y1=>K .normal (mj y0 y1)) x0 x1):=by
 kernel_rfl
theorem aq6 (x0 x1):ae [0,2,3] (mj x0 x1)=(tw x0 x1):=by kernel_rfl
theorem aq7 (x0 x1):ae [0,2,3] (Fh x0 x1)=(Fi x0):=by kernel_rfl
theorem alR (x0 x1):aD (ag (Fh x0 x1) (.t 30))=some x1:=by kernel_rfl
def zK (k0:V1→Int→Option R) (x0:V1):Option R:=
k0 x0 (0:Int)
theorem aGr (x0):exec cl N X5 (Fi x0) K=(zK (fun y0 y1=>K .normal (gx y0 y1)) x0):=by
 kernel_rfl
def zL (k0:Int→V0→Int→Int→Option R) (x0:V1) (x1:Int):Option R:=
k0 x1 (x0.map fun b=>(b.toNat:Int)) ((x0.map fun b=>(b.toNat:Int)).length:Int) (0:Int)
theorem aGs (x0 x1):exec cl N X6 (gx x0 x1) K=(zL (fun y0 y1 y2 y3=>K .normal (hU y0 y1 y2 y3)) x0 x1):=by
 kernel_rfl
theorem Rv (x0 x1 x2 x3):ae [4,32,33,34] (hU x0 x1 x2 x3)=(hU x0 x1 x2 x3):=by kernel_rfl
def zM (k0:Int→V0→Int→Int→Bool→Option R) (x0:Int) (x1:V0) (x2 x3:Int):Option R:=
k0 x0 x1 x2 x3 (decide (x3 < x2))
theorem aGt (x0 x1 x2 x3):exec cl N X7 (hU x0 x1 x2 x3) K=(zM (fun y0 y1 y2 y3 y4=>K .normal (Ok y0 y1 y2 y3 y4)) x0 x1 x2 x3):=by
 kernel_rfl
theorem aq8 (x0 x1 x2 x3 x4):ae [4,32,33,34] (Ok x0 x1 x2 x3 x4)=(hU x0 x1 x2 x3):=by kernel_rfl
theorem alS (x0 x1 x2 x3 x4):aD (ag (Ok x0 x1 x2 x3 x4) (.t 35))=some x4:=by kernel_rfl
def zD (k0:Int→V0→Int→Int→Option R) (x0:Int) (x1:V0) (x2 x3:Int):Option R:=
if 0≤x3∧x3 < (x1.length:Int) then
if x3.toNat < x1.length then
k0 (IntKind.i64.wrap ((IntKind.i64.wrap ((10:Int) * x0))+(IntKind.i64.wrap (IntKind.u8.wrap ((x1.getD x3.toNat (0:Int)) - (48:Int)))))) x1 x2 x3
else none
else none
theorem aGk (x0 x1 x2 x3):exec cl N XY (hU x0 x1 x2 x3) K=(zD (fun y0 y1 y2 y3=>K .normal (hU y0 y1 y2 y3)) x0 x1 x2 x3):=by
 kernel_rfl
def zE (k0:Int→V0→Int→Int→Option R) (x0:Int) (x1:V0) (x2 x3:Int):Option R:=
k0 x0 x1 x2 (IntKind.i64.wrap (x3+(1:Int)))
theorem aGl (x0 x1 x2 x3):exec cl N X0 (hU x0 x1 x2 x3) K=(zE (fun y0 y1 y2 y3=>K .normal (hU y0 y1 y2 y3)) x0 x1 x2 x3):=by
 kernel_rfl
def zF (k0:Int→V0→Int→Int→Option R) (k1:Int→V0→Int→Int→Option R) (x0:Int) (x1:V0) (x2 x3:Int):Option R:=
(zM (fun y0 y1 y2 y3 y4=>al y4 ((zD ((zE k0))) y0 y1 y2 y3) (k1 y0 y1 y2 y3)) x0 x1 x2 x3)
theorem aGm (x0 x1 x2 x3):exec cl N DV (hU x0 x1 x2 x3) K=(zF (fun y0 y1 y2 y3=>K .normal (hU y0 y1 y2 y3)) (fun y0 y1 y2 y3=>K (.exit 0) (hU y0 y1 y2 y3)) x0 x1 x2 x3):=by
 simp only [DV,aM,aP,aO,aQ,aGt,X8,aF,bf,alS,ah,ak,aj,bj,cG,aq8,XZ,bt,aGk,bp,bq,bo,Rv,aGl]
 rfl
def uK {R:Type} (k0:Int→V0→Int→Int→Option R):Nat→Int→V0→Int→Int→Option R
 | 0,_,_,_,_=>none
 | m+1,x0,x1,x2,x3=>(zF (uK k0 m) k0 x0 x1 x2 x3)
theorem awe:∀ (m) (x0 x1 x2 x3),iter [4,32,33,34] (fun env K=>exec cl N DV env K) K m (hU x0 x1 x2 x3)=uK (fun y0 y1 y2 y3=>K (.exit 0) (hU y0 y1 y2 y3)) m x0 x1 x2 x3:=by
 intro m
 induction m with
 | zero=>intros; rfl
 | succ m ih=>
   intro x0 x1 x2 x3
   simp only [cA,aGm,cC,cB,cD,Rv,ih]
   rfl
theorem aq9 (x0 x1 x2 x3):ae [4] (hU x0 x1 x2 x3)=[(4,.v U2 x0)]:=by kernel_rfl
def zG (N:Nat) (k0:Int→Option R) (x0:Int) (x1:V0) (x2 x3:Int):Option R:=
uK (fun y0 y1 y2 y3=>k0 y0) N x0 x1 x2 x3
theorem aGn (x0 x1 x2 x3):exec cl N K4 (hU x0 x1 x2 x3) K=(zG N (fun y0=>K (.exit 0) [(4,.v U2 y0)]) x0 x1 x2 x3):=by
 simp only [K4,aF,cz,Rv,awe,aq9]
 rfl
theorem ara (x0):ae [4] [(4,.v U2 x0)]=[(4,.v U2 x0)]:=by kernel_rfl
def zH (k0:Int→Bool→Option R) (x0:Int):Option R:=
k0 x0 true
theorem aGo (x0):exec cl N X2 [(4,.v U2 x0)] K=(zH (fun y0 y1=>K .normal (mj y0 y1)) x0):=by
 kernel_rfl
def zI (N:Nat) (de:V1→Option (Int)) (k0:Int→Bool→Option R) (k1:Int→Bool→Option R) (x0:V1):Option R:=
(zB (zC de (fun y0 y1=>al y1 (zJ k0 y0 y1) ((zK (zL (zG N ((zH k1))))) y0))) x0)
theorem aGp (de) (h63:(rn de).holds cl) (x0):exec cl N K5 [(0,.v .str x0)] K=(zI N de (fun y0 y1=>K .ret (tw y0 y1)) (fun y0 y1=>K .ret (mj y0 y1)) x0):=by
 simp only [K5,aM,aP,aO,aQ,aGi,aGj de h63,X4,aF,bf,alR,ah,ak,aj,aGq,bg,bj,aq6,aq7,aGr,aGs,X1,bt,aGn,bp,bq,bo,ara,aGo]
 rfl
theorem azj (y0 y1):au d45 .ret (tw y0 y1)=some [.v U2 y0,.v .bool y1]:=by kernel_rfl
theorem azk (y0 y1):au d45 .ret (mj y0 y1)=some [.v U2 y0,.v .bool y1]:=by kernel_rfl
def tZ (N:Nat) (de:V1→Option (Int)) (x0:V1) (k:Int→Bool→Option R):Option R:=
(zI N de k k x0)
theorem aj3 (de) (h63:(rn de).holds cl) (x0) (k:List E→Option R):exec cl N K3 [(0,.v .str x0)] (fun e env=>(au d45 e env).bind k)=tZ N de x0 (fun r0 r1=>k [.v U2 r0,.v .bool r1]):=by
 simp only [K3,aGp de h63,azj,azk,ah]
 rfl
def qY (S:V1→Option V3):a7:=cw 45 .str S fun b=> [.v U2 b.1,.v .bool b.2]
def cU (N:Nat) (x0:V1):Option V3:=tZ N (de N) x0 (fun (r0:Int) (r1:Bool)=>some (r0,r1))
def Q1 (k0:Bool→Option R) (x0:Int):Option R:=
al (decide (x0≥(32:Int))) (al (decide (x0≤(126:Int))) (k0 (x0 != (34:Int))) (k0 false)) (k0 false)
theorem aKM (x0):exec cl N M8 [(0,.v U1 x0)] K=(Q1 (fun y0=>exec cl N .ret [(2,.v .bool y0)] K) x0):=by
 kernel_rfl
def Q2 (k0:Bool→Option R) (x0:Int):Option R:=
(Q1 k0 x0)
theorem aKN (x0):exec cl N M8 [(0,.v U1 x0)] K=(Q2 (fun y0=>K .ret [(2,.v .bool y0)]) x0):=by
 simp only [aM,aP,aO,aQ,aKM,bg]
 rfl
theorem az9 (y0):au d77 .ret [(2,.v .bool y0)]=some [.v .bool y0]:=by kernel_rfl
def Hu (x0:Int) (k:Bool→Option R):Option R:=
(Q2 k x0)
theorem akx (x0) (k:List E→Option R):exec cl N M7 [(0,.v U1 x0)] (fun e env=>(au d77 e env).bind k)=Hu x0 (fun r0=>k [.v .bool r0]):=by
 simp only [M7,aKN,az9,ah]
 rfl
def ry (S:Int→Option (Bool)):a7:=cw 77 U1 S fun b=> [.v .bool b]
def da (N:Nat) (x0:Int):Option (Bool):=Hu x0 (fun (r0:Bool)=>some (r0))
def A7 (k0:V1→Int→Option R) (x0:V1):Option R:=
k0 x0 (1:Int)
theorem aIY (x0):exec cl N L8 [(0,.v .str x0)] K=(A7 (fun y0 y1=>exec cl N (.seq Ma (.seq L6 (.seq L7 .ret))) (gx y0 y1) K) x0):=by
 kernel_rfl
theorem CI (x0 x1):ae [0,4] (gx x0 x1)=(gx x0 x1):=by kernel_rfl
def A9 (da:Int→Option (Bool)) (k0:V1→Int→Bool→Option R) (x0:V1) (x1:Int):Option R:=
al (decide (x1 < (x0.length:Int))) (if 0≤x1∧x1 < (x0.length:Int) then
(da ((x0.getD x1.toNat 0).toNat:Int)).bind fun r611=>
k0 x0 x1 r611
else none) (k0 x0 x1 false)
theorem aI0 (da) (h77:(ry da).holds cl) (x0 x1):exec cl N aaC (gx x0 x1) K=(A9 da (fun y0 y1 y2=>K .normal (Ol y0 y1 y2)) x0 x1):=by
 rw [←put_eq h77]
 kernel_rfl
theorem asK (x0 x1 x2):ae [0,4] (Ol x0 x1 x2)=(gx x0 x1):=by kernel_rfl
theorem amw (x0 x1 x2):aD (ag (Ol x0 x1 x2) (.t 14))=some x2:=by kernel_rfl
def Ba (k0:V1→Int→Option R) (x0:V1) (x1:Int):Option R:=
k0 x0 (IntKind.i64.wrap (x1+(1:Int)))
theorem aI1 (x0 x1):exec cl N aaE (gx x0 x1) K=(Ba (fun y0 y1=>K .normal (gx y0 y1)) x0 x1):=by
 kernel_rfl
def Bb (da:Int→Option (Bool)) (k0:V1→Int→Option R) (k1:V1→Int→Option R) (x0:V1) (x1:Int):Option R:=
(A9 da (fun y0 y1 y2=>al y2 ((Ba k0) y0 y1) (k1 y0 y1)) x0 x1)
theorem aI2 (da) (h77:(ry da).holds cl) (x0 x1):exec cl N D5 (gx x0 x1) K=(Bb da (fun y0 y1=>K .normal (gx y0 y1)) (fun y0 y1=>K (.exit 0) (gx y0 y1)) x0 x1):=by
 simp only [D5,aM,aP,aO,aQ,aI0 da h77,aaD,aF,bf,amw,ah,ak,aj,bj,cG,asK,aaF,bt,aI1,bp,bq,bo,CI]
 rfl
def uQ {R:Type} (da:Int→Option (Bool)) (k0:V1→Int→Option R):Nat→V1→Int→Option R
 | 0,_,_=>none
 | m+1,x0,x1=>(Bb da (uQ da k0 m) k0 x0 x1)
theorem awo (da) (h77:(ry da).holds cl):∀ (m) (x0 x1),iter [0,4] (fun env K=>exec cl N D5 env K) K m (gx x0 x1)=uQ da (fun y0 y1=>K (.exit 0) (gx y0 y1)) m x0 x1:=by
 intro m
 induction m with
 | zero=>intros; rfl
 | succ m ih=>
   intro x0 x1
   simp only [cA,aI2 da h77,cC,cB,cD,CI,ih]
   rfl
def Bc (N:Nat) (da:Int→Option (Bool)) (k0:V1→Int→Option R) (x0:V1) (x1:Int):Option R:=
uQ da k0 N x0 x1
theorem aI3 (da) (h77:(ry da).holds cl) (x0 x1):exec cl N L9 (gx x0 x1) K=(Bc N da (fun y0 y1=>K (.exit 0) (gx y0 y1)) x0 x1):=by
 simp only [L9,aF,cz,CI,awo da h77,CI]
 rfl
def Bd (k0:V1→Int→Bool→Option R) (x0:V1) (x1:Int):Option R:=
al (x1==(x0.length:Int)) (k0 x0 x1 true) (if 0≤x1∧x1 < (x0.length:Int) then
k0 x0 x1 (((x0.getD x1.toNat 0).toNat:Int) != (34:Int))
else none)
theorem aI4 (x0 x1):exec cl N aaG (gx x0 x1) K=(Bd (fun y0 y1 y2=>K .normal (Fk y0 y1 y2)) x0 x1):=by
 kernel_rfl
def A3 (k0:V1→Int→Option R) (x0:V1) (x1:Int) (x2:Bool):Option R:=
k0 ([]:List UInt8) (2:Int)
theorem aIU (x0 x1 x2):exec cl N aax (Fk x0 x1 x2) K=(A3 (fun y0 y1=>K .normal (fb y0 y1)) x0 x1 x2):=by
 kernel_rfl
theorem asL (x0 x1):ae [0,2,3,4] (fb x0 x1)=(v7 x0 x1):=by kernel_rfl
def A4 (k0:V1→Int→Bool→Option R) (x0:V1) (x1:Int) (x2:Bool):Option R:=
k0 x0 x1 (decide ((IntKind.i64.wrap (x1 - (1:Int))) > (60:Int)))
theorem aIV (x0 x1 x2):exec cl N aay (Fk x0 x1 x2) K=(A4 (fun y0 y1 y2=>K .normal (Fl y0 y1 y2)) x0 x1 x2):=by
 kernel_rfl
def A5 (k0:V1→Int→Option R) (x0:V1) (x1:Int) (x2:Bool):Option R:=
k0 ([]:List UInt8) (3:Int)
theorem aIW (x0 x1 x2):exec cl N aaz (Fl x0 x1 x2) K=(A5 (fun y0 y1=>K .normal (fb y0 y1)) x0 x1 x2):=by
 kernel_rfl
theorem asM (x0 x1 x2):ae [0,2,3,4] (Fl x0 x1 x2)=(Fm x0 x1):=by kernel_rfl
theorem amx (x0 x1 x2):aD (ag (Fl x0 x1 x2) (.t 28))=some x2:=by kernel_rfl
theorem asN (x0 x1):ae [0,2,3,4] (v7 x0 x1)=(v7 x0 x1):=by kernel_rfl
theorem asO (x0 x1):ae [0,2,3,4] (Fm x0 x1)=(Fm x0 x1):=by kernel_rfl
theorem amy (x0 x1 x2):aD (ag (Fk x0 x1 x2) (.t 17))=some x2:=by kernel_rfl
def A6 (k0:V1→Int→Option R) (x0:V1) (x1:Int):Option R:=
if 0≤(1:Int)∧(1:Int)≤x1∧x1≤(x0.length:Int) then
k0 ((x0.drop (1:Int).toNat).take (x1.toNat - (1:Int).toNat)) (0:Int)
else none
theorem aIX (x0 x1):exec cl N L7 (Fm x0 x1) K=(A6 (fun y0 y1=>K .normal (fb y0 y1)) x0 x1):=by
 kernel_rfl
def A8 (N:Nat) (da:Int→Option (Bool)) (k0:V1→Int→Option R) (k1:V1→Int→Option R) (x0:V1):Option R:=
(A7 (Bc N da ((Bd (fun y0 y1 y2=>al y2 (A3 k0 y0 y1 y2) (A4 (fun y0 y1 y2=>al y2 (A5 k0 y0 y1 y2) ((((A6 k1))) y0 y1)) y0 y1 y2))))) x0)
theorem aIZ (da) (h77:(ry da).holds cl) (x0):exec cl N L8 [(0,.v .str x0)] K=(A8 N da (fun y0 y1=>K .ret (v7 y0 y1)) (fun y0 y1=>K .ret (fb y0 y1)) x0):=by
 simp only [aM,aP,aO,aQ,aIY,Ma,aF,bt,aI3 da h77,bp,bq,bo,CI,L6,aI4,aaB,bf,amy,ah,ak,aj,aIU,bg,aIV,aaA,amx,aIW,bj,asL,asM,asN,asO,aIX]
 rfl
theorem azO (y0 y1):au d64 .ret (v7 y0 y1)=some [.v .str y0,.v U2 y1]:=by kernel_rfl
theorem azP (y0 y1):au d64 .ret (fb y0 y1)=some [.v .str y0,.v U2 y1]:=by kernel_rfl
def uh (N:Nat) (da:Int→Option (Bool)) (x0:V1) (k:V1→Int→Option R):Option R:=
(A8 N da k k x0)
theorem akl (da) (h77:(ry da).holds cl) (x0) (k:List E→Option R):exec cl N L5 [(0,.v .str x0)] (fun e env=>(au d64 e env).bind k)=uh N da x0 (fun r0 r1=>k [.v .str r0,.v U2 r1]):=by
 simp only [L5,aIZ da h77,azO,azP,ah]
 rfl
def EI (S:V1→Option V7):a7:=cw 64 .str S fun b=> [.v .str b.1,.v U2 b.2]
def S64 (N:Nat) (x0:V1):Option V7:=uh N (da N) x0 (fun (r0:V1) (r1:Int)=>some (r0,r1))
def PR (k0:V1→aT→Option R) (x0:V1):Option R:=
k0 x0 ((0:Int),([],((0:Int),())))
theorem aFY (x0):exec cl N Xw [(0,.v .str x0)] K=(PR (fun y0 y1=>K .normal (Fo y0 y1)) x0):=by
 kernel_rfl
def PS (k0:V1→aT→Int→Option R) (x0:V1) (x1:aT):Option R:=
if 0≤(0:Int)∧(0:Int) < (x0.length:Int) then
k0 x0 x1 ((x0.getD (0:Int).toNat 0).toNat:Int)
else none
theorem aFZ (x0 x1):exec cl N Xx (Fo x0 x1) K=(PS (fun y0 y1 y2=>K .normal [(0,.v .str y0),(2,.loc ax .no y1),(5,.v U1 y2)]) x0 x1):=by
 kernel_rfl
def PZ (bE:Int→Option (Bool)) (k0:V1→aT→Int→Bool→Option R) (x0:V1) (x1:aT) (x2:Int):Option R:=
(bE x2).bind fun r629=>
k0 x0 x1 x2 r629
theorem aF6 (bE) (h61:(ka bE).holds cl) (x0 x1 x2):exec cl N XF [(0,.v .str x0),(2,.loc ax .no x1),(5,.v U1 x2)] K=(PZ bE (fun y0 y1 y2 y3=>K .normal (Fp y0 y1 y2 y3)) x0 x1 x2):=by
 rw [←put_eq h61]
 kernel_rfl
def P3 (cK:V1→Option (Int)) (k0:V1→aT→Int→Option R) (x0:V1) (x1:aT) (x2:Int) (x3:Bool):Option R:=
(cK x0).bind fun r630=>
k0 x0 x1 r630
theorem aGa (cK) (h55:(rh cK).holds cl) (x0 x1 x2 x3):exec cl N XO (Fp x0 x1 x2 x3) K=(P3 cK (fun y0 y1 y2=>K .normal [(0,.v .str y0),(2,.loc ax .no y1),(6,.v U2 y2)]) x0 x1 x2 x3):=by
 rw [←put_eq h55]
 kernel_rfl
def P6 (k0:V1→aT→Int→Bool→Option R) (x0:V1) (x1:aT) (x2:Int):Option R:=
k0 x0 x1 x2 (decide (x2 > (20:Int)))
theorem aGd (x0 x1 x2):exec cl N XQ [(0,.v .str x0),(2,.loc ax .no x1),(6,.v U2 x2)] K=(P6 (fun y0 y1 y2 y3=>K .normal (Fq y0 y1 y2 y3)) x0 x1 x2):=by
 kernel_rfl
def P7 (k0:aT→Int→Int→Option R) (x0:V1) (x1:aT) (x2:Int) (x3:Bool):Option R:=
k0 ((0:Int),[],(0:Int),()) (0:Int) (3:Int)
theorem aGe (x0 x1 x2 x3):exec cl N XR (Fq x0 x1 x2 x3) K=(P7 (fun y0 y1 y2=>K .normal (dB y0 y1 y2)) x0 x1 x2 x3):=by
 kernel_rfl
theorem aqW (x0 x1 x2):ae [0,2,3,4,6] (dB x0 x1 x2)=(Fs x0 x1 x2):=by kernel_rfl
theorem aqX (x0 x1 x2 x3):ae [0,2,3,4,6] (Fq x0 x1 x2 x3)=(tx x0 x1 x2):=by kernel_rfl
theorem alK (x0 x1 x2 x3):aD (ag (Fq x0 x1 x2 x3) (.t 20))=some x3:=by kernel_rfl
def P8 (k0:aT→Int→Int→Option R) (x0:V1) (x1:aT) (x2:Int):Option R:=
if 0≤(0:Int)∧(0:Int)≤x2∧x2≤(x0.length:Int) then
k0 ((1:Int),((x0.drop (0:Int).toNat).take (x2.toNat - (0:Int).toNat)),(0:Int),()) x2 (0:Int)
else none
theorem aGf (x0 x1 x2):exec cl N XT (tx x0 x1 x2) K=(P8 (fun y0 y1 y2=>K .normal (dB y0 y1 y2)) x0 x1 x2):=by
 kernel_rfl
theorem aqY (x0 x1 x2):ae [2,3,4] (Fs x0 x1 x2)=(dB x0 x1 x2):=by kernel_rfl
theorem aqZ (x0 x1 x2):ae [2,3,4] (dB x0 x1 x2)=(dB x0 x1 x2):=by kernel_rfl
def P9 (aW:Int→Option (Bool)) (k0:V1→aT→Int→Bool→Option R) (x0:V1) (x1:aT) (x2:Int) (x3:Bool):Option R:=
(aW x2).bind fun r635=>
k0 x0 x1 x2 r635
theorem aGg (aW) (h62:(gW aW).holds cl) (x0 x1 x2 x3):exec cl N XU (Fp x0 x1 x2 x3) K=(P9 aW (fun y0 y1 y2 y3=>K .normal (Ft y0 y1 y2 y3)) x0 x1 x2 x3):=by
 rw [←put_eq h62]
 kernel_rfl
def Qa (de:V1→Option (Int)) (k0:V1→aT→Int→Option R) (x0:V1) (x1:aT) (x2:Int) (x3:Bool):Option R:=
(de x0).bind fun r636=>
k0 x0 x1 r636
theorem aGh (de) (h63:(rn de).holds cl) (x0 x1 x2 x3):exec cl N XV (Ft x0 x1 x2 x3) K=(Qa de (fun y0 y1 y2=>K .normal [(0,.v .str y0),(2,.loc ax .no y1),(7,.v U2 y2)]) x0 x1 x2 x3):=by
 rw [←put_eq h63]
 kernel_rfl
def PT (k0:V1→aT→Int→Bool→Option R) (x0:V1) (x1:aT) (x2:Int):Option R:=
k0 x0 x1 x2 (decide (x2 > (6:Int)))
theorem aF0 (x0 x1 x2):exec cl N Xy [(0,.v .str x0),(2,.loc ax .no x1),(7,.v U2 x2)] K=(PT (fun y0 y1 y2 y3=>K .normal (Fu y0 y1 y2 y3)) x0 x1 x2):=by
 kernel_rfl
def PU (k0:aT→Int→Int→Option R) (x0:V1) (x1:aT) (x2:Int) (x3:Bool):Option R:=
k0 ((0:Int),[],(0:Int),()) (0:Int) (3:Int)
theorem aF1 (x0 x1 x2 x3):exec cl N Xz (Fu x0 x1 x2 x3) K=(PU (fun y0 y1 y2=>K .normal (dB y0 y1 y2)) x0 x1 x2 x3):=by
 kernel_rfl
theorem aq0 (x0 x1 x2):ae [0,2,3,4,7] (dB x0 x1 x2)=(adT x0 x1 x2):=by kernel_rfl
theorem aq1 (x0 x1 x2 x3):ae [0,2,3,4,7] (Fu x0 x1 x2 x3)=(Fv x0 x1 x2):=by kernel_rfl
theorem alL (x0 x1 x2 x3):aD (ag (Fu x0 x1 x2 x3) (.t 33))=some x3:=by kernel_rfl
def PW (cU:V1→Option V3) (k0:V1→aT→Int→Bool→Option R) (x0:V1) (x1:aT) (x2:Int):Option R:=
if 0≤(0:Int)∧(0:Int)≤x2∧x2≤(x0.length:Int) then
(cU ((x0.drop (0:Int).toNat).take (x2.toNat - (0:Int).toNat))).bind fun r642=>
k0 x0 x1 x2 (!r642.2)
else none
theorem aF3 (cU) (h45:(qY cU).holds cl) (x0 x1 x2):exec cl N XC (Fv x0 x1 x2) K=(PW cU (fun y0 y1 y2 y3=>exec cl N K1 (Fx y0 y1 y2 y3) K) x0 x1 x2):=by
 rw [←put_eq h45]
 kernel_rfl
def PV (k0:aT→Int→Int→Option R) (x0:V1) (x1:aT) (x2:Int) (x3:Bool):Option R:=
k0 ((0:Int),[],(0:Int),()) (0:Int) (2:Int)
theorem aF2 (x0 x1 x2 x3):exec cl N XB (Fx x0 x1 x2 x3) K=(PV (fun y0 y1 y2=>K .normal (dB y0 y1 y2)) x0 x1 x2 x3):=by
 kernel_rfl
theorem aq2 (x0 x1 x2 x3):ae [0,2,3,4,7] (Fx x0 x1 x2 x3)=(Fv x0 x1 x2):=by kernel_rfl
theorem alM (x0 x1 x2 x3):aD (ag (Fx x0 x1 x2 x3) (.t 43))=some x3:=by kernel_rfl
def PX (k0:aT→Int→Int→Option R) (x0:V1) (x1:aT) (x2:Int):Option R:=
if 0≤(0:Int)∧(0:Int)≤x2∧x2≤(x0.length:Int) then
k0 ((2:Int),((x0.drop (0:Int).toNat).take (x2.toNat - (0:Int).toNat)),(0:Int),()) x2 (0:Int)
else none
theorem aF4 (x0 x1 x2):exec cl N XD (Fv x0 x1 x2) K=(PX (fun y0 y1 y2=>K .normal (dB y0 y1 y2)) x0 x1 x2):=by
 kernel_rfl
theorem aq3 (x0 x1 x2):ae [2,3,4] (adT x0 x1 x2)=(dB x0 x1 x2):=by kernel_rfl
def PY (k0:V1→aT→Int→Bool→Option R) (x0:V1) (x1:aT) (x2:Int) (x3:Bool):Option R:=
k0 x0 x1 x2 (x2==(34:Int))
theorem aF5 (x0 x1 x2 x3):exec cl N XE (Ft x0 x1 x2 x3) K=(PY (fun y0 y1 y2 y3=>K .normal (Fy y0 y1 y2 y3)) x0 x1 x2 x3):=by
 kernel_rfl
def P0 (S64:V1→Option V7) (k0:aT→Int→Int→Option R) (x0:V1) (x1:aT) (x2:Int) (x3:Bool):Option R:=
(S64 x0).bind fun r648=>
k0 ((3:Int),r648.1,(0:Int),()) (IntKind.i64.wrap ((r648.1.length:Int)+(2:Int))) r648.2
theorem aF7 (S64) (h64:(EI S64).holds cl) (x0 x1 x2 x3):exec cl N XG (Fy x0 x1 x2 x3) K=(P0 S64 (fun y0 y1 y2=>exec cl N .ret (dB y0 y1 y2) K) x0 x1 x2 x3):=by
 rw [←put_eq h64]
 kernel_rfl
def P1 (df:V1→Int→Option (Int)) (k0:V1→aT→Bool→Option R) (x0:V1) (x1:aT) (x2:Int) (x3:Bool):Option R:=
(df ([123,125,40,41,91,93,47,59,58,126,64,61,94,44,46,124,43,42,60,62,45]:List UInt8) x2).bind fun r651=>
k0 x0 x1 (decide (r651≥(0:Int)))
theorem aF8 (df) (h65:(rp df).holds cl) (x0 x1 x2 x3):exec cl N XH (Fy x0 x1 x2 x3) K=(P1 df (fun y0 y1 y2=>K .normal (FA y0 y1 y2)) x0 x1 x2 x3):=by
 rw [←put_eq h65]
 kernel_rfl
def P2 (k0:aT→Int→Int→Option R) (x0:V1) (x1:aT) (x2:Bool):Option R:=
if 0≤(0:Int)∧(0:Int)≤(1:Int)∧(1:Int)≤(x0.length:Int) then
k0 ((4:Int),((x0.drop (0:Int).toNat).take ((1:Int).toNat - (0:Int).toNat)),(0:Int),()) (1:Int) (0:Int)
else none
theorem aF9 (x0 x1 x2):exec cl N XI (FA x0 x1 x2) K=(P2 (fun y0 y1 y2=>K .normal (dB y0 y1 y2)) x0 x1 x2):=by
 kernel_rfl
theorem aq4 (x0 x1 x2):ae [2,3,4] (FA x0 x1 x2)=(tz x1):=by kernel_rfl
theorem alN (x0 x1 x2):aD (ag (FA x0 x1 x2) (.t 64))=some x2:=by kernel_rfl
theorem aq5 (x0):ae [2,3,4] (tz x0)=(tz x0):=by kernel_rfl
theorem alO (x0 x1 x2 x3):aD (ag (Fy x0 x1 x2 x3) (.t 50))=some x3:=by kernel_rfl
theorem alP (x0 x1 x2 x3):aD (ag (Ft x0 x1 x2 x3) (.t 27))=some x3:=by kernel_rfl
theorem alQ (x0 x1 x2 x3):aD (ag (Fp x0 x1 x2 x3) (.t 14))=some x3:=by kernel_rfl
def P4 (k0:aT→Int→Int→Option R) (x0:aT):Option R:=
k0 ((0:Int),[],(0:Int),()) (0:Int) (2:Int)
theorem aGb (x0):exec cl N XP (tz x0) K=(P4 (fun y0 y1 y2=>K .normal (dB y0 y1 y2)) x0):=by
 kernel_rfl
def P5 (cU:V1→Option V3) (cK:V1→Option (Int)) (bE:Int→Option (Bool)) (aW:Int→Option (Bool)) (de:V1→Option (Int)) (S64:V1→Option V7) (df:V1→Int→Option (Int)) (k0:aT→Int→Int→Option R) (x0:V1):Option R:=
(PR (PS (PZ bE (fun y0 y1 y2 y3=>al y3 (P3 cK (P6 (fun y0 y1 y2 y3=>al y3 (P7 k0 y0 y1 y2 y3) ((P8 k0) y0 y1 y2))) y0 y1 y2 y3) (P9 aW (fun y0 y1 y2 y3=>al y3 (Qa de (PT (fun y0 y1 y2 y3=>al y3 (PU k0 y0 y1 y2 y3) ((PW cU (fun y0 y1 y2 y3=>al y3 (PV k0 y0 y1 y2 y3) ((PX k0) y0 y1 y2))) y0 y1 y2))) y0 y1 y2 y3) (PY (fun y0 y1 y2 y3=>al y3 (P0 S64 k0 y0 y1 y2 y3) (P1 df (fun y0 y1 y2=>al y2 (P2 k0 y0 y1 y2) ((((((P4 k0))))) y1)) y0 y1 y2 y3)) y0 y1 y2 y3)) y0 y1 y2 y3)))) x0)
theorem aGc (cU) (cK) (bE) (aW) (de) (S64) (df) (h45:(qY cU).holds cl) (h55:(rh cK).holds cl) (h61:(ka bE).holds cl) (h62:(gW aW).holds cl) (h63:(rn de).holds cl) (h64:(EI S64).holds cl) (h65:(rp df).holds cl) (x0):exec cl N K2 [(0,.v .str x0)] K=(P5 cU cK bE aW de S64 df (fun y0 y1 y2=>K .ret (dB y0 y1 y2)) x0):=by
 simp only [K2,aM,aP,aO,aQ,aFY,aFZ,XN,aF,bt,aF6 bE h61,XM,bf,alQ,ah,ak,aj,aGa cK h55,aGd,XS,alK,aGe,bg,bj,aqW,aqX,aGf,aGg aW h62,XL,alP,aGh de h63,aF0,XA,alL,aF1,aq0,aq1,aF3 cU h45,K1,alM,aF2,aq2,aF4,aF5,XK,alO,aF7 S64 h64,aF8 df h65,XJ,alN,aF9,aqZ,aq4,aq5,aq3,aqY,bp,bq,bo,aGb]
 rfl
theorem azi (y0 y1 y2):au d44 .ret (dB y0 y1 y2)=some [.v ax y0,.v U2 y1,.v U2 y2]:=by kernel_rfl
def Hl (cU:V1→Option V3) (cK:V1→Option (Int)) (bE:Int→Option (Bool)) (aW:Int→Option (Bool)) (de:V1→Option (Int)) (S64:V1→Option V7) (df:V1→Int→Option (Int)) (x0:V1) (k:aT→Int→Int→Option R):Option R:=
(P5 cU cK bE aW de S64 df k x0)
theorem aj2 (cU) (cK) (bE) (aW) (de) (S64) (df) (h45:(qY cU).holds cl) (h55:(rh cK).holds cl) (h61:(ka bE).holds cl) (h62:(gW aW).holds cl) (h63:(rn de).holds cl) (h64:(EI S64).holds cl) (h65:(rp df).holds cl) (x0) (k:List E→Option R):exec cl N K0 [(0,.v .str x0)] (fun e env=>(au d44 e env).bind k)=Hl cU cK bE aW de S64 df x0 (fun r0 r1 r2=>k [.v ax r0,.v U2 r1,.v U2 r2]):=by
 simp only [K0,aGc cU cK bE aW de S64 df h45 h55 h61 h62 h63 h64 h65,azi,ah]
 rfl
def qX (S:V1→Option gf):a7:=cw 44 .str S fun b=> [.v ax b.1,.v U2 b.2.1,.v U2 b.2.2]
def cq (N:Nat) (x0:V1):Option gf:=Hl (cU N) (cK N) (bE N) (aW N) (de N) (S64 N) (df N) x0 (fun (r0:aT) (r1:Int) (r2:Int)=>some (r0,r1,r2))
def pb (k0:V1→Option R) (x0:V1):Option R:=
k0 x0
theorem aCU (x0):exec cl N Uo [(0,.v .str x0)] K=(pb (fun y0=>K .normal [(0,.v .str y0)]) x0):=by
 kernel_rfl
def pc (k0:V1→Bool→Option R) (x0:V1):Option R:=
k0 x0 (decide ((x0.length:Int) > (20000:Int)))
theorem aCV (x0):exec cl N Up [(0,.v .str x0)] K=(pc (fun y0 y1=>K .normal (oY y0 y1)) x0):=by
 kernel_rfl
def pk (k0:aq→Int→Int→Option R) (x0:V1) (x1:Bool):Option R:=
k0 [] (0:Int) (3:Int)
theorem aC2 (x0 x1):exec cl N Ux (oY x0 x1) K=(pk (fun y0 y1 y2=>K .normal (oZ y0 y1 y2)) x0 x1):=by
 kernel_rfl
theorem ao2 (x0 x1 x2):ae [0,2,3,4] (oZ x0 x1 x2)=(tA x0 x1 x2):=by kernel_rfl
theorem ao3 (x0 x1):ae [0,2,3,4] (oY x0 x1)=(FB x0):=by kernel_rfl
theorem akX (x0 x1):aD (ag (oY x0 x1) (.t 13))=some x1:=by kernel_rfl
def pF (k0:V1→aq→Int→Option R) (x0:V1):Option R:=
k0 x0 [] (1:Int)
theorem aDg (x0):exec cl N UQ (FB x0) K=(pF (fun y0 y1 y2=>exec cl N (.seq (.seq JH JE) (.seq JF .ret)) [(0,.v .str y0),(5,.own true 58 ax .no y1),(6,.v U2 y2)] K) x0):=by
 kernel_rfl
def pH (k0:V1→aq→Int→Int→Option R) (x0:V1) (x1:aq) (x2:Int):Option R:=
k0 x0 x1 x2 (0:Int)
theorem aDi (x0 x1 x2):exec cl N JH [(0,.v .str x0),(5,.own true 58 ax .no x1),(6,.v U2 x2)] K=(pH (fun y0 y1 y2 y3=>K .normal (dq y0 y1 y2 y3)) x0 x1 x2):=by
 kernel_rfl
theorem CF (x0 x1 x2 x3):ae [0,5,6,7] (dq x0 x1 x2 x3)=(dq x0 x1 x2 x3):=by kernel_rfl
def pJ (k0:V1→aq→Int→Int→Bool→Option R) (x0:V1) (x1:aq) (x2 x3:Int):Option R:=
k0 x0 x1 x2 x3 (decide (x3 < (x0.length:Int)))
theorem aDj (x0 x1 x2 x3):exec cl N UR (dq x0 x1 x2 x3) K=(pJ (fun y0 y1 y2 y3 y4=>K .normal (Om y0 y1 y2 y3 y4)) x0 x1 x2 x3):=by
 kernel_rfl
theorem apc (x0 x1 x2 x3 x4):ae [0,5,6,7] (Om x0 x1 x2 x3 x4)=(dq x0 x1 x2 x3):=by kernel_rfl
theorem akY (x0 x1 x2 x3 x4):aD (ag (Om x0 x1 x2 x3 x4) (.t 17))=some x4:=by kernel_rfl
def pL (k0:V1→aq→Int→Int→Int→Option R) (x0:V1) (x1:aq) (x2 x3:Int):Option R:=
if 0≤x3∧x3 < (x0.length:Int) then
k0 x0 x1 x2 x3 ((x0.getD x3.toNat 0).toNat:Int)
else none
theorem aDk (x0 x1 x2 x3):exec cl N UT (dq x0 x1 x2 x3) K=(pL (fun y0 y1 y2 y3 y4=>K .normal (adU y0 y1 y2 y3 y4)) x0 x1 x2 x3):=by
 kernel_rfl
def pd (k0:V1→aq→Int→Int→Int→Bool→Option R) (x0:V1) (x1:aq) (x2 x3 x4:Int):Option R:=
k0 x0 x1 x2 x3 x4 (x4==(10:Int))
theorem aCW (x0 x1 x2 x3 x4):exec cl N Uq (adU x0 x1 x2 x3 x4) K=(pd (fun y0 y1 y2 y3 y4 y5=>K .normal (wa y0 y1 y2 y3 y4 y5)) x0 x1 x2 x3 x4):=by
 kernel_rfl
def pe (k0:V1→aq→Int→Int→Option R) (x0:V1) (x1:aq) (x2 x3 x4:Int) (x5:Bool):Option R:=
k0 x0 x1 (IntKind.i64.wrap (x2+(1:Int))) (IntKind.i64.wrap (x3+(1:Int)))
theorem aCX (x0 x1 x2 x3 x4 x5):exec cl N Ur (wa x0 x1 x2 x3 x4 x5) K=(pe (fun y0 y1 y2 y3=>K .normal (dq y0 y1 y2 y3)) x0 x1 x2 x3 x4 x5):=by
 kernel_rfl
theorem apd (x0 x1 x2 x3):ae [0,2,3,4,5,6,7] (dq x0 x1 x2 x3)=(ml x0 x1 x2 x3):=by kernel_rfl
def pf (k0:V1→aq→Int→Int→Int→Bool→Option R) (x0:V1) (x1:aq) (x2 x3 x4:Int) (x5:Bool):Option R:=
k0 x0 x1 x2 x3 x4 (x4==(32:Int))
theorem aCY (x0 x1 x2 x3 x4 x5):exec cl N Us (wa x0 x1 x2 x3 x4 x5) K=(pf (fun y0 y1 y2 y3 y4 y5=>K .normal (jL y0 y1 y2 y3 y4 y5)) x0 x1 x2 x3 x4 x5):=by
 kernel_rfl
theorem ape (x0 x1 x2 x3 x4 x5):ae [0,5,6,7,20,48] (jL x0 x1 x2 x3 x4 x5)=(jL x0 x1 x2 x3 x4 x5):=by kernel_rfl
def pg (k0:V1→aq→Int→Int→Int→Bool→Option R) (x0:V1) (x1:aq) (x2 x3 x4:Int) (x5:Bool):Option R:=
k0 x0 x1 x2 x3 x4 (x4==(9:Int))
theorem aCZ (x0 x1 x2 x3 x4 x5):exec cl N Ut (jL x0 x1 x2 x3 x4 x5) K=(pg (fun y0 y1 y2 y3 y4 y5=>K .normal (jL y0 y1 y2 y3 y4 y5)) x0 x1 x2 x3 x4 x5):=by
 kernel_rfl
def ph (k0:V1→aq→Int→Int→Int→Bool→Option R) (x0:V1) (x1:aq) (x2 x3 x4:Int) (x5:Bool):Option R:=
k0 x0 x1 x2 x3 x4 (x4==(13:Int))
theorem aC0 (x0 x1 x2 x3 x4 x5):exec cl N Uu (jL x0 x1 x2 x3 x4 x5) K=(ph (fun y0 y1 y2 y3 y4 y5=>K .normal (jL y0 y1 y2 y3 y4 y5)) x0 x1 x2 x3 x4 x5):=by
 kernel_rfl
theorem akZ (x0 x1 x2 x3 x4 x5):aD (ag (jL x0 x1 x2 x3 x4 x5) (.t 48))=some x5:=by kernel_rfl
theorem ak0 (x0 x1 x2 x3 x4 x5):aD (ag (jL x0 x1 x2 x3 x4 x5) (.t 48))=some x5:=by kernel_rfl
def pj (k0:V1→aq→Int→Int→Int→Bool→Option R) (x0:V1) (x1:aq) (x2 x3 x4:Int) (x5:Bool):Option R:=
(pf (fun y0 y1 y2 y3 y4 y5=>al y5 (k0 y0 y1 y2 y3 y4 y5) (pg (fun y0 y1 y2 y3 y4 y5=>al y5 (k0 y0 y1 y2 y3 y4 y5) (ph k0 y0 y1 y2 y3 y4 y5)) y0 y1 y2 y3 y4 y5)) x0 x1 x2 x3 x4 x5)
theorem aC1 (x0 x1 x2 x3 x4 x5):exec cl N JB (wa x0 x1 x2 x3 x4 x5) K=(pj (fun y0 y1 y2 y3 y4 y5=>K .normal (jL y0 y1 y2 y3 y4 y5)) x0 x1 x2 x3 x4 x5):=by
 simp only [JB,aM,aP,aO,aQ,aCY,Uw,aF,bf,ak0,ah,ak,aj,bj,aCZ,Uv,akZ,aC0,ape]
 rfl
def pn (k0:V1→aq→Int→Int→Option R) (x0:V1) (x1:aq) (x2 x3 x4:Int) (x5:Bool):Option R:=
k0 x0 x1 x2 (IntKind.i64.wrap (x3+(1:Int)))
theorem aC3 (x0 x1 x2 x3 x4 x5):exec cl N Uy (jL x0 x1 x2 x3 x4 x5) K=(pn (fun y0 y1 y2 y3=>K .normal (dq y0 y1 y2 y3)) x0 x1 x2 x3 x4 x5):=by
 kernel_rfl
def po (k0:V1→aq→Int→Int→Bool→Option R) (x0:V1) (x1:aq) (x2 x3 x4:Int) (x5:Bool):Option R:=
k0 x0 x1 x2 x3 (x4==(35:Int))
theorem aC4 (x0 x1 x2 x3 x4 x5):exec cl N Uz (jL x0 x1 x2 x3 x4 x5) K=(po (fun y0 y1 y2 y3 y4=>K .normal (wb y0 y1 y2 y3 y4)) x0 x1 x2 x3 x4 x5):=by
 kernel_rfl
theorem apf (x0 x1 x2 x3 x4):ae [0,5,6,7] (wb x0 x1 x2 x3 x4)=(dq x0 x1 x2 x3):=by kernel_rfl
def pq (k0:V1→aq→Int→Int→Bool→Option R) (x0:V1) (x1:aq) (x2 x3:Int):Option R:=
al (decide (x3 < (x0.length:Int))) (if 0≤x3∧x3 < (x0.length:Int) then
k0 x0 x1 x2 x3 (((x0.getD x3.toNat 0).toNat:Int) != (10:Int))
else none) (k0 x0 x1 x2 x3 false)
theorem aC5 (x0 x1 x2 x3):exec cl N UA (dq x0 x1 x2 x3) K=(pq (fun y0 y1 y2 y3 y4=>K .normal (On y0 y1 y2 y3 y4)) x0 x1 x2 x3):=by
 kernel_rfl
theorem apg (x0 x1 x2 x3 x4):ae [0,5,6,7] (On x0 x1 x2 x3 x4)=(dq x0 x1 x2 x3):=by kernel_rfl
theorem ak1 (x0 x1 x2 x3 x4):aD (ag (On x0 x1 x2 x3 x4) (.t 65))=some x4:=by kernel_rfl
def pt (k0:V1→aq→Int→Int→Option R) (x0:V1) (x1:aq) (x2 x3:Int):Option R:=
k0 x0 x1 x2 (IntKind.i64.wrap (x3+(1:Int)))
theorem aC6 (x0 x1 x2 x3):exec cl N UC (dq x0 x1 x2 x3) K=(pt (fun y0 y1 y2 y3=>K .normal (dq y0 y1 y2 y3)) x0 x1 x2 x3):=by
 kernel_rfl
def pv (k0:V1→aq→Int→Int→Option R) (k1:V1→aq→Int→Int→Option R) (x0:V1) (x1:aq) (x2 x3:Int):Option R:=
(pq (fun y0 y1 y2 y3 y4=>al y4 ((pt k0) y0 y1 y2 y3) (k1 y0 y1 y2 y3)) x0 x1 x2 x3)
theorem aC7 (x0 x1 x2 x3):exec cl N DH (dq x0 x1 x2 x3) K=(pv (fun y0 y1 y2 y3=>K .normal (dq y0 y1 y2 y3)) (fun y0 y1 y2 y3=>K (.exit 3) (dq y0 y1 y2 y3)) x0 x1 x2 x3):=by
 simp only [DH,aM,aP,aO,aQ,aC5,UB,aF,bf,ak1,ah,ak,aj,bj,cG,apg,UD,bt,aC6,bp,bq,bo,CF]
 rfl
def uC {R:Type} (k0:V1→aq→Int→Int→Option R):Nat→V1→aq→Int→Int→Option R
 | 0,_,_,_,_=>none
 | m+1,x0,x1,x2,x3=>(pv (uC k0 m) k0 x0 x1 x2 x3)
theorem av3:∀ (m) (x0 x1 x2 x3),iter [0,5,6,7] (fun env K=>exec cl N DH env K) K m (dq x0 x1 x2 x3)=uC (fun y0 y1 y2 y3=>K (.exit 3) (dq y0 y1 y2 y3)) m x0 x1 x2 x3:=by
 intro m
 induction m with
 | zero=>intros; rfl
 | succ m ih=>
   intro x0 x1 x2 x3
   simp only [cA,aC7,cC,cB,cD,CF,ih]
   rfl
def pw (N:Nat) (k0:V1→aq→Int→Int→Option R) (x0:V1) (x1:aq) (x2 x3:Int) (x4:Bool):Option R:=
uC k0 N x0 x1 x2 x3
theorem aC8 (x0 x1 x2 x3 x4):exec cl N JC (wb x0 x1 x2 x3 x4) K=(pw N (fun y0 y1 y2 y3=>K (.exit 3) (dq y0 y1 y2 y3)) x0 x1 x2 x3 x4):=by
 simp only [JC,aF,cz,apf,av3,CF]
 rfl
def px (cq:V1→Option gf) (k0:V1→aq→Int→Int→aT→Int→Int→Option R) (x0:V1) (x1:aq) (x2 x3:Int) (x4:Bool):Option R:=
if 0≤x3∧x3≤(x0.length:Int)∧(x0.length:Int)≤(x0.length:Int) then
(cq ((x0.drop x3.toNat).take ((x0.length:Int).toNat - x3.toNat))).bind fun r676=>
k0 x0 x1 x2 x3 r676.1 r676.2.1 r676.2.2
else none
theorem aC9 (cq) (h44:(qX cq).holds cl) (x0 x1 x2 x3 x4):exec cl N UF (wb x0 x1 x2 x3 x4) K=(px cq (fun y0 y1 y2 y3 y4 y5 y6=>K .normal (adV y0 y1 y2 y3 y4 y5 y6)) x0 x1 x2 x3 x4):=by
 rw [←put_eq h44]
 kernel_rfl
def pz (k0:V1→aq→Int→Int→aT→Int→Int→Bool→Option R) (x0:V1) (x1:aq) (x2 x3:Int) (x4:aT) (x5 x6:Int):Option R:=
k0 x0 x1 x2 x3 x4 x5 x6 (x6 != (0:Int))
theorem aDa (x0 x1 x2 x3 x4 x5 x6):exec cl N UH (adV x0 x1 x2 x3 x4 x5 x6) K=(pz (fun y0 y1 y2 y3 y4 y5 y6 y7=>K .normal (FC y0 y1 y2 y3 y4 y5 y6 y7)) x0 x1 x2 x3 x4 x5 x6):=by
 kernel_rfl
def pA (k0:aq→Int→Int→Option R) (x0:V1) (x1:aq) (x2 x3:Int) (x4:aT) (x5 x6:Int) (x7:Bool):Option R:=
k0 [] x2 x6
theorem aDb (x0 x1 x2 x3 x4 x5 x6 x7):exec cl N UI (FC x0 x1 x2 x3 x4 x5 x6 x7) K=(pA (fun y0 y1 y2=>K .normal (oZ y0 y1 y2)) x0 x1 x2 x3 x4 x5 x6 x7):=by
 kernel_rfl
theorem aph (x0 x1 x2):ae [0,2,3,4,5,6,7,8,9] (oZ x0 x1 x2)=(FE x0 x1 x2):=by kernel_rfl
theorem api (x0 x1 x2 x3 x4 x5 x6 x7):ae [0,2,3,4,5,6,7,8,9] (FC x0 x1 x2 x3 x4 x5 x6 x7)=(adW x0 x1 x2 x3 x4 x5):=by kernel_rfl
theorem ak2 (x0 x1 x2 x3 x4 x5 x6 x7):aD (ag (FC x0 x1 x2 x3 x4 x5 x6 x7) (.t 30))=some x7:=by kernel_rfl
def pB (k0:V1→aq→Int→Int→Option R) (x0:V1) (x1:aq) (x2 x3:Int) (x4:aT) (x5:Int):Option R:=
if x1.length+[(x4.1,(x4.2.1,(x2,x4.2.2.2)))].length≤4398046511104 then
k0 x0 (x1++[(x4.1,(x4.2.1,(x2,x4.2.2.2)))]) x2 (IntKind.i64.wrap (x3+x5))
else none
theorem aDc (x0 x1 x2 x3 x4 x5):exec cl N UK (adW x0 x1 x2 x3 x4 x5) K=(pB (fun y0 y1 y2 y3=>K .normal (dq y0 y1 y2 y3)) x0 x1 x2 x3 x4 x5):=by
 kernel_rfl
theorem ao4 (x0 x1 x2):ae [0,2,3,4,5,6,7] (FE x0 x1 x2)=(mn x0 x1 x2):=by kernel_rfl
theorem ak3 (x0 x1 x2 x3 x4):aD (ag (wb x0 x1 x2 x3 x4) (.t 54))=some x4:=by kernel_rfl
theorem ao5 (x0 x1 x2 x3):ae [0,2,3,4,5,6,7] (ml x0 x1 x2 x3)=(ml x0 x1 x2 x3):=by kernel_rfl
theorem ao6 (x0 x1 x2):ae [0,2,3,4,5,6,7] (mn x0 x1 x2)=(mn x0 x1 x2):=by kernel_rfl
theorem ak4 (x0 x1 x2 x3 x4 x5):aD (ag (jL x0 x1 x2 x3 x4 x5) (.t 48))=some x5:=by kernel_rfl
theorem ak5 (x0 x1 x2 x3 x4 x5):aD (ag (wa x0 x1 x2 x3 x4 x5) (.t 42))=some x5:=by kernel_rfl
def pC (N:Nat) (cq:V1→Option gf) (k0:V1→aq→Int→Int→Option R) (k1:aq→Int→Int→Option R) (k2:V1→aq→Int→Int→Option R) (x0:V1) (x1:aq) (x2 x3:Int):Option R:=
(pJ (fun y0 y1 y2 y3 y4=>al y4 ((pL (pd (fun y0 y1 y2 y3 y4 y5=>al y5 (pe k0 y0 y1 y2 y3 y4 y5) (pj (fun y0 y1 y2 y3 y4 y5=>al y5 (pn k0 y0 y1 y2 y3 y4 y5) (po (fun y0 y1 y2 y3 y4=>al y4 (pw N k0 y0 y1 y2 y3 y4) (px cq (pz (fun y0 y1 y2 y3 y4 y5 y6 y7=>al y7 (pA k1 y0 y1 y2 y3 y4 y5 y6 y7) ((pB k0) y0 y1 y2 y3 y4 y5))) y0 y1 y2 y3 y4)) y0 y1 y2 y3 y4 y5)) y0 y1 y2 y3 y4 y5)))) y0 y1 y2 y3) (k2 y0 y1 y2 y3)) x0 x1 x2 x3)
theorem aDd (cq) (h44:(qX cq).holds cl) (x0 x1 x2 x3):exec cl N DJ (dq x0 x1 x2 x3) K=(pC N cq (fun y0 y1 y2 y3=>K .normal (ml y0 y1 y2 y3)) (fun y0 y1 y2=>K .ret (mn y0 y1 y2)) (fun y0 y1 y2 y3=>K (.exit 0) (dq y0 y1 y2 y3)) x0 x1 x2 x3):=by
 simp only [DJ,aM,aP,aO,aQ,aDj,US,aF,bf,akY,ah,ak,aj,bj,cG,apc,UP,bt,aDk,UO,aCW,UN,ak5,aCX,aC1,UM,ak4,aC3,aC4,UL,ak3,UE,aC8,bp,bq,bo,CF,aC9 cq h44,aDa,UJ,ak2,aDb,bg,aph,api,aDc,ao4,apd,ao5,ao6]
 rfl
theorem ao7 (x0 x1 x2 x3):ae [0,5,6,7] (ml x0 x1 x2 x3)=(dq x0 x1 x2 x3):=by kernel_rfl
def lR {R:Type} (N:Nat) (cq:V1→Option gf) (k0:aq→Int→Int→Option R) (k1:V1→aq→Int→Int→Option R):Nat→V1→aq→Int→Int→Option R
 | 0,_,_,_,_=>none
 | m+1,x0,x1,x2,x3=>(pC N cq (lR N cq k0 k1 m) k0 k1 x0 x1 x2 x3)
theorem av4 (cq) (h44:(qX cq).holds cl):∀ (m) (x0 x1 x2 x3),iter [0,5,6,7] (fun env K=>exec cl N DJ env K) K m (dq x0 x1 x2 x3)=lR N cq (fun y0 y1 y2=>K .ret (mn y0 y1 y2)) (fun y0 y1 y2 y3=>K (.exit 0) (dq y0 y1 y2 y3)) m x0 x1 x2 x3:=by
 intro m
 induction m with
 | zero=>intros; rfl
 | succ m ih=>
   intro x0 x1 x2 x3
   simp only [cA,aDd cq h44,cC,cB,cD,ao7,ih]
   rfl
theorem ao8 (x0 x1 x2):ae [2,3,4,5] (mn x0 x1 x2)=(ki x0 x1 x2):=by kernel_rfl
theorem ao9 (x0 x1 x2 x3):ae [2,3,4,5] (dq x0 x1 x2 x3)=(wc x1):=by kernel_rfl
def pD (N:Nat) (cq:V1→Option gf) (k0:aq→Int→Int→Option R) (k1:aq→Option R) (x0:V1) (x1:aq) (x2 x3:Int):Option R:=
lR N cq k0 (fun y0 y1 y2 y3=>k1 y1) N x0 x1 x2 x3
theorem aDe (cq) (h44:(qX cq).holds cl) (x0 x1 x2 x3):exec cl N JD (dq x0 x1 x2 x3) K=(pD N cq (fun y0 y1 y2=>K .ret (ki y0 y1 y2)) (fun y0=>K (.exit 0) (wc y0)) x0 x1 x2 x3):=by
 simp only [JD,aF,cz,CF,av4 cq h44,ao8,ao9]
 rfl
theorem apa (x0 x1 x2):ae [2,3,4,5] (ki x0 x1 x2)=(ki x0 x1 x2):=by kernel_rfl
theorem apb (x0):ae [2,3,4,5] (wc x0)=(wc x0):=by kernel_rfl
def pE (k0:Int→Int→aq→Option R) (x0:aq):Option R:=
k0 (0:Int) (0:Int) x0
theorem aDf (x0):exec cl N JF (wc x0) K=(pE (fun y0 y1 y2=>K .normal (lQ y0 y1 y2)) x0):=by
 kernel_rfl
def pG (N:Nat) (cq:V1→Option gf) (k0:aq→Int→Int→Option R) (k1:aq→Int→Int→Option R) (k2:Int→Int→aq→Option R) (x0:V1):Option R:=
(pb (pc (fun y0 y1=>al y1 (pk k0 y0 y1) ((pF (pH (pD N cq k1 ((pE k2))))) y0))) x0)
theorem aDh (cq) (h44:(qX cq).holds cl) (x0):exec cl N JG [(0,.v .str x0)] K=(pG N cq (fun y0 y1 y2=>K .ret (tA y0 y1 y2)) (fun y0 y1 y2=>K .ret (ki y0 y1 y2)) (fun y0 y1 y2=>K .ret (lQ y0 y1 y2)) x0):=by
 simp only [JG,aM,aP,aO,aQ,aCU,aCV,UG,aF,bf,akX,ah,ak,aj,aC2,bg,bj,ao2,ao3,aDg,aDi,JE,bt,aDe cq h44,bp,bq,bo,apa,apb,aDf]
 rfl
theorem ayI (y0 y1 y2):au d18 .ret (tA y0 y1 y2)=some [.own true 58 ax .no y0,.v U2 y1,.v U2 y2]:=by kernel_rfl
theorem ayJ (y0 y1 y2):au d18 .ret (ki y0 y1 y2)=some [.own true 58 ax .no y0,.v U2 y1,.v U2 y2]:=by kernel_rfl
theorem ayK (y0 y1 y2):au d18 .ret (lQ y0 y1 y2)=some [.own true 58 ax .no y2,.v U2 y0,.v U2 y1]:=by kernel_rfl
def g18 (N:Nat) (cq:V1→Option gf) (x0:V1) (k:aq→Int→Int→Option R):Option R:=
(pG N cq k k (fun y0 y1 y2=>k y2 y0 y1) x0)
theorem ajG (cq) (h44:(qX cq).holds cl) (x0) (k:List E→Option R):exec cl N JA [(0,.v .str x0)] (fun e env=>(au d18 e env).bind k)=g18 N cq x0 (fun r0 r1 r2=>k [.own true 58 ax .no r0,.v U2 r1,.v U2 r2]):=by
 simp only [JA,aDh cq h44,ayI,ayJ,ayK,ah]
 rfl
def EA (S:V1→Option mb):a7:=cw 18 .str S fun b=> [.own true 58 ax .no b.1,.v U2 b.2.1,.v U2 b.2.2]
def fJ (N:Nat) (x0:V1):Option mb:=g18 N (cq N) x0 (fun (r0:aq) (r1:Int) (r2:Int)=>some (r0,r1,r2))
def Pl (k0:Bool→Option R) (x0:aG) (x1:Int) (x2:V1):Option R:=
al (decide (x0.2.1 < (x0.1.length:Int))) (if 0≤x0.2.1∧x0.2.1 < (x0.1.length:Int) then
al ((x0.1.getD x0.2.1.toNat ((0:Int),([],((0:Int),())))).1==x1) (al (x2==([]:List UInt8)) (k0 true) (if 0≤x0.2.1∧x0.2.1 < (x0.1.length:Int) then
k0 ((x0.1.getD x0.2.1.toNat ((0:Int),([],((0:Int),())))).2.1==x2)
else none)) (k0 false)
else none) (k0 false)
theorem aDq (x0 x1 x2):exec cl N JL (Oo x0 x1 x2) K=(Pl (fun y0=>exec cl N .ret [(6,.v .bool y0)] K) x0 x1 x2):=by
 kernel_rfl
def Pm (k0:Bool→Option R) (x0:aG) (x1:Int) (x2:V1):Option R:=
(Pl k0 x0 x1 x2)
theorem aDr (x0 x1 x2):exec cl N JL (Oo x0 x1 x2) K=(Pm (fun y0=>K .ret [(6,.v .bool y0)]) x0 x1 x2):=by
 simp only [aM,aP,aO,aQ,aDq,bg]
 rfl
theorem ayM (y0):au d20 .ret [(6,.v .bool y0)]=some [.v .bool y0]:=by kernel_rfl
def g20 (x0:aG) (x1:Int) (x2:V1) (k:Bool→Option R):Option R:=
(Pm k x0 x1 x2)
theorem ajI (x0 x1 x2) (k:List E→Option R):exec cl N JK (Oo x0 x1 x2) (fun e env=>(au d20 e env).bind k)=g20 x0 x1 x2 (fun r0=>k [.v .bool r0]):=by
 simp only [JK,aDr,ayM,ah]
 rfl
def gL (S:aG→Int→V1→Option (Bool)):a7:={A:=aG×Int×V1×Unit,B:=Bool,f:=20,enc:=fun a=> [.at bl a.1,.v U2 a.2.1,.v .str a.2.2.1],dec:=(bZ (vZ bl) (bZ (cO U2) (bZ (cO .str) dZ))),S:=fun a=>S a.1 a.2.1 a.2.2.1,ag:=fun b=> [.v .bool b],ok:=(adO (T:=bl) (gX (T:=U2) (gX (T:=.str) (fun es b h=>iv h))))}
def aL (N:Nat) (x0:aG) (x1:Int) (x2:V1):Option (Bool):=g20 x0 x1 x2 (fun (r0:Bool)=>some (r0))
def xG (k0:aG→Int→V1→Option R) (x0:aG) (x1:Int) (x2:V1):Option R:=
k0 x0 x1 x2
theorem aDl (x0 x1 x2):exec cl N UU (we x0 x1 x2) K=(xG (fun y0 y1 y2=>K .normal (we y0 y1 y2)) x0 x1 x2):=by
 kernel_rfl
def xH (aL:aG→Int→V1→Option (Bool)) (k0:aG→Bool→Option R) (x0:aG) (x1:Int) (x2:V1):Option R:=
al x0.2.2.1 (k0 x0 true) ((aL x0 x1 x2).bind fun r698=>
k0 x0 (!r698))
theorem aDm (aL) (h20:(gL aL).holds cl) (x0 x1 x2):exec cl N UW (we x0 x1 x2) K=(xH aL (fun y0 y1=>K .normal (FF y0 y1)) x0 x1 x2):=by
 rw [←put_eq h20]
 kernel_rfl
def xI (k0:aG→V1→Option R) (x0:aG) (x1:Bool):Option R:=
k0 (x0.1,(x0.2.1,(true,x0.2.2.2))) ([]:List UInt8)
theorem aDn (x0 x1):exec cl N UX (FF x0 x1) K=(xI (fun y0 y1=>exec cl N .ret (tB y0 y1) K) x0 x1):=by
 kernel_rfl
theorem apj (x0 x1):ae [0,6] (tB x0 x1)=(tB x0 x1):=by kernel_rfl
theorem apk (x0 x1):ae [0,6] (FF x0 x1)=[(0,.loc bl .no x0),(6,.dead)]:=by kernel_rfl
theorem ak6 (x0 x1):aD (ag (FF x0 x1) (.t 17))=some x1:=by kernel_rfl
def xJ (k0:aG→V1→Option R) (x0:aG):Option R:=
let v700:Int:=(IntKind.i64.wrap (x0.2.1+(1:Int)))
let v701:Int:=(IntKind.i64.wrap (v700 - (1:Int)))
if 0≤v701∧v701 < (x0.1.length:Int) then
k0 (x0.1,(v700,x0.2.2)) ((x0.1.getD v701.toNat ((0:Int),([],((0:Int),())))).2.1)
else none
theorem aDo (x0):exec cl N UZ [(0,.loc bl .no x0),(6,.dead)] K=(xJ (fun y0 y1=>exec cl N .ret (tB y0 y1) K) x0):=by
 kernel_rfl
def xK (aL:aG→Int→V1→Option (Bool)) (k0:aG→V1→Option R) (x0:aG) (x1:Int) (x2:V1):Option R:=
(xG (xH aL (fun y0 y1=>al y1 (xI k0 y0 y1) ((xJ k0) y0))) x0 x1 x2)
theorem aDp (aL) (h20:(gL aL).holds cl) (x0 x1 x2):exec cl N JJ (we x0 x1 x2) K=(xK aL (fun y0 y1=>K .ret (tB y0 y1)) x0 x1 x2):=by
 simp only [JJ,aM,aP,aO,aQ,aDl,aDm aL h20,UY,aF,bf,ak6,ah,ak,aj,aDn,bg,bj,apj,apk,aDo]
 rfl
theorem ayL (y0 y1):au d19 .ret (tB y0 y1)=some [.loc bl .no y0,.v .str y1]:=by kernel_rfl
def g19 (aL:aG→Int→V1→Option (Bool)) (x0:aG) (x1:Int) (x2:V1) (k:aG→V1→Option R):Option R:=
(xK aL k x0 x1 x2)
theorem ajH (aL) (h20:(gL aL).holds cl) (x0 x1 x2) (k:List E→Option R):exec cl N JI (we x0 x1 x2) (fun e env=>(au d19 e env).bind k)=g19 aL x0 x1 x2 (fun r0 r1=>k [.loc bl .no r0,.v .str r1]):=by
 simp only [JI,aDp aL h20,ayL,ah]
 rfl
def j8 (S:aG→Int→V1→Option fv):a7:={A:=aG×Int×V1×Unit,B:=aG×V1,f:=19,enc:=fun a=> [.loc bl .no a.1,.v U2 a.2.1,.v .str a.2.2.1],dec:=(bZ (tq .no bl) (bZ (cO U2) (bZ (cO .str) dZ))),S:=fun a=>S a.1 a.2.1 a.2.2.1,ag:=fun b=> [.loc bl .no b.1,.v .str b.2],ok:=(N7 (o:=.no) (T:=bl) (gX (T:=U2) (gX (T:=.str) (fun es b h=>iv h))))}
def bn (N:Nat) (x0:aG) (x1:Int) (x2:V1):Option fv:=g19 (aL N) x0 x1 x2 (fun (r0:aG) (r1:V1)=>some (r0,r1))
def Pn (k0:aG→Option R) (x0:aG):Option R:=
k0 x0
theorem aDs (x0):exec cl N Va [(0,.at bl x0)] K=(Pn (fun y0=>K .normal [(0,.at bl y0)]) x0):=by
 kernel_rfl
def Po (k0:aG→Bool→Option R) (x0:aG):Option R:=
k0 x0 (decide (x0.2.1 < (x0.1.length:Int)))
theorem aDt (x0):exec cl N Vb [(0,.at bl x0)] K=(Po (fun y0 y1=>K .normal (FG y0 y1)) x0):=by
 kernel_rfl
def Pp (k0:Int→Option R) (x0:aG) (x1:Bool):Option R:=
if 0≤x0.2.1∧x0.2.1 < (x0.1.length:Int) then
k0 ((x0.1.getD x0.2.1.toNat ((0:Int),([],((0:Int),())))).2.2.1)
else none
theorem aDu (x0 x1):exec cl N Vc (FG x0 x1) K=(Pp (fun y0=>K .normal [(2,.v U2 y0)]) x0 x1):=by
 kernel_rfl
theorem apl (x0):ae [2] [(2,.v U2 x0)]=[(2,.v U2 x0)]:=by kernel_rfl
def Pq (k0:aG→Bool→Option R) (x0:aG) (x1:Bool):Option R:=
k0 x0 (decide ((x0.1.length:Int) > (0:Int)))
theorem aDv (x0 x1):exec cl N Vd (FG x0 x1) K=(Pq (fun y0 y1=>K .normal (FH y0 y1)) x0 x1):=by
 kernel_rfl
def Pr (k0:Int→Option R) (x0:aG) (x1:Bool):Option R:=
let v716:Int:=(IntKind.i64.wrap ((x0.1.length:Int) - (1:Int)))
if 0≤v716∧v716 < (x0.1.length:Int) then
k0 ((x0.1.getD v716.toNat ((0:Int),([],((0:Int),())))).2.2.1)
else none
theorem aDw (x0 x1):exec cl N Ve (FH x0 x1) K=(Pr (fun y0=>K .normal [(2,.v U2 y0)]) x0 x1):=by
 kernel_rfl
theorem apm (x0 x1):ae [2] (FH x0 x1)=[(2,.dead)]:=by kernel_rfl
theorem ak7 (x0 x1):aD (ag (FH x0 x1) (.t 25))=some x1:=by kernel_rfl
theorem apn:ae [2] [(2,.dead)]=[(2,.dead)]:=by kernel_rfl
theorem ak8 (x0 x1):aD (ag (FG x0 x1) (.t 3))=some x1:=by kernel_rfl
def Ps (k0:Int→Option R):Option R:=
k0 (1:Int)
theorem aDx:exec cl N Vi [(2,.dead)] K=(Ps (fun y0=>K .normal [(2,.v U2 y0)])):=by
 kernel_rfl
def Pt (k0:Int→Option R) (x0:aG):Option R:=
(Pn (Po (fun y0 y1=>al y1 (Pp k0 y0 y1) (Pq (fun y0 y1=>al y1 (Pr k0 y0 y1) (Ps k0)) y0 y1))) x0)
theorem aDy (x0):exec cl N JN [(0,.at bl x0)] K=(Pt (fun y0=>K .ret [(2,.v U2 y0)]) x0):=by
 simp only [JN,aM,aP,aO,aQ,aDs,Vh,aF,bt,aDt,Vg,bf,ak8,ah,ak,aj,aDu,bg,aDv,Vf,ak7,aDw,bj,apl,apm,apn,bp,bq,bo,aDx]
 rfl
theorem ayN (y0):au d21 .ret [(2,.v U2 y0)]=some [.v U2 y0]:=by kernel_rfl
def g21 (x0:aG) (k:Int→Option R):Option R:=
(Pt k x0)
theorem ajJ (x0) (k:List E→Option R):exec cl N JM [(0,.at bl x0)] (fun e env=>(au d21 e env).bind k)=g21 x0 (fun r0=>k [.v U2 r0]):=by
 simp only [JM,aDy,ayN,ah]
 rfl
def oV (S:aG→Option (Int)):a7:={A:=aG×Unit,B:=Int,f:=21,enc:=fun a=> [.at bl a.1],dec:=(bZ (vZ bl) dZ),S:=fun a=>S a.1,ag:=fun b=> [.v U2 b],ok:=(adO (T:=bl) (fun es b h=>iv h))}
def bY (N:Nat) (x0:aG):Option (Int):=g21 x0 (fun (r0:Int)=>some (r0))
def Qb (bn:aG→Int→V1→Option fv) (k0:aG→V1→Option R) (x0:aG):Option R:=
(bn x0 (3:Int) ([]:List UInt8)).bind fun r727=>
k0 r727.1 r727.2
theorem aGu (bn) (h19:(j8 bn).holds cl) (x0):exec cl N K7 [(0,.loc bl .no x0)] K=(Qb bn (fun y0 y1=>exec cl N .ret (Oq y0 y1) K) x0):=by
 rw [←put_eq h19]
 kernel_rfl
def Qc (bn:aG→Int→V1→Option fv) (k0:aG→V1→Option R) (x0:aG):Option R:=
(Qb bn k0 x0)
theorem aGv (bn) (h19:(j8 bn).holds cl) (x0):exec cl N K7 [(0,.loc bl .no x0)] K=(Qc bn (fun y0 y1=>K .ret (Oq y0 y1)) x0):=by
 simp only [aM,aP,aO,aQ,aGu bn h19,bg]
 rfl
theorem azl (y0 y1):au d46 .ret (Oq y0 y1)=some [.loc bl .no y0,.v .str y1]:=by kernel_rfl
def Hm (bn:aG→Int→V1→Option fv) (x0:aG) (k:aG→V1→Option R):Option R:=
(Qc bn k x0)
theorem aj4 (bn) (h19:(j8 bn).holds cl) (x0) (k:List E→Option R):exec cl N K6 [(0,.loc bl .no x0)] (fun e env=>(au d46 e env).bind k)=Hm bn x0 (fun r0 r1=>k [.loc bl .no r0,.v .str r1]):=by
 simp only [K6,aGv bn h19,azl,ah]
 rfl
def nE (S:aG→Option fv):a7:={A:=aG×Unit,B:=aG×V1,f:=46,enc:=fun a=> [.loc bl .no a.1],dec:=(bZ (tq .no bl) dZ),S:=fun a=>S a.1,ag:=fun b=> [.loc bl .no b.1,.v .str b.2],ok:=(N7 (o:=.no) (T:=bl) (fun es b h=>iv h))}
def bV (N:Nat) (x0:aG):Option fv:=Hm (bn N) x0 (fun (r0:aG) (r1:V1)=>some (r0,r1))
def nR (bn:aG→Int→V1→Option fv) (cU:V1→Option V3) (k0:aG→ay→ay→V1→Option R) (x0:aG):Option R:=
(bn x0 (1:Int) ([]:List UInt8)).bind fun r736=>
(bn r736.1 (2:Int) ([]:List UInt8)).bind fun r737=>
(cU r737.2).bind fun r738=>
k0 r737.1 ((0:Int),((0:Int),([],()))) ((0:Int),(r738.1,([],()))) r736.2
theorem aDF (bn) (cU) (h19:(j8 bn).holds cl) (h45:(qY cU).holds cl) (x0):exec cl N JS [(0,.loc bl .no x0)] K=(nR bn cU (fun y0 y1 y2 y3=>exec cl N (.seq DL JR) (gq y0 y1 y2 y3) K) x0):=by
 rw [←put_eq h19]
 rw [←put_eq h45]
 kernel_rfl
def nT (aL:aG→Int→V1→Option (Bool)) (k0:aG→ay→ay→V1→Bool→Option R) (x0:aG) (x1 x2:ay) (x3:V1):Option R:=
(aL x0 (1:Int) ([105,110]:List UInt8)).bind fun r739=>
al r739 (k0 x0 x1 x2 x3 (!x0.2.2.1)) (k0 x0 x1 x2 x3 false)
theorem aDH (aL) (h20:(gL aL).holds cl) (x0 x1 x2 x3):exec cl N Vn (gq x0 x1 x2 x3) K=(nT aL (fun y0 y1 y2 y3 y4=>K .normal (FI y0 y1 y2 y3 y4)) x0 x1 x2 x3):=by
 rw [←put_eq h20]
 kernel_rfl
def nO (bV:aG→Option fv) (k0:aG→ay→ay→V1→Option R) (x0:aG) (x1 x2:ay) (x3:V1) (x4:Bool):Option R:=
(bV (x0.1,((IntKind.i64.wrap (x0.2.1+(1:Int))),x0.2.2))).bind fun r742=>
if x2.2.2.1.length+[r742.2].length≤8796093022208 then
k0 r742.1 x1 (x2.1,(x2.2.1,((x2.2.2.1++[r742.2]),x2.2.2.2))) x3
else none
theorem aDC (bV) (h46:(nE bV).holds cl) (x0 x1 x2 x3 x4):exec cl N Vl (FI x0 x1 x2 x3 x4) K=(nO bV (fun y0 y1 y2 y3=>exec cl N JQ (gq y0 y1 y2 y3) K) x0 x1 x2 x3 x4):=by
 rw [←put_eq h46]
 kernel_rfl
theorem CG (x0 x1 x2 x3):ae [0,2,4,5] (gq x0 x1 x2 x3)=(gq x0 x1 x2 x3):=by kernel_rfl
def nU (aL:aG→Int→V1→Option (Bool)) (k0:aG→ay→ay→V1→Bool→Option R) (x0:aG) (x1 x2:ay) (x3:V1):Option R:=
(aL x0 (4:Int) ([44]:List UInt8)).bind fun r743=>
al r743 (k0 x0 x1 x2 x3 (!x0.2.2.1)) (k0 x0 x1 x2 x3 false)
theorem aDI (aL) (h20:(gL aL).holds cl) (x0 x1 x2 x3):exec cl N Vo (gq x0 x1 x2 x3) K=(nU aL (fun y0 y1 y2 y3 y4=>K .normal (Ot y0 y1 y2 y3 y4)) x0 x1 x2 x3):=by
 rw [←put_eq h20]
 kernel_rfl
theorem apo (x0 x1 x2 x3 x4):ae [0,2,4,5] (Ot x0 x1 x2 x3 x4)=(gq x0 x1 x2 x3):=by kernel_rfl
theorem ak9 (x0 x1 x2 x3 x4):aD (ag (Ot x0 x1 x2 x3 x4) (.t 46))=some x4:=by kernel_rfl
def nL (bV:aG→Option fv) (k0:aG→ay→ay→V1→Option R) (x0:aG) (x1 x2:ay) (x3:V1):Option R:=
(bV (x0.1,((IntKind.i64.wrap (x0.2.1+(1:Int))),x0.2.2))).bind fun r746=>
if x2.2.2.1.length+[r746.2].length≤8796093022208 then
k0 r746.1 x1 (x2.1,(x2.2.1,((x2.2.2.1++[r746.2]),x2.2.2.2))) x3
else none
theorem aDz (bV) (h46:(nE bV).holds cl) (x0 x1 x2 x3):exec cl N Vj (gq x0 x1 x2 x3) K=(nL bV (fun y0 y1 y2 y3=>K .normal (gq y0 y1 y2 y3)) x0 x1 x2 x3):=by
 rw [←put_eq h46]
 kernel_rfl
def nM (aL:aG→Int→V1→Option (Bool)) (bV:aG→Option fv) (k0:aG→ay→ay→V1→Option R) (k1:aG→ay→ay→V1→Option R) (x0:aG) (x1 x2:ay) (x3:V1):Option R:=
(nU aL (fun y0 y1 y2 y3 y4=>al y4 ((nL bV k0) y0 y1 y2 y3) (k1 y0 y1 y2 y3)) x0 x1 x2 x3)
theorem aDA (aL) (bV) (h20:(gL aL).holds cl) (h46:(nE bV).holds cl) (x0 x1 x2 x3):exec cl N DK (gq x0 x1 x2 x3) K=(nM aL bV (fun y0 y1 y2 y3=>K .normal (gq y0 y1 y2 y3)) (fun y0 y1 y2 y3=>K (.exit 0) (gq y0 y1 y2 y3)) x0 x1 x2 x3):=by
 simp only [DK,aM,aP,aO,aQ,aDI aL h20,Vp,aF,bf,ak9,ah,ak,aj,bj,cG,apo,Vk,bt,aDz bV h46,bp,bq,bo,CG]
 rfl
def jN {R:Type} (aL:aG→Int→V1→Option (Bool)) (bV:aG→Option fv) (k0:aG→ay→ay→V1→Option R):Nat→aG→ay→ay→V1→Option R
 | 0,_,_,_,_=>none
 | m+1,x0,x1,x2,x3=>(nM aL bV (jN aL bV k0 m) k0 x0 x1 x2 x3)
theorem av5 (aL) (bV) (h20:(gL aL).holds cl) (h46:(nE bV).holds cl):∀ (m) (x0 x1 x2 x3),iter [0,2,4,5] (fun env K=>exec cl N DK env K) K m (gq x0 x1 x2 x3)=jN aL bV (fun y0 y1 y2 y3=>K (.exit 0) (gq y0 y1 y2 y3)) m x0 x1 x2 x3:=by
 intro m
 induction m with
 | zero=>intros; rfl
 | succ m ih=>
   intro x0 x1 x2 x3
   simp only [cA,aDA aL bV h20 h46,cC,cB,cD,CG,ih]
   rfl
def nN (N:Nat) (aL:aG→Int→V1→Option (Bool)) (bV:aG→Option fv) (k0:aG→ay→ay→V1→Option R) (x0:aG) (x1 x2:ay) (x3:V1):Option R:=
jN aL bV k0 N x0 x1 x2 x3
theorem aDB (aL) (bV) (h20:(gL aL).holds cl) (h46:(nE bV).holds cl) (x0 x1 x2 x3):exec cl N JP (gq x0 x1 x2 x3) K=(nN N aL bV (fun y0 y1 y2 y3=>K (.exit 0) (gq y0 y1 y2 y3)) x0 x1 x2 x3):=by
 simp only [JP,aF,cz,CG,av5 aL bV h20 h46,CG]
 rfl
theorem apq (x0 x1 x2 x3 x4):ae [0,2,4,5] (FI x0 x1 x2 x3 x4)=(gq x0 x1 x2 x3):=by kernel_rfl
theorem ala (x0 x1 x2 x3 x4):aD (ag (FI x0 x1 x2 x3 x4) (.t 23))=some x4:=by kernel_rfl
def nP (N:Nat) (aL:aG→Int→V1→Option (Bool)) (bV:aG→Option fv) (k0:aG→ay→ay→V1→Option R) (x0:aG) (x1 x2:ay) (x3:V1):Option R:=
(nT aL (fun y0 y1 y2 y3 y4=>al y4 (nO bV (nN N aL bV k0) y0 y1 y2 y3 y4) (k0 y0 y1 y2 y3)) x0 x1 x2 x3)
theorem aDD (aL) (bV) (h20:(gL aL).holds cl) (h46:(nE bV).holds cl) (x0 x1 x2 x3):exec cl N DL (gq x0 x1 x2 x3) K=(nP N aL bV (fun y0 y1 y2 y3=>K .normal (gq y0 y1 y2 y3)) x0 x1 x2 x3):=by
 simp only [DL,aM,aP,aO,aQ,aDH aL h20,Vm,aF,bf,ala,ah,ak,aj,aDC bV h46,JQ,bt,aDB aL bV h20 h46,bp,bq,bo,CG,bj,apq]
 rfl
def nQ (bn:aG→Int→V1→Option fv) (k0:aG→ay→V1→Option R) (x0:aG) (x1 x2:ay) (x3:V1):Option R:=
(bn x0 (4:Int) ([59]:List UInt8)).bind fun r748=>
k0 r748.1 x2 x3
theorem aDE (bn) (h19:(j8 bn).holds cl) (x0 x1 x2 x3):exec cl N JR (gq x0 x1 x2 x3) K=(nQ bn (fun y0 y1 y2=>exec cl N .ret (Ou y0 y1 y2) K) x0 x1 x2 x3):=by
 rw [←put_eq h19]
 kernel_rfl
def nS (N:Nat) (bn:aG→Int→V1→Option fv) (aL:aG→Int→V1→Option (Bool)) (cU:V1→Option V3) (bV:aG→Option fv) (k0:aG→ay→V1→Option R) (x0:aG):Option R:=
(nR bn cU (nP N aL bV (nQ bn k0)) x0)
theorem aDG (bn) (aL) (cU) (bV) (h19:(j8 bn).holds cl) (h20:(gL aL).holds cl) (h45:(qY cU).holds cl) (h46:(nE bV).holds cl) (x0):exec cl N JS [(0,.loc bl .no x0)] K=(nS N bn aL cU bV (fun y0 y1 y2=>K .ret (Ou y0 y1 y2)) x0):=by
 simp only [aM,aP,aO,aQ,aDF bn cU h19 h45,aDD aL bV h20 h46,aDE bn h19,bg]
 rfl
theorem ayO (y0 y1 y2):au d22 .ret (Ou y0 y1 y2)=some [.loc bl .no y0,.v aw y1,.v .str y2]:=by kernel_rfl
def g22 (N:Nat) (bn:aG→Int→V1→Option fv) (aL:aG→Int→V1→Option (Bool)) (cU:V1→Option V3) (bV:aG→Option fv) (x0:aG) (k:aG→ay→V1→Option R):Option R:=
(nS N bn aL cU bV k x0)
theorem ajK (bn) (aL) (cU) (bV) (h19:(j8 bn).holds cl) (h20:(gL aL).holds cl) (h45:(qY cU).holds cl) (h46:(nE bV).holds cl) (x0) (k:List E→Option R):exec cl N JO [(0,.loc bl .no x0)] (fun e env=>(au d22 e env).bind k)=g22 N bn aL cU bV x0 (fun r0 r1 r2=>k [.loc bl .no r0,.v aw r1,.v .str r2]):=by
 simp only [JO,aDG bn aL cU bV h19 h20 h45 h46,ayO,ah]
 rfl
def qQ (S:aG→Option oO):a7:={A:=aG×Unit,B:=aG×ay×V1,f:=22,enc:=fun a=> [.loc bl .no a.1],dec:=(bZ (tq .no bl) dZ),S:=fun a=>S a.1,ag:=fun b=> [.loc bl .no b.1,.v aw b.2.1,.v .str b.2.2],ok:=(N7 (o:=.no) (T:=bl) (fun es b h=>iv h))}
def ca (N:Nat) (x0:aG):Option oO:=g22 N (bn N) (aL N) (cU N) (bV N) x0 (fun (r0:aG) (r1:ay) (r2:V1)=>some (r0,r1,r2))
def xL (k0:V1→Option R) (x0:V1):Option R:=
k0 x0
theorem aDJ (x0):exec cl N Vq [(0,.v .str x0)] K=(xL (fun y0=>K .normal [(0,.v .str y0)]) x0):=by
 kernel_rfl
def xM (k0:V1→Int→Option R) (x0:V1):Option R:=
k0 x0 (1:Int)
theorem aDK (x0):exec cl N Vr [(0,.v .str x0)] K=(xM (fun y0 y1=>K .normal (aR y0 y1)) x0):=by
 kernel_rfl
theorem agj (x0 x1):ae [0,3] (aR x0 x1)=(aR x0 x1):=by kernel_rfl
def xQ (k0:V1→Int→Bool→Option R) (x0:V1) (x1:Int):Option R:=
k0 x0 x1 (decide (x1≤(12:Int)))
theorem aDO (x0 x1):exec cl N Vu (aR x0 x1) K=(xQ (fun y0 y1 y2=>K .normal (Ov y0 y1 y2)) x0 x1):=by
 kernel_rfl
theorem apr (x0 x1 x2):ae [0,3] (Ov x0 x1 x2)=(aR x0 x1):=by kernel_rfl
theorem alb (x0 x1 x2):aD (ag (Ov x0 x1 x2) (.t 5))=some x2:=by kernel_rfl
def xR (bw:Int→Option V5) (k0:V1→Int→Bool→Option R) (x0:V1) (x1:Int):Option R:=
(bw x1).bind fun r762=>
k0 x0 x1 (r762==x0)
theorem aDP (bw) (h31:(jJ bw).holds cl) (x0 x1):exec cl N Vw (aR x0 x1) K=(xR bw (fun y0 y1 y2=>K .normal (FJ y0 y1 y2)) x0 x1):=by
 rw [←put_eq h31]
 kernel_rfl
def xS (k0:Int→Option R) (x0:V1) (x1:Int) (x2:Bool):Option R:=
k0 x1
theorem aDQ (x0 x1 x2):exec cl N Vx (FJ x0 x1 x2) K=(xS (fun y0=>K .normal [(2,.v U2 y0)]) x0 x1 x2):=by
 kernel_rfl
theorem aps (x0):ae [0,2,3] [(2,.v U2 x0)]=(fi x0):=by kernel_rfl
theorem apt (x0 x1 x2):ae [0,2,3] (FJ x0 x1 x2)=(gM x0 x1):=by kernel_rfl
theorem alc (x0 x1 x2):aD (ag (FJ x0 x1 x2) (.t 11))=some x2:=by kernel_rfl
theorem apu (x0):ae [0,2,3] (fi x0)=(fi x0):=by kernel_rfl
theorem apv (x0 x1):ae [0,2,3] (gM x0 x1)=(gM x0 x1):=by kernel_rfl
def xT (k0:V1→Int→Option R) (x0:V1) (x1:Int):Option R:=
k0 x0 (IntKind.i64.wrap (x1+(1:Int)))
theorem aDR (x0 x1):exec cl N VA (gM x0 x1) K=(xT (fun y0 y1=>K .normal (aR y0 y1)) x0 x1):=by
 kernel_rfl
def xU (bw:Int→Option V5) (k0:Int→Option R) (k1:V1→Int→Option R) (k2:V1→Int→Option R) (x0:V1) (x1:Int):Option R:=
(xQ (fun y0 y1 y2=>al y2 ((xR bw (fun y0 y1 y2=>al y2 (xS k0 y0 y1 y2) (((xT k1)) y0 y1))) y0 y1) (k2 y0 y1)) x0 x1)
theorem aDS (bw) (h31:(jJ bw).holds cl) (x0 x1):exec cl N DM (aR x0 x1) K=(xU bw (fun y0=>K .ret (fi y0)) (fun y0 y1=>K .normal (aR y0 y1)) (fun y0 y1=>K (.exit 0) (aR y0 y1)) x0 x1):=by
 simp only [DM,aM,aP,aO,aQ,aDO,Vv,aF,bf,alb,ah,ak,aj,bj,cG,apr,Vz,bt,aDP bw h31,Vy,alc,aDQ,bg,aps,apt,bp,bq,bo,apu,apv,aDR]
 rfl
def uD {R:Type} (bw:Int→Option V5) (k0:Int→Option R) (k1:V1→Int→Option R):Nat→V1→Int→Option R
 | 0,_,_=>none
 | m+1,x0,x1=>(xU bw k0 (uD bw k0 k1 m) k1 x0 x1)
theorem av6 (bw) (h31:(jJ bw).holds cl):∀ (m) (x0 x1),iter [0,3] (fun env K=>exec cl N DM env K) K m (aR x0 x1)=uD bw (fun y0=>K .ret (fi y0)) (fun y0 y1=>K (.exit 0) (aR y0 y1)) m x0 x1:=by
 intro m
 induction m with
 | zero=>intros; rfl
 | succ m ih=>
   intro x0 x1
   simp only [cA,aDS bw h31,cC,cB,cD,agj,ih]
   rfl
theorem apw (x0):ae [2] (fi x0)=[(2,.v U2 x0)]:=by kernel_rfl
theorem apx (x0 x1):ae [2] (aR x0 x1)=[(2,.dead)]:=by kernel_rfl
def xN (N:Nat) (bw:Int→Option V5) (k0:Int→Option R) (k1:Option R) (x0:V1) (x1:Int):Option R:=
uD bw k0 (fun y0 y1=>k1) N x0 x1
theorem aDL (bw) (h31:(jJ bw).holds cl) (x0 x1):exec cl N JU (aR x0 x1) K=(xN N bw (fun y0=>K .ret [(2,.v U2 y0)]) (K (.exit 0) [(2,.dead)]) x0 x1):=by
 simp only [JU,aF,cz,agj,av6 bw h31,apw,apx]
 rfl
theorem apy (x0):ae [2] [(2,.v U2 x0)]=[(2,.v U2 x0)]:=by kernel_rfl
theorem apz:ae [2] [(2,.dead)]=[(2,.dead)]:=by kernel_rfl
def xO (k0:Int→Option R):Option R:=
k0 (0:Int)
theorem aDM:exec cl N Vt [(2,.dead)] K=(xO (fun y0=>K .normal [(2,.v U2 y0)])):=by
 kernel_rfl
def xP (N:Nat) (bw:Int→Option V5) (k0:Int→Option R) (x0:V1):Option R:=
(xL (xM (xN N bw k0 (xO k0))) x0)
theorem aDN (bw) (h31:(jJ bw).holds cl) (x0):exec cl N JV [(0,.v .str x0)] K=(xP N bw (fun y0=>K .ret [(2,.v U2 y0)]) x0):=by
 simp only [JV,aM,aP,aO,aQ,aDJ,aDK,Vs,aF,bt,aDL bw h31,bp,bq,bo,apy,apz,aDM,bg]
 rfl
theorem ayP (y0):au d23 .ret [(2,.v U2 y0)]=some [.v U2 y0]:=by kernel_rfl
def g23 (N:Nat) (bw:Int→Option V5) (x0:V1) (k:Int→Option R):Option R:=
(xP N bw k x0)
theorem ajL (bw) (h31:(jJ bw).holds cl) (x0) (k:List E→Option R):exec cl N JT [(0,.v .str x0)] (fun e env=>(au d23 e env).bind k)=g23 N bw x0 (fun r0=>k [.v U2 r0]):=by
 simp only [JT,aDN bw h31,ayP,ah]
 rfl
def qR (S:V1→Option (Int)):a7:=cw 23 .str S fun b=> [.v U2 b]
def cy (N:Nat) (x0:V1):Option (Int):=g23 N (bw N) x0 (fun (r0:Int)=>some (r0))
def iT (fJ:V1→Option mb) (k0:ad→aq→Int→Int→Option R) (x0:V1):Option R:=
(fJ x0).bind fun r774=>
k0 ([],([],())) r774.1 r774.2.1 r774.2.2
theorem aJT (fJ) (h18:(EA fJ).holds cl) (x0):exec cl N MJ [(0,.v .str x0)] K=(iT fJ (fun y0 y1 y2 y3=>exec cl N (.seq (.seq Mu ME) MI) (adX y0 y1 y2 y3) K) x0):=by
 rw [←put_eq h18]
 kernel_rfl
def iC (k0:ad→aq→Int→Int→Bool→Option R) (x0:ad) (x1:aq) (x2 x3:Int):Option R:=
k0 x0 x1 x2 x3 (x3 != (0:Int))
theorem aJC (x0 x1 x2 x3):exec cl N Mu (adX x0 x1 x2 x3) K=(iC (fun y0 y1 y2 y3 y4=>K .normal (FK y0 y1 y2 y3 y4)) x0 x1 x2 x3):=by
 kernel_rfl
def iJ (k0:ad→Int→Int→Option R) (x0:ad) (x1:aq) (x2 x3:Int) (x4:Bool):Option R:=
k0 ([],[],()) x2 x3
theorem aJJ (x0 x1 x2 x3 x4):exec cl N aa9 (FK x0 x1 x2 x3 x4) K=(iJ (fun y0 y1 y2=>K .normal (mq y0 y1 y2)) x0 x1 x2 x3 x4):=by
 kernel_rfl
theorem as5 (x0 x1 x2):ae [2,3,4,5] (mq x0 x1 x2)=(tC x0 x1 x2):=by kernel_rfl
theorem as6 (x0 x1 x2 x3 x4):ae [2,3,4,5] (FK x0 x1 x2 x3 x4)=(adY x0 x1):=by kernel_rfl
theorem amF (x0 x1 x2 x3 x4):aD (ag (FK x0 x1 x2 x3 x4) (.t 24))=some x4:=by kernel_rfl
def iS (bn:aG→Int→V1→Option fv) (k0:ad→aq→ad→V6→V0→aG→Option R) (x0:ad) (x1:aq):Option R:=
(bn (x1,(0:Int),false,()) (1:Int) ([108,105,99,101,110,99,101]:List UInt8)).bind fun r786=>
(bn r786.1 (1:Int) ([]:List UInt8)).bind fun r787=>
(bn r787.1 (4:Int) ([123]:List UInt8)).bind fun r788=>
k0 x0 x1 (r787.2,([],())) [] [] r788.1
theorem aJS (bn) (h19:(j8 bn).holds cl) (x0 x1):exec cl N MI (adY x0 x1) K=(iS bn (fun y0 y1 y2 y3 y4 y5=>exec cl N (.seq Mw (.seq Mx (.seq (.seq My Mz) (.seq (.seq MA MD) (.seq MG (.seq MH .ret)))))) (gY y0 y1 y2 y3 y4 y5) K) x0 x1):=by
 rw [←put_eq h19]
 kernel_rfl
theorem CK (x0 x1 x2 x3 x4 x5):ae [2,5,8,9,10,11,30] (gY x0 x1 x2 x3 x4 x5)=(gY x0 x1 x2 x3 x4 x5):=by kernel_rfl
def iz (aL:aG→Int→V1→Option (Bool)) (k0:ad→aq→ad→V6→V0→aG→Bool→Option R) (x0:ad) (x1:aq) (x2:ad) (x3:V6) (x4:V0) (x5:aG):Option R:=
al (!x5.2.2.1) ((aL x5 (4:Int) ([125]:List UInt8)).bind fun r789=>
k0 x0 x1 x2 x3 x4 x5 (!r789)) (k0 x0 x1 x2 x3 x4 x5 false)
theorem aJz (aL) (h20:(gL aL).holds cl) (x0 x1 x2 x3 x4 x5):exec cl N aa2 (gY x0 x1 x2 x3 x4 x5) K=(iz aL (fun y0 y1 y2 y3 y4 y5 y6=>K .normal (Ow y0 y1 y2 y3 y4 y5 y6)) x0 x1 x2 x3 x4 x5):=by
 rw [←put_eq h20]
 kernel_rfl
theorem atf (x0 x1 x2 x3 x4 x5 x6):ae [2,5,8,9,10,11,30] (Ow x0 x1 x2 x3 x4 x5 x6)=(gY x0 x1 x2 x3 x4 x5):=by kernel_rfl
theorem amG (x0 x1 x2 x3 x4 x5 x6):aD (ag (Ow x0 x1 x2 x3 x4 x5 x6) (.t 47))=some x6:=by kernel_rfl
def iA (bY:aG→Option (Int)) (ca:aG→Option oO) (k0:ad→aq→ad→V6→V0→aG→Option R) (x0:ad) (x1:aq) (x2:ad) (x3:V6) (x4:V0) (x5:aG):Option R:=
(bY x5).bind fun r793=>
if x4.length+[r793].length≤17592186044416 then
(ca x5).bind fun r794=>
if x2.2.1.length+[r794.2.1].length≤3518437208883 then
if x3.length+[r794.2.2].length≤8796093022208 then
k0 x0 x1 (x2.1,((x2.2.1++[r794.2.1]),x2.2.2)) (x3++[r794.2.2]) (x4++[r793]) r794.1
else none
else none
else none
theorem aJA (bY) (ca) (h21:(oV bY).holds cl) (h22:(qQ ca).holds cl) (x0 x1 x2 x3 x4 x5):exec cl N aa4 (gY x0 x1 x2 x3 x4 x5) K=(iA bY ca (fun y0 y1 y2 y3 y4 y5=>K .normal (gY y0 y1 y2 y3 y4 y5)) x0 x1 x2 x3 x4 x5):=by
 rw [←put_eq h21]
 rw [←put_eq h22]
 kernel_rfl
def iB (aL:aG→Int→V1→Option (Bool)) (bY:aG→Option (Int)) (ca:aG→Option oO) (k0:ad→aq→ad→V6→V0→aG→Option R) (k1:ad→aq→ad→V6→V0→aG→Option R) (x0:ad) (x1:aq) (x2:ad) (x3:V6) (x4:V0) (x5:aG):Option R:=
(iz aL (fun y0 y1 y2 y3 y4 y5 y6=>al y6 ((iA bY ca k0) y0 y1 y2 y3 y4 y5) (k1 y0 y1 y2 y3 y4 y5)) x0 x1 x2 x3 x4 x5)
theorem aJB (aL) (bY) (ca) (h20:(gL aL).holds cl) (h21:(oV bY).holds cl) (h22:(qQ ca).holds cl) (x0 x1 x2 x3 x4 x5):exec cl N D9 (gY x0 x1 x2 x3 x4 x5) K=(iB aL bY ca (fun y0 y1 y2 y3 y4 y5=>K .normal (gY y0 y1 y2 y3 y4 y5)) (fun y0 y1 y2 y3 y4 y5=>K (.exit 0) (gY y0 y1 y2 y3 y4 y5)) x0 x1 x2 x3 x4 x5):=by
 simp only [D9,aM,aP,aO,aQ,aJz aL h20,aa3,aF,bf,amG,ah,ak,aj,bj,cG,atf,aa5,bt,aJA bY ca h21 h22,bp,bq,bo,CK]
 rfl
def ic {R:Type} (aL:aG→Int→V1→Option (Bool)) (bY:aG→Option (Int)) (ca:aG→Option oO) (k0:ad→aq→ad→V6→V0→aG→Option R):Nat→ad→aq→ad→V6→V0→aG→Option R
 | 0,_,_,_,_,_,_=>none
 | m+1,x0,x1,x2,x3,x4,x5=>(iB aL bY ca (ic aL bY ca k0 m) k0 x0 x1 x2 x3 x4 x5)
theorem aws (aL) (bY) (ca) (h20:(gL aL).holds cl) (h21:(oV bY).holds cl) (h22:(qQ ca).holds cl):∀ (m) (x0 x1 x2 x3 x4 x5),iter [2,5,8,9,10,11,30] (fun env K=>exec cl N D9 env K) K m (gY x0 x1 x2 x3 x4 x5)=ic aL bY ca (fun y0 y1 y2 y3 y4 y5=>K (.exit 0) (gY y0 y1 y2 y3 y4 y5)) m x0 x1 x2 x3 x4 x5:=by
 intro m
 induction m with
 | zero=>intros; rfl
 | succ m ih=>
   intro x0 x1 x2 x3 x4 x5
   simp only [cA,aJB aL bY ca h20 h21 h22,cC,cB,cD,CK,ih]
   rfl
def iD (N:Nat) (aL:aG→Int→V1→Option (Bool)) (bY:aG→Option (Int)) (ca:aG→Option oO) (k0:ad→aq→ad→V6→V0→aG→Option R) (x0:ad) (x1:aq) (x2:ad) (x3:V6) (x4:V0) (x5:aG):Option R:=
ic aL bY ca k0 N x0 x1 x2 x3 x4 x5
theorem aJD (aL) (bY) (ca) (h20:(gL aL).holds cl) (h21:(oV bY).holds cl) (h22:(qQ ca).holds cl) (x0 x1 x2 x3 x4 x5):exec cl N Mv (gY x0 x1 x2 x3 x4 x5) K=(iD N aL bY ca (fun y0 y1 y2 y3 y4 y5=>K (.exit 0) (gY y0 y1 y2 y3 y4 y5)) x0 x1 x2 x3 x4 x5):=by
 simp only [Mv,aF,cz,CK,aws aL bY ca h20 h21 h22,CK]
 rfl
def iE (bn:aG→Int→V1→Option fv) (k0:ad→aq→ad→V6→V0→aG→Option R) (x0:ad) (x1:aq) (x2:ad) (x3:V6) (x4:V0) (x5:aG):Option R:=
(bn x5 (4:Int) ([125]:List UInt8)).bind fun r795=>
k0 x0 x1 x2 x3 x4 r795.1
theorem aJE (bn) (h19:(j8 bn).holds cl) (x0 x1 x2 x3 x4 x5):exec cl N Mx (gY x0 x1 x2 x3 x4 x5) K=(iE bn (fun y0 y1 y2 y3 y4 y5=>K .normal (gY y0 y1 y2 y3 y4 y5)) x0 x1 x2 x3 x4 x5):=by
 rw [←put_eq h19]
 kernel_rfl
def iF (k0:ad→ad→V6→V0→aG→Bool→Option R) (x0:ad) (x1:aq) (x2:ad) (x3:V6) (x4:V0) (x5:aG):Option R:=
al x5.2.2.1 (k0 x0 x2 x3 x4 x5 true) (k0 x0 x2 x3 x4 x5 (decide (x5.2.1 < (x1.length:Int))))
theorem aJF (x0 x1 x2 x3 x4 x5):exec cl N My (gY x0 x1 x2 x3 x4 x5) K=(iF (fun y0 y1 y2 y3 y4 y5=>K .normal (FL y0 y1 y2 y3 y4 y5)) x0 x1 x2 x3 x4 x5):=by
 kernel_rfl
def iG (bY:aG→Option (Int)) (k0:ad→Int→Int→Option R) (x0 x1:ad) (x2:V6) (x3:V0) (x4:aG) (x5:Bool):Option R:=
(bY x4).bind fun r797=>
k0 ([],[],()) r797 (2:Int)
theorem aJG (bY) (h21:(oV bY).holds cl) (x0 x1 x2 x3 x4 x5):exec cl N aa6 (FL x0 x1 x2 x3 x4 x5) K=(iG bY (fun y0 y1 y2=>K .normal (mq y0 y1 y2)) x0 x1 x2 x3 x4 x5):=by
 rw [←put_eq h21]
 kernel_rfl
theorem atg (x0 x1 x2):ae [2,3,4,9,10,11] (mq x0 x1 x2)=(Ox x0 x1 x2):=by kernel_rfl
theorem ath (x0 x1 x2 x3 x4 x5):ae [2,3,4,9,10,11] (FL x0 x1 x2 x3 x4 x5)=(adZ x0 x1 x2 x3):=by kernel_rfl
theorem amH (x0 x1 x2 x3 x4 x5):aD (ag (FL x0 x1 x2 x3 x4 x5) (.t 82))=some x5:=by kernel_rfl
def iH (k0:ad→ad→V6→V0→Int→Int→Option R) (x0 x1:ad) (x2:V6) (x3:V0):Option R:=
k0 x0 x1 x2 x3 (x2.length:Int) (0:Int)
theorem aJH (x0 x1 x2 x3):exec cl N MA (adZ x0 x1 x2 x3) K=(iH (fun y0 y1 y2 y3 y4 y5=>K .normal (jh y0 y1 y2 y3 y4 y5)) x0 x1 x2 x3):=by
 kernel_rfl
theorem ags (x0 x1 x2 x3 x4 x5):ae [2,9,10,11,86,87,88] (jh x0 x1 x2 x3 x4 x5)=(jh x0 x1 x2 x3 x4 x5):=by kernel_rfl
def iI (k0:ad→ad→V6→V0→Int→Int→Bool→Option R) (x0 x1:ad) (x2:V6) (x3:V0) (x4 x5:Int):Option R:=
k0 x0 x1 x2 x3 x4 x5 (decide (x5 < x4))
theorem aJI (x0 x1 x2 x3 x4 x5):exec cl N aa7 (jh x0 x1 x2 x3 x4 x5) K=(iI (fun y0 y1 y2 y3 y4 y5 y6=>K .normal (Oy y0 y1 y2 y3 y4 y5 y6)) x0 x1 x2 x3 x4 x5):=by
 kernel_rfl
theorem ati (x0 x1 x2 x3 x4 x5 x6):ae [2,9,10,11,86,87,88] (Oy x0 x1 x2 x3 x4 x5 x6)=(jh x0 x1 x2 x3 x4 x5):=by kernel_rfl
theorem amI (x0 x1 x2 x3 x4 x5 x6):aD (ag (Oy x0 x1 x2 x3 x4 x5 x6) (.t 89))=some x6:=by kernel_rfl
def iL (cy:V1→Option (Int)) (k0:ad→ad→V6→V0→Int→Int→Int→Bool→Option R) (x0 x1:ad) (x2:V6) (x3:V0) (x4 x5:Int):Option R:=
if 0≤x5∧x5 < (x2.length:Int) then
if x5.toNat < x2.length then
(cy (x2.getD x5.toNat [])).bind fun r803=>
if 0≤x5∧x5 < (x1.2.1.length:Int) then
if x5.toNat < x1.2.1.length then
if 0≤x5∧x5 < ((x1.2.1.set x5.toNat (r803,(x1.2.1.getD x5.toNat ((0:Int),((0:Int),([],())))).2)).length:Int) then
if x5.toNat < (x1.2.1.set x5.toNat (r803,(x1.2.1.getD x5.toNat ((0:Int),((0:Int),([],())))).2)).length then
k0 x0 (x1.1,((x1.2.1.set x5.toNat (r803,(x1.2.1.getD x5.toNat ((0:Int),((0:Int),([],())))).2)),x1.2.2)) x2 x3 x5 x4 x5 ((((x1.2.1.set x5.toNat (r803,(x1.2.1.getD x5.toNat ((0:Int),((0:Int),([],())))).2)).getD x5.toNat ((0:Int),((0:Int),([],())))).1)==(0:Int))
else none
else none
else none
else none
else none
else none
theorem aJL (cy) (h23:(qR cy).holds cl) (x0 x1 x2 x3 x4 x5):exec cl N abb (jh x0 x1 x2 x3 x4 x5) K=(iL cy (fun y0 y1 y2 y3 y4 y5 y6 y7=>exec cl N MB (FM y0 y1 y2 y3 y4 y5 y6 y7) K) x0 x1 x2 x3 x4 x5):=by
 rw [←put_eq h23]
 kernel_rfl
def iK (k0:ad→Int→Int→Option R) (x0 x1:ad) (x2:V6) (x3:V0) (x4 x5 x6:Int) (x7:Bool):Option R:=
if 0≤x4∧x4 < (x3.length:Int) then
if x4.toNat < x3.length then
k0 ([],[],()) (x3.getD x4.toNat (0:Int)) (9:Int)
else none
else none
theorem aJK (x0 x1 x2 x3 x4 x5 x6 x7):exec cl N aba (FM x0 x1 x2 x3 x4 x5 x6 x7) K=(iK (fun y0 y1 y2=>K .normal (gN y0 y1 y2)) x0 x1 x2 x3 x4 x5 x6 x7):=by
 kernel_rfl
theorem atj (x0 x1 x2):ae [2,3,4,9,10,11,86,87,88] (gN x0 x1 x2)=(tD x0 x1 x2):=by kernel_rfl
theorem atk (x0 x1 x2 x3 x4 x5 x6 x7):ae [2,3,4,9,10,11,86,87,88] (FM x0 x1 x2 x3 x4 x5 x6 x7)=(FN x0 x1 x2 x3 x5 x6):=by kernel_rfl
theorem amJ (x0 x1 x2 x3 x4 x5 x6 x7):aD (ag (FM x0 x1 x2 x3 x4 x5 x6 x7) (.t 106))=some x7:=by kernel_rfl
theorem as7 (x0 x1 x2):ae [2,3,4,9,10,11,86,87,88] (tD x0 x1 x2)=(tD x0 x1 x2):=by kernel_rfl
theorem as8 (x0 x1 x2 x3 x4 x5):ae [2,3,4,9,10,11,86,87,88] (FN x0 x1 x2 x3 x4 x5)=(FN x0 x1 x2 x3 x4 x5):=by kernel_rfl
def iM (k0:ad→ad→V6→V0→Int→Int→Option R) (x0 x1:ad) (x2:V6) (x3:V0) (x4 x5:Int):Option R:=
k0 x0 x1 x2 x3 x4 (IntKind.i64.wrap (x5+(1:Int)))
theorem aJM (x0 x1 x2 x3 x4 x5):exec cl N abd (FN x0 x1 x2 x3 x4 x5) K=(iM (fun y0 y1 y2 y3 y4 y5=>K .normal (jh y0 y1 y2 y3 y4 y5)) x0 x1 x2 x3 x4 x5):=by
 kernel_rfl
def iN (cy:V1→Option (Int)) (k0:ad→Int→Int→Option R) (k1:ad→ad→V6→V0→Int→Int→Option R) (k2:ad→ad→V6→V0→Int→Int→Option R) (x0 x1:ad) (x2:V6) (x3:V0) (x4 x5:Int):Option R:=
(iI (fun y0 y1 y2 y3 y4 y5 y6=>al y6 ((iL cy (fun y0 y1 y2 y3 y4 y5 y6 y7=>al y7 (iK k0 y0 y1 y2 y3 y4 y5 y6 y7) (((iM k1)) y0 y1 y2 y3 y5 y6))) y0 y1 y2 y3 y4 y5) (k2 y0 y1 y2 y3 y4 y5)) x0 x1 x2 x3 x4 x5)
theorem aJN (cy) (h23:(qR cy).holds cl) (x0 x1 x2 x3 x4 x5):exec cl N Ea (jh x0 x1 x2 x3 x4 x5) K=(iN cy (fun y0 y1 y2=>K .ret (tD y0 y1 y2)) (fun y0 y1 y2 y3 y4 y5=>K .normal (jh y0 y1 y2 y3 y4 y5)) (fun y0 y1 y2 y3 y4 y5=>K (.exit 2) (jh y0 y1 y2 y3 y4 y5)) x0 x1 x2 x3 x4 x5):=by
 simp only [Ea,aM,aP,aO,aQ,aJI,aa8,aF,bf,amI,ah,ak,aj,bj,cG,ati,abc,bt,aJL cy h23,MB,amJ,aJK,bg,atj,atk,bp,bq,bo,as7,as8,aJM]
 rfl
def om {R:Type} (cy:V1→Option (Int)) (k0:ad→Int→Int→Option R) (k1:ad→ad→V6→V0→Int→Int→Option R):Nat→ad→ad→V6→V0→Int→Int→Option R
 | 0,_,_,_,_,_,_=>none
 | m+1,x0,x1,x2,x3,x4,x5=>(iN cy k0 (om cy k0 k1 m) k1 x0 x1 x2 x3 x4 x5)
theorem awt (cy) (h23:(qR cy).holds cl):∀ (m) (x0 x1 x2 x3 x4 x5),iter [2,9,10,11,86,87,88] (fun env K=>exec cl N Ea env K) K m (jh x0 x1 x2 x3 x4 x5)=om cy (fun y0 y1 y2=>K .ret (tD y0 y1 y2)) (fun y0 y1 y2 y3 y4 y5=>K (.exit 2) (jh y0 y1 y2 y3 y4 y5)) m x0 x1 x2 x3 x4 x5:=by
 intro m
 induction m with
 | zero=>intros; rfl
 | succ m ih=>
   intro x0 x1 x2 x3 x4 x5
   simp only [cA,aJN cy h23,cC,cB,cD,ags,ih]
   rfl
theorem as9 (x0 x1 x2):ae [2,3,4,9] (tD x0 x1 x2)=(tE x0 x1 x2):=by kernel_rfl
theorem ata (x0 x1 x2 x3 x4 x5):ae [2,3,4,9] (jh x0 x1 x2 x3 x4 x5)=(wg x0 x1):=by kernel_rfl
def iO (N:Nat) (cy:V1→Option (Int)) (k0:ad→Int→Int→Option R) (k1:ad→ad→Option R) (x0 x1:ad) (x2:V6) (x3:V0) (x4 x5:Int):Option R:=
om cy k0 (fun y0 y1 y2 y3 y4 y5=>k1 y0 y1) N x0 x1 x2 x3 x4 x5
theorem aJO (cy) (h23:(qR cy).holds cl) (x0 x1 x2 x3 x4 x5):exec cl N MC (jh x0 x1 x2 x3 x4 x5) K=(iO N cy (fun y0 y1 y2=>K .ret (tE y0 y1 y2)) (fun y0 y1=>K (.exit 2) (wg y0 y1)) x0 x1 x2 x3 x4 x5):=by
 simp only [MC,aF,cz,ags,awt cy h23,as9,ata]
 rfl
theorem atb (x0 x1 x2):ae [2,3,4,9] (tE x0 x1 x2)=(tE x0 x1 x2):=by kernel_rfl
theorem atc (x0 x1):ae [2,3,4,9] (wg x0 x1)=(wg x0 x1):=by kernel_rfl
def iQ (bQ:ad→Option (Int)) (k0:ad→ad→Int→Bool→Option R) (x0 x1:ad):Option R:=
(bQ x1).bind fun r809=>
k0 x0 x1 r809 (r809 != (0:Int))
theorem aJQ (bQ) (h13:(mh bQ).holds cl) (x0 x1):exec cl N MG (wg x0 x1) K=(iQ bQ (fun y0 y1 y2 y3=>exec cl N MF (FO y0 y1 y2 y3) K) x0 x1):=by
 rw [←put_eq h13]
 kernel_rfl
def iP (k0:ad→Int→Int→Option R) (x0 x1:ad) (x2:Int) (x3:Bool):Option R:=
k0 ([],[],()) (0:Int) x2
theorem aJP (x0 x1 x2 x3):exec cl N abe (FO x0 x1 x2 x3) K=(iP (fun y0 y1 y2=>K .normal (mq y0 y1 y2)) x0 x1 x2 x3):=by
 kernel_rfl
theorem atd (x0 x1 x2):ae [2,3,4,9] (mq x0 x1 x2)=(Oz x0 x1 x2):=by kernel_rfl
theorem ate (x0 x1 x2 x3):ae [2,3,4,9] (FO x0 x1 x2 x3)=(ad0 x0 x1):=by kernel_rfl
theorem amK (x0 x1 x2 x3):aD (ag (FO x0 x1 x2 x3) (.t 116))=some x3:=by kernel_rfl
def iR (k0:ad→Int→Int→Option R) (x0 x1:ad):Option R:=
k0 x1 (0:Int) (0:Int)
theorem aJR (x0 x1):exec cl N MH (ad0 x0 x1) K=(iR (fun y0 y1 y2=>K .normal (gN y0 y1 y2)) x0 x1):=by
 kernel_rfl
def iU (N:Nat) (bQ:ad→Option (Int)) (fJ:V1→Option mb) (bn:aG→Int→V1→Option fv) (aL:aG→Int→V1→Option (Bool)) (bY:aG→Option (Int)) (ca:aG→Option oO) (cy:V1→Option (Int)) (k0:ad→Int→Int→Option R) (k1:ad→Int→Int→Option R) (k2:ad→Int→Int→Option R) (k3:ad→Int→Int→Option R) (k4:ad→Int→Int→Option R) (x0:V1):Option R:=
(iT fJ (iC (fun y0 y1 y2 y3 y4=>al y4 (iJ k0 y0 y1 y2 y3 y4) ((iS bn (iD N aL bY ca ((iE bn (iF (fun y0 y1 y2 y3 y4 y5=>al y5 (iG bY k1 y0 y1 y2 y3 y4 y5) ((iH (iO N cy k2 ((iQ bQ (fun y0 y1 y2 y3=>al y3 (iP k3 y0 y1 y2 y3) ((iR k4) y0 y1)))))) y0 y1 y2 y3))))))) y0 y1))) x0)
theorem aJU (bQ) (fJ) (bn) (aL) (bY) (ca) (cy) (h13:(mh bQ).holds cl) (h18:(EA fJ).holds cl) (h19:(j8 bn).holds cl) (h20:(gL aL).holds cl) (h21:(oV bY).holds cl) (h22:(qQ ca).holds cl) (h23:(qR cy).holds cl) (x0):exec cl N MJ [(0,.v .str x0)] K=(iU N bQ fJ bn aL bY ca cy (fun y0 y1 y2=>K .ret (tC y0 y1 y2)) (fun y0 y1 y2=>K .ret (Ox y0 y1 y2)) (fun y0 y1 y2=>K .ret (tE y0 y1 y2)) (fun y0 y1 y2=>K .ret (Oz y0 y1 y2)) (fun y0 y1 y2=>K .ret (gN y0 y1 y2)) x0):=by
 simp only [aM,aP,aO,aQ,aJT fJ h18,aJC,ME,aF,bf,amF,ah,ak,aj,aJJ,bg,bj,as5,as6,aJS bn h19,Mw,bt,aJD aL bY ca h20 h21 h22,bp,bq,bo,CK,aJE bn h19,aJF,Mz,amH,aJG bY h21,atg,ath,aJH,MD,aJO cy h23,atb,atc,aJQ bQ h13,MF,amK,aJP,atd,ate,aJR]
 rfl
theorem azV (y0 y1 y2):au d6 .ret (tC y0 y1 y2)=some [.v af y0,.v U2 y1,.v U2 y2]:=by kernel_rfl
theorem azW (y0 y1 y2):au d6 .ret (Ox y0 y1 y2)=some [.v af y0,.v U2 y1,.v U2 y2]:=by kernel_rfl
theorem azX (y0 y1 y2):au d6 .ret (tE y0 y1 y2)=some [.v af y0,.v U2 y1,.v U2 y2]:=by kernel_rfl
theorem azY (y0 y1 y2):au d6 .ret (Oz y0 y1 y2)=some [.v af y0,.v U2 y1,.v U2 y2]:=by kernel_rfl
theorem azZ (y0 y1 y2):au d6 .ret (gN y0 y1 y2)=some [.v af y0,.v U2 y1,.v U2 y2]:=by kernel_rfl
def g6 (N:Nat) (bQ:ad→Option (Int)) (fJ:V1→Option mb) (bn:aG→Int→V1→Option fv) (aL:aG→Int→V1→Option (Bool)) (bY:aG→Option (Int)) (ca:aG→Option oO) (cy:V1→Option (Int)) (x0:V1) (k:ad→Int→Int→Option R):Option R:=
(iU N bQ fJ bn aL bY ca cy k k k k k x0)
theorem akg (bQ) (fJ) (bn) (aL) (bY) (ca) (cy) (h13:(mh bQ).holds cl) (h18:(EA fJ).holds cl) (h19:(j8 bn).holds cl) (h20:(gL aL).holds cl) (h21:(oV bY).holds cl) (h22:(qQ ca).holds cl) (h23:(qR cy).holds cl) (x0) (k:List E→Option R):exec cl N c6 [(0,.v .str x0)] (fun e env=>(au d6 e env).bind k)=g6 N bQ fJ bn aL bY ca cy x0 (fun r0 r1 r2=>k [.v af r0,.v U2 r1,.v U2 r2]):=by
 simp only [c6,aJU bQ fJ bn aL bY ca cy h13 h18 h19 h20 h21 h22 h23,azV,azW,azX,azY,azZ,ah]
 rfl
def oW (S:V1→Option eT):a7:=cw 6 .str S fun b=> [.v af b.1,.v U2 b.2.1,.v U2 b.2.2]
def S6 (N:Nat) (x0:V1):Option eT:=g6 N (bQ N) (fJ N) (bn N) (aL N) (bY N) (ca N) (cy N) x0 (fun (r0:ad) (r1:Int) (r2:Int)=>some (r0,r1,r2))
def yh (k0:V6→V6→Option R) (x0 x1:V6):Option R:=
k0 x0 x1
theorem aEC (x0 x1):exec cl N Wg (wh x0 x1) K=(yh (fun y0 y1=>K .normal (wh y0 y1)) x0 x1):=by
 kernel_rfl
def yi (k0:V6→V6→Bool→Option R) (x0 x1:V6):Option R:=
k0 x0 x1 ((x0.length:Int) != (x1.length:Int))
theorem aED (x0 x1):exec cl N Wh (wh x0 x1) K=(yi (fun y0 y1 y2=>K .normal (FP y0 y1 y2)) x0 x1):=by
 kernel_rfl
def yo (k0:Bool→Option R) (x0 x1:V6) (x2:Bool):Option R:=
k0 false
theorem aEJ (x0 x1 x2):exec cl N Wm (FP x0 x1 x2) K=(yo (fun y0=>K .normal [(4,.v .bool y0)]) x0 x1 x2):=by
 kernel_rfl
theorem ap5 (x0):ae [0,1,4] [(4,.v .bool x0)]=(OA x0):=by kernel_rfl
theorem ap6 (x0 x1 x2):ae [0,1,4] (FP x0 x1 x2)=[(0,.v U0 x0),(1,.v U0 x1),(4,.dead)]:=by kernel_rfl
theorem alq (x0 x1 x2):aD (ag (FP x0 x1 x2) (.t 10))=some x2:=by kernel_rfl
def yp (k0:V6→V6→Int→Option R) (x0 x1:V6):Option R:=
k0 x0 x1 (0:Int)
theorem aEK (x0 x1):exec cl N Wo [(0,.v U0 x0),(1,.v U0 x1),(4,.dead)] K=(yp (fun y0 y1 y2=>K .normal (jj y0 y1 y2)) x0 x1):=by
 kernel_rfl
theorem agm (x0 x1 x2):ae [0,1,5] (jj x0 x1 x2)=(jj x0 x1 x2):=by kernel_rfl
def yq (k0:V6→V6→Int→Bool→Option R) (x0 x1:V6) (x2:Int):Option R:=
k0 x0 x1 x2 (decide (x2 < (x0.length:Int)))
theorem aEL (x0 x1 x2):exec cl N Wp (jj x0 x1 x2) K=(yq (fun y0 y1 y2 y3=>K .normal (OD y0 y1 y2 y3)) x0 x1 x2):=by
 kernel_rfl
theorem ap9 (x0 x1 x2 x3):ae [0,1,5] (OD x0 x1 x2 x3)=(jj x0 x1 x2):=by kernel_rfl
theorem alr (x0 x1 x2 x3):aD (ag (OD x0 x1 x2 x3) (.t 14))=some x3:=by kernel_rfl
def yr (k0:V6→V6→Int→Bool→Option R) (x0 x1:V6) (x2:Int):Option R:=
if 0≤x2∧x2 < (x0.length:Int) then
if 0≤x2∧x2 < (x1.length:Int) then
k0 x0 x1 x2 ((x0.getD x2.toNat []) != (x1.getD x2.toNat []))
else none
else none
theorem aEM (x0 x1 x2):exec cl N Wr (jj x0 x1 x2) K=(yr (fun y0 y1 y2 y3=>K .normal (FQ y0 y1 y2 y3)) x0 x1 x2):=by
 kernel_rfl
def yu (k0:Bool→Option R) (x0 x1:V6) (x2:Int) (x3:Bool):Option R:=
k0 false
theorem aEN (x0 x1 x2 x3):exec cl N Ws (FQ x0 x1 x2 x3) K=(yu (fun y0=>K .normal [(4,.v .bool y0)]) x0 x1 x2 x3):=by
 kernel_rfl
theorem aqa (x0):ae [0,1,4,5] [(4,.v .bool x0)]=(kg x0):=by kernel_rfl
theorem aqb (x0 x1 x2 x3):ae [0,1,4,5] (FQ x0 x1 x2 x3)=(FR x0 x1 x2):=by kernel_rfl
theorem als (x0 x1 x2 x3):aD (ag (FQ x0 x1 x2 x3) (.t 25))=some x3:=by kernel_rfl
theorem aqc (x0):ae [0,1,4,5] (kg x0)=(kg x0):=by kernel_rfl
theorem aqd (x0 x1 x2):ae [0,1,4,5] (FR x0 x1 x2)=(FR x0 x1 x2):=by kernel_rfl
def yj (k0:V6→V6→Int→Option R) (x0 x1:V6) (x2:Int):Option R:=
k0 x0 x1 (IntKind.i64.wrap (x2+(1:Int)))
theorem aEE (x0 x1 x2):exec cl N Wj (FR x0 x1 x2) K=(yj (fun y0 y1 y2=>K .normal (jj y0 y1 y2)) x0 x1 x2):=by
 kernel_rfl
def yk (k0:Bool→Option R) (k1:V6→V6→Int→Option R) (k2:V6→V6→Int→Option R) (x0 x1:V6) (x2:Int):Option R:=
(yq (fun y0 y1 y2 y3=>al y3 ((yr (fun y0 y1 y2 y3=>al y3 (yu k0 y0 y1 y2 y3) (((yj k1)) y0 y1 y2))) y0 y1 y2) (k2 y0 y1 y2)) x0 x1 x2)
theorem aEF (x0 x1 x2):exec cl N DQ (jj x0 x1 x2) K=(yk (fun y0=>K .ret (kg y0)) (fun y0 y1 y2=>K .normal (jj y0 y1 y2)) (fun y0 y1 y2=>K (.exit 0) (jj y0 y1 y2)) x0 x1 x2):=by
 simp only [DQ,aM,aP,aO,aQ,aEL,Wq,aF,bf,alr,ah,ak,aj,bj,cG,ap9,Wi,bt,aEM,Wt,als,aEN,bg,aqa,aqb,bp,bq,bo,aqc,aqd,aEE]
 rfl
def uF {R:Type} (k0:Bool→Option R) (k1:V6→V6→Int→Option R):Nat→V6→V6→Int→Option R
 | 0,_,_,_=>none
 | m+1,x0,x1,x2=>(yk k0 (uF k0 k1 m) k1 x0 x1 x2)
theorem av9:∀ (m) (x0 x1 x2),iter [0,1,5] (fun env K=>exec cl N DQ env K) K m (jj x0 x1 x2)=uF (fun y0=>K .ret (kg y0)) (fun y0 y1 y2=>K (.exit 0) (jj y0 y1 y2)) m x0 x1 x2:=by
 intro m
 induction m with
 | zero=>intros; rfl
 | succ m ih=>
   intro x0 x1 x2
   simp only [cA,aEF,cC,cB,cD,agm,ih]
   rfl
theorem aqe (x0):ae [4] (kg x0)=[(4,.v .bool x0)]:=by kernel_rfl
theorem aqf (x0 x1 x2):ae [4] (jj x0 x1 x2)=[(4,.dead)]:=by kernel_rfl
def yl (N:Nat) (k0:Bool→Option R) (k1:Option R) (x0 x1:V6) (x2:Int):Option R:=
uF k0 (fun y0 y1 y2=>k1) N x0 x1 x2
theorem aEG (x0 x1 x2):exec cl N Kp (jj x0 x1 x2) K=(yl N (fun y0=>K .ret [(4,.v .bool y0)]) (K (.exit 0) [(4,.dead)]) x0 x1 x2):=by
 simp only [Kp,aF,cz,agm,av9,aqe,aqf]
 rfl
theorem ap7 (x0):ae [4] [(4,.v .bool x0)]=[(4,.v .bool x0)]:=by kernel_rfl
theorem ap8:ae [4] [(4,.dead)]=[(4,.dead)]:=by kernel_rfl
def ym (k0:Bool→Option R):Option R:=
k0 true
theorem aEH:exec cl N Wl [(4,.dead)] K=(ym (fun y0=>K .normal [(4,.v .bool y0)])):=by
 kernel_rfl
def yn (N:Nat) (k0:Bool→Option R) (k1:Bool→Option R) (x0 x1:V6):Option R:=
(yh (yi (fun y0 y1 y2=>al y2 (yo k0 y0 y1 y2) ((yp (yl N k1 (ym k1))) y0 y1))) x0 x1)
theorem aEI (x0 x1):exec cl N Kq (wh x0 x1) K=(yn N (fun y0=>K .ret (OA y0)) (fun y0=>K .ret [(4,.v .bool y0)]) x0 x1):=by
 simp only [Kq,aM,aP,aO,aQ,aEC,aED,Wn,aF,bf,alq,ah,ak,aj,aEJ,bg,bj,ap5,ap6,aEK,Wk,bt,aEG,bp,bq,bo,ap7,ap8,aEH]
 rfl
theorem ay2 (y0):au d29 .ret (OA y0)=some [.v .bool y0]:=by kernel_rfl
theorem ay3 (y0):au d29 .ret [(4,.v .bool y0)]=some [.v .bool y0]:=by kernel_rfl
def tU (N:Nat) (x0 x1:V6) (k:Bool→Option R):Option R:=
(yn N k k x0 x1)
theorem ajR (x0 x1) (k:List E→Option R):exec cl N Ko (wh x0 x1) (fun e env=>(au d29 e env).bind k)=tU N x0 x1 (fun r0=>k [.v .bool r0]):=by
 simp only [Ko,aEI,ay2,ay3,ah]
 rfl
def qT (S:V6→V6→Option (Bool)):a7:=jK 29 U0 U0 S fun b=> [.v .bool b]
def cQ (N:Nat) (x0:V6) (x1:V6):Option (Bool):=tU N x0 x1 (fun (r0:Bool)=>some (r0))
def B9 (k0:ad→ad→Option R) (x0 x1:ad):Option R:=
k0 x0 x1
theorem aLV (x0 x1):exec cl N ac0 [(0,.v af x0),(1,.v af x1)] K=(B9 (fun y0 y1=>K .normal [(2,.loc af .no y0),(3,.loc af .no y1)]) x0 x1):=by
 kernel_rfl
def Ca (k0:ad→ad→Bool→Option R) (x0 x1:ad):Option R:=
al (x0.1 != x1.1) (k0 x0 x1 true) (k0 x0 x1 ((x0.2.1.length:Int) != (x1.2.1.length:Int)))
theorem aLW (x0 x1):exec cl N ac1 [(2,.loc af .no x0),(3,.loc af .no x1)] K=(Ca (fun y0 y1 y2=>K .normal (FT y0 y1 y2)) x0 x1):=by
 kernel_rfl
def Ci (k0:Bool→Option R) (x0 x1:ad) (x2:Bool):Option R:=
k0 false
theorem aL3 (x0 x1 x2):exec cl N ac7 (FT x0 x1 x2) K=(Ci (fun y0=>K .normal [(4,.v .bool y0)]) x0 x1 x2):=by
 kernel_rfl
theorem auE (x0):ae [2,3,4] [(4,.v .bool x0)]=(OE x0):=by kernel_rfl
theorem auF (x0 x1 x2):ae [2,3,4] (FT x0 x1 x2)=[(2,.loc af .no x0),(3,.loc af .no x1),(4,.dead)]:=by kernel_rfl
theorem anf (x0 x1 x2):aD (ag (FT x0 x1 x2) (.t 21))=some x2:=by kernel_rfl
def Cj (k0:ad→ad→Int→Option R) (x0 x1:ad):Option R:=
k0 x0 x1 (0:Int)
theorem aL4 (x0 x1):exec cl N ac9 [(2,.loc af .no x0),(3,.loc af .no x1),(4,.dead)] K=(Cj (fun y0 y1 y2=>K .normal (jk y0 y1 y2)) x0 x1):=by
 kernel_rfl
theorem agz (x0 x1 x2):ae [2,3,5] (jk x0 x1 x2)=(jk x0 x1 x2):=by kernel_rfl
def Ck (k0:ad→ad→Int→Bool→Option R) (x0 x1:ad) (x2:Int):Option R:=
k0 x0 x1 x2 (decide (x2 < (x0.2.1.length:Int)))
theorem aL5 (x0 x1 x2):exec cl N ada (jk x0 x1 x2) K=(Ck (fun y0 y1 y2 y3=>K .normal (OF y0 y1 y2 y3)) x0 x1 x2):=by
 kernel_rfl
theorem auI (x0 x1 x2 x3):ae [2,3,5] (OF x0 x1 x2 x3)=(jk x0 x1 x2):=by kernel_rfl
theorem ang (x0 x1 x2 x3):aD (ag (OF x0 x1 x2 x3) (.t 26))=some x3:=by kernel_rfl
def Cb (cQ:V6→V6→Option (Bool)) (k0:ad→ad→Int→Bool→Option R) (x0 x1:ad) (x2:Int):Option R:=
if 0≤x2∧x2 < (x0.2.1.length:Int) then
if 0≤x2∧x2 < (x1.2.1.length:Int) then
al ((x0.2.1.getD x2.toNat ((0:Int),((0:Int),([],())))).1 != (x1.2.1.getD x2.toNat ((0:Int),((0:Int),([],())))).1) (k0 x0 x1 x2 true) (al ((x0.2.1.getD x2.toNat ((0:Int),((0:Int),([],())))).2.1 != (x1.2.1.getD x2.toNat ((0:Int),((0:Int),([],())))).2.1) (k0 x0 x1 x2 true) ((cQ ((x0.2.1.getD x2.toNat ((0:Int),((0:Int),([],())))).2.2.1) ((x1.2.1.getD x2.toNat ((0:Int),((0:Int),([],())))).2.2.1)).bind fun r835=>
k0 x0 x1 x2 (!r835)))
else none
else none
theorem aLX (cQ) (h29:(qT cQ).holds cl) (x0 x1 x2):exec cl N ac2 (jk x0 x1 x2) K=(Cb cQ (fun y0 y1 y2 y3=>exec cl N NK (FU y0 y1 y2 y3) K) x0 x1 x2):=by
 rw [←put_eq h29]
 kernel_rfl
def Cl (k0:Bool→Option R) (x0 x1:ad) (x2:Int) (x3:Bool):Option R:=
k0 false
theorem aL6 (x0 x1 x2 x3):exec cl N ade (FU x0 x1 x2 x3) K=(Cl (fun y0=>K .normal [(4,.v .bool y0)]) x0 x1 x2 x3):=by
 kernel_rfl
theorem auJ (x0):ae [2,3,4,5] [(4,.v .bool x0)]=(tF x0):=by kernel_rfl
theorem auK (x0 x1 x2 x3):ae [2,3,4,5] (FU x0 x1 x2 x3)=(FV x0 x1 x2):=by kernel_rfl
theorem anh (x0 x1 x2 x3):aD (ag (FU x0 x1 x2 x3) (.t 58))=some x3:=by kernel_rfl
theorem auL (x0):ae [2,3,4,5] (tF x0)=(tF x0):=by kernel_rfl
theorem auM (x0 x1 x2):ae [2,3,4,5] (FV x0 x1 x2)=(FV x0 x1 x2):=by kernel_rfl
def Cc (k0:ad→ad→Int→Option R) (x0 x1:ad) (x2:Int):Option R:=
k0 x0 x1 (IntKind.i64.wrap (x2+(1:Int)))
theorem aLY (x0 x1 x2):exec cl N ac4 (FV x0 x1 x2) K=(Cc (fun y0 y1 y2=>K .normal (jk y0 y1 y2)) x0 x1 x2):=by
 kernel_rfl
def Cd (cQ:V6→V6→Option (Bool)) (k0:Bool→Option R) (k1:ad→ad→Int→Option R) (k2:ad→ad→Int→Option R) (x0 x1:ad) (x2:Int):Option R:=
(Ck (fun y0 y1 y2 y3=>al y3 ((Cb cQ (fun y0 y1 y2 y3=>al y3 (Cl k0 y0 y1 y2 y3) (((Cc k1)) y0 y1 y2))) y0 y1 y2) (k2 y0 y1 y2)) x0 x1 x2)
theorem aLZ (cQ) (h29:(qT cQ).holds cl) (x0 x1 x2):exec cl N Ej (jk x0 x1 x2) K=(Cd cQ (fun y0=>K .ret (tF y0)) (fun y0 y1 y2=>K .normal (jk y0 y1 y2)) (fun y0 y1 y2=>K (.exit 0) (jk y0 y1 y2)) x0 x1 x2):=by
 simp only [Ej,aM,aP,aO,aQ,aL5,adb,aF,bf,ang,ah,ak,aj,bj,cG,auI,ac3,bt,aLX cQ h29,NK,anh,aL6,bg,auJ,auK,bp,bq,bo,auL,auM,aLY]
 rfl
def uX {R:Type} (cQ:V6→V6→Option (Bool)) (k0:Bool→Option R) (k1:ad→ad→Int→Option R):Nat→ad→ad→Int→Option R
 | 0,_,_,_=>none
 | m+1,x0,x1,x2=>(Cd cQ k0 (uX cQ k0 k1 m) k1 x0 x1 x2)
theorem awC (cQ) (h29:(qT cQ).holds cl):∀ (m) (x0 x1 x2),iter [2,3,5] (fun env K=>exec cl N Ej env K) K m (jk x0 x1 x2)=uX cQ (fun y0=>K .ret (tF y0)) (fun y0 y1 y2=>K (.exit 0) (jk y0 y1 y2)) m x0 x1 x2:=by
 intro m
 induction m with
 | zero=>intros; rfl
 | succ m ih=>
   intro x0 x1 x2
   simp only [cA,aLZ cQ h29,cC,cB,cD,agz,ih]
   rfl
theorem auN (x0):ae [4] (tF x0)=[(4,.v .bool x0)]:=by kernel_rfl
theorem auO (x0 x1 x2):ae [4] (jk x0 x1 x2)=[(4,.dead)]:=by kernel_rfl
def Ce (N:Nat) (cQ:V6→V6→Option (Bool)) (k0:Bool→Option R) (k1:Option R) (x0 x1:ad) (x2:Int):Option R:=
uX cQ k0 (fun y0 y1 y2=>k1) N x0 x1 x2
theorem aL0 (cQ) (h29:(qT cQ).holds cl) (x0 x1 x2):exec cl N NL (jk x0 x1 x2) K=(Ce N cQ (fun y0=>K .ret [(4,.v .bool y0)]) (K (.exit 0) [(4,.dead)]) x0 x1 x2):=by
 simp only [NL,aF,cz,agz,awC cQ h29,auN,auO]
 rfl
theorem auG (x0):ae [4] [(4,.v .bool x0)]=[(4,.v .bool x0)]:=by kernel_rfl
theorem auH:ae [4] [(4,.dead)]=[(4,.dead)]:=by kernel_rfl
def Cf (k0:Bool→Option R):Option R:=
k0 true
theorem aL1:exec cl N ac6 [(4,.dead)] K=(Cf (fun y0=>K .normal [(4,.v .bool y0)])):=by
 kernel_rfl
def Cg (N:Nat) (cQ:V6→V6→Option (Bool)) (k0:Bool→Option R) (k1:Bool→Option R) (x0 x1:ad):Option R:=
(B9 (Ca (fun y0 y1 y2=>al y2 (Ci k0 y0 y1 y2) ((Cj (Ce N cQ k1 (Cf k1))) y0 y1))) x0 x1)
theorem aL2 (cQ) (h29:(qT cQ).holds cl) (x0 x1):exec cl N NM [(0,.v af x0),(1,.v af x1)] K=(Cg N cQ (fun y0=>K .ret (OE y0)) (fun y0=>K .ret [(4,.v .bool y0)]) x0 x1):=by
 simp only [NM,aM,aP,aO,aQ,aLV,aLW,ac8,aF,bf,anf,ah,ak,aj,aL3,bg,bj,auE,auF,aL4,ac5,bt,aL0 cQ h29,bp,bq,bo,auG,auH,aL1]
 rfl
theorem aAm (y0):au d8 .ret (OE y0)=some [.v .bool y0]:=by kernel_rfl
theorem aAn (y0):au d8 .ret [(4,.v .bool y0)]=some [.v .bool y0]:=by kernel_rfl
def g8 (N:Nat) (cQ:V6→V6→Option (Bool)) (x0 x1:ad) (k:Bool→Option R):Option R:=
(Cg N cQ k k x0 x1)
theorem akz (cQ) (h29:(qT cQ).holds cl) (x0 x1) (k:List E→Option R):exec cl N c8 [(0,.v af x0),(1,.v af x1)] (fun e env=>(au d8 e env).bind k)=g8 N cQ x0 x1 (fun r0=>k [.v .bool r0]):=by
 simp only [c8,aL2 cQ h29,aAm,aAn,ah]
 rfl
def nH (S:ad→ad→Option (Bool)):a7:=jK 8 af af S fun b=> [.v .bool b]
def S8 (N:Nat) (x0:ad) (x1:ad):Option (Bool):=g8 N (cQ N) x0 x1 (fun (r0:Bool)=>some (r0))
def Qv (k0:ad→Option R) (x0:ad):Option R:=
k0 x0
theorem aHh (x0):exec cl N YW [(0,.v af x0)] K=(Qv (fun y0=>K .normal [(1,.loc af .no y0)]) x0):=by
 kernel_rfl
def Qw (S5:Option (Bool)) (fH:ad→Option (Bool)) (k0:ad→Bool→Option R) (x0:ad):Option R:=
(S5).bind fun r838=>
al (!r838) (k0 x0 true) ((fH x0).bind fun r839=>
k0 x0 (!r839))
theorem aHi (S5) (fH) (h5:(nF S5).holds cl) (h10:(Ew fH).holds cl) (x0):exec cl N YX [(1,.loc af .no x0)] K=(Qw S5 fH (fun y0 y1=>K .normal (FX y0 y1)) x0):=by
 rw [←put_eq h5]
 rw [←put_eq h10]
 kernel_rfl
def QB (S5:Option (Bool)) (k0:Bool→Option R) (x0:ad) (x1:Bool):Option R:=
(S5).bind fun r840=>
k0 r840
theorem aHn (S5) (h5:(nF S5).holds cl) (x0 x1):exec cl N Y0 (FX x0 x1) K=(QB S5 (fun y0=>K .normal [(2,.v .bool y0)]) x0 x1):=by
 rw [←put_eq h5]
 kernel_rfl
theorem arJ (x0):ae [1,2] [(2,.v .bool x0)]=[(1,.dead),(2,.v .bool x0)]:=by kernel_rfl
theorem arK (x0 x1):ae [1,2] (FX x0 x1)=(mr x0):=by kernel_rfl
theorem al9 (x0 x1):aD (ag (FX x0 x1) (.t 16))=some x1:=by kernel_rfl
def Qz (S9:ad→Option V7) (fI:ad→Option vO) (fh:ad→Option V7) (k0:ad→V1→Int→V1→Int→Option R) (x0:ad):Option R:=
(fI x0).bind fun r843=>
(S9 r843).bind fun r844=>
(fh x0).bind fun r845=>
k0 x0 r844.1 r844.2 r845.1 r845.2
theorem aHl (S9) (fI) (fh) (h9:(rC S9).holds cl) (h11:(Ey fI).holds cl) (h12:(Ez fh).holds cl) (x0):exec cl N YZ (mr x0) K=(Qz S9 fI fh (fun y0 y1 y2 y3 y4=>exec cl N (.seq (.seq Lt Lu) (.seq (.seq Lv Lq) Lr)) [(1,.loc af .no y0),(3,.v .str y1),(4,.v U2 y2),(5,.v .str y3),(6,.v U2 y4)] K) x0):=by
 rw [←put_eq h9]
 rw [←put_eq h11]
 rw [←put_eq h12]
 kernel_rfl
def QC (bQ:ad→Option (Int)) (bR:ad→Option (Int)) (k0:ad→V1→Int→Bool→Option R) (x0:ad) (x1:V1) (x2:Int) (x3:V1) (x4:Int):Option R:=
(bQ x0).bind fun r846=>
(bR x0).bind fun r847=>
al (r846 != r847) (k0 x0 x1 x2 true) (al (x1 != x3) (k0 x0 x1 x2 true) (k0 x0 x1 x2 (x2 != x4)))
theorem aHo (bQ) (bR) (h13:(mh bQ).holds cl) (h14:(mi bR).holds cl) (x0 x1 x2 x3 x4):exec cl N Lt [(1,.loc af .no x0),(3,.v .str x1),(4,.v U2 x2),(5,.v .str x3),(6,.v U2 x4)] K=(QC bQ bR (fun y0 y1 y2 y3=>K .normal (FY y0 y1 y2 y3)) x0 x1 x2 x3 x4):=by
 rw [←put_eq h13]
 rw [←put_eq h14]
 kernel_rfl
def QD (k0:Bool→Option R) (x0:ad) (x1:V1) (x2:Int) (x3:Bool):Option R:=
k0 false
theorem aHp (x0 x1 x2 x3):exec cl N Y2 (FY x0 x1 x2 x3) K=(QD (fun y0=>K .normal [(2,.v .bool y0)]) x0 x1 x2 x3):=by
 kernel_rfl
theorem arL (x0):ae [1,2,3,4] [(2,.v .bool x0)]=(OG x0):=by kernel_rfl
theorem arM (x0 x1 x2 x3):ae [1,2,3,4] (FY x0 x1 x2 x3)=[(1,.loc af .no x0),(2,.dead),(3,.v .str x1),(4,.v U2 x2)]:=by kernel_rfl
theorem ama (x0 x1 x2 x3):aD (ag (FY x0 x1 x2 x3) (.t 43))=some x3:=by kernel_rfl
def QE (k0:ad→V1→Bool→Option R) (x0:ad) (x1:V1) (x2:Int):Option R:=
k0 x0 x1 (x2 != (0:Int))
theorem aHq (x0 x1 x2):exec cl N Lv [(1,.loc af .no x0),(2,.dead),(3,.v .str x1),(4,.v U2 x2)] K=(QE (fun y0 y1 y2=>K .normal (FZ y0 y1 y2)) x0 x1 x2):=by
 kernel_rfl
def Qx (k0:Bool→Option R) (x0:ad) (x1:V1) (x2:Bool):Option R:=
k0 true
theorem aHj (x0 x1 x2):exec cl N YY (FZ x0 x1 x2) K=(Qx (fun y0=>K .normal [(2,.v .bool y0)]) x0 x1 x2):=by
 kernel_rfl
theorem arN (x0):ae [1,2,3] [(2,.v .bool x0)]=(OH x0):=by kernel_rfl
theorem arO (x0 x1 x2):ae [1,2,3] (FZ x0 x1 x2)=[(1,.loc af .no x0),(2,.dead),(3,.v .str x1)]:=by kernel_rfl
theorem amb (x0 x1 x2):aD (ag (FZ x0 x1 x2) (.t 45))=some x2:=by kernel_rfl
def Qy (S6:V1→Option eT) (S8:ad→ad→Option (Bool)) (k0:Bool→Option R) (x0:ad) (x1:V1):Option R:=
(S6 x1).bind fun r851=>
al (r851.2.2==(0:Int)) (al (r851.2.1==(0:Int)) ((S8 r851.1 x0).bind fun r854=>
k0 r854) (k0 false)) (k0 false)
theorem aHk (S6) (S8) (h6:(oW S6).holds cl) (h8:(nH S8).holds cl) (x0 x1):exec cl N Lr [(1,.loc af .no x0),(2,.dead),(3,.v .str x1)] K=(Qy S6 S8 (fun y0=>exec cl N .ret [(2,.v .bool y0)] K) x0 x1):=by
 rw [←put_eq h6]
 rw [←put_eq h8]
 kernel_rfl
def QA (S5:Option (Bool)) (S6:V1→Option eT) (S8:ad→ad→Option (Bool)) (S9:ad→Option V7) (fH:ad→Option (Bool)) (fI:ad→Option vO) (fh:ad→Option V7) (bQ:ad→Option (Int)) (bR:ad→Option (Int)) (k0:Bool→Option R) (k1:Bool→Option R) (k2:Bool→Option R) (k3:Bool→Option R) (x0:ad):Option R:=
(Qv (Qw S5 fH (fun y0 y1=>al y1 (QB S5 k0 y0 y1) ((Qz S9 fI fh (QC bQ bR (fun y0 y1 y2 y3=>al y3 (QD k1 y0 y1 y2 y3) ((QE (fun y0 y1 y2=>al y2 (Qx k2 y0 y1 y2) ((Qy S6 S8 k3) y0 y1))) y0 y1 y2)))) y0))) x0)
theorem aHm (S5) (S6) (S8) (S9) (fH) (fI) (fh) (bQ) (bR) (h5:(nF S5).holds cl) (h6:(oW S6).holds cl) (h8:(nH S8).holds cl) (h9:(rC S9).holds cl) (h10:(Ew fH).holds cl) (h11:(Ey fI).holds cl) (h12:(Ez fh).holds cl) (h13:(mh bQ).holds cl) (h14:(mi bR).holds cl) (x0):exec cl N Ls [(0,.v af x0)] K=(QA S5 S6 S8 S9 fH fI fh bQ bR (fun y0=>K .ret [(1,.dead),(2,.v .bool y0)]) (fun y0=>K .ret (OG y0)) (fun y0=>K .ret (OH y0)) (fun y0=>K .ret [(2,.v .bool y0)]) x0):=by
 simp only [Ls,aM,aP,aO,aQ,aHh,aHi S5 fH h5 h10,Y1,aF,bf,al9,ah,ak,aj,aHn S5 h5,bg,bj,arJ,arK,aHl S9 fI fh h9 h11 h12,aHo bQ bR h13 h14,Lu,ama,aHp,arL,arM,aHq,Lq,amb,aHj,arN,arO,aHk S6 S8 h6 h8]
 rfl
theorem azr (y0):au d4 .ret [(1,.dead),(2,.v .bool y0)]=some [.v .bool y0]:=by kernel_rfl
theorem azs (y0):au d4 .ret (OG y0)=some [.v .bool y0]:=by kernel_rfl
theorem azt (y0):au d4 .ret (OH y0)=some [.v .bool y0]:=by kernel_rfl
theorem azu (y0):au d4 .ret [(2,.v .bool y0)]=some [.v .bool y0]:=by kernel_rfl
def g4 (S5:Option (Bool)) (S6:V1→Option eT) (S8:ad→ad→Option (Bool)) (S9:ad→Option V7) (fH:ad→Option (Bool)) (fI:ad→Option vO) (fh:ad→Option V7) (bQ:ad→Option (Int)) (bR:ad→Option (Int)) (x0:ad) (k:Bool→Option R):Option R:=
(QA S5 S6 S8 S9 fH fI fh bQ bR k k k k x0)
theorem ajY (S5) (S6) (S8) (S9) (fH) (fI) (fh) (bQ) (bR) (h5:(nF S5).holds cl) (h6:(oW S6).holds cl) (h8:(nH S8).holds cl) (h9:(rC S9).holds cl) (h10:(Ew fH).holds cl) (h11:(Ey fI).holds cl) (h12:(Ez fh).holds cl) (h13:(mh bQ).holds cl) (h14:(mi bR).holds cl) (x0) (k:List E→Option R):exec cl N c4 [(0,.v af x0)] (fun e env=>(au d4 e env).bind k)=g4 S5 S6 S8 S9 fH fI fh bQ bR x0 (fun r0=>k [.v .bool r0]):=by
 simp only [c4,aHm S5 S6 S8 S9 fH fI fh bQ bR h5 h6 h8 h9 h10 h11 h12 h13 h14,azr,azs,azt,azu,ah]
 rfl
def aiO (S:ad→Option (Bool)):a7:=cw 4 af S fun b=> [.v .bool b]
def S4 (N:Nat) (x0:ad):Option (Bool):=g4 (S5 N) (S6 N) (S8 N) (S9 N) (fH N) (fI N) (fh N) (bQ N) (bR N) x0 (fun (r0:Bool)=>some (r0))
def p5 (k0:V1→Int→Option R) (x0:V1):Option R:=
k0 x0 (0:Int)
theorem aGI (x0):exec cl N Le [(0,.v .str x0)] K=(p5 (fun y0 y1=>exec cl N (.seq Lc (.seq Ld .ret)) (aR y0 y1) K) x0):=by
 kernel_rfl
theorem CH (x0 x1):ae [0,3] (aR x0 x1)=(aR x0 x1):=by kernel_rfl
def pT (k0:V1→Int→Bool→Option R) (x0:V1) (x1:Int):Option R:=
k0 x0 x1 (decide (x1 < (x0.length:Int)))
theorem aGC (x0 x1):exec cl N Yh (aR x0 x1) K=(pT (fun y0 y1 y2=>K .normal (OI y0 y1 y2)) x0 x1):=by
 kernel_rfl
theorem arb (x0 x1 x2):ae [0,3] (OI x0 x1 x2)=(aR x0 x1):=by kernel_rfl
theorem alT (x0 x1 x2):aD (ag (OI x0 x1 x2) (.t 7))=some x2:=by kernel_rfl
def p7 (k0:V1→Int→Int→Option R) (x0:V1) (x1:Int):Option R:=
if 0≤x1∧x1 < (x0.length:Int) then
k0 x0 x1 ((x0.getD x1.toNat 0).toNat:Int)
else none
theorem aGK (x0 x1):exec cl N Yp (aR x0 x1) K=(p7 (fun y0 y1 y2=>K .normal (OJ y0 y1 y2)) x0 x1):=by
 kernel_rfl
def p8 (k0:V1→Int→Int→Bool→Option R) (x0:V1) (x1 x2:Int):Option R:=
k0 x0 x1 x2 (x2==(32:Int))
theorem aGL (x0 x1 x2):exec cl N Yq (OJ x0 x1 x2) K=(p8 (fun y0 y1 y2 y3=>K .normal (hX y0 y1 y2 y3)) x0 x1 x2):=by
 kernel_rfl
theorem ari (x0 x1 x2 x3):ae [0,3,10,12] (hX x0 x1 x2 x3)=(hX x0 x1 x2 x3):=by kernel_rfl
def p9 (k0:V1→Int→Int→Bool→Option R) (x0:V1) (x1 x2:Int) (x3:Bool):Option R:=
k0 x0 x1 x2 (x2==(9:Int))
theorem aGM (x0 x1 x2 x3):exec cl N Yr (hX x0 x1 x2 x3) K=(p9 (fun y0 y1 y2 y3=>K .normal (hX y0 y1 y2 y3)) x0 x1 x2 x3):=by
 kernel_rfl
def qa (k0:V1→Int→Int→Bool→Option R) (x0:V1) (x1 x2:Int) (x3:Bool):Option R:=
k0 x0 x1 x2 (x2==(10:Int))
theorem aGN (x0 x1 x2 x3):exec cl N Ys (hX x0 x1 x2 x3) K=(qa (fun y0 y1 y2 y3=>K .normal (hX y0 y1 y2 y3)) x0 x1 x2 x3):=by
 kernel_rfl
def qb (k0:V1→Int→Int→Bool→Option R) (x0:V1) (x1 x2:Int) (x3:Bool):Option R:=
k0 x0 x1 x2 (x2==(13:Int))
theorem aGO (x0 x1 x2 x3):exec cl N Yt (hX x0 x1 x2 x3) K=(qb (fun y0 y1 y2 y3=>K .normal (hX y0 y1 y2 y3)) x0 x1 x2 x3):=by
 kernel_rfl
theorem alU (x0 x1 x2 x3):aD (ag (hX x0 x1 x2 x3) (.t 12))=some x3:=by kernel_rfl
theorem alV (x0 x1 x2 x3):aD (ag (hX x0 x1 x2 x3) (.t 12))=some x3:=by kernel_rfl
theorem alW (x0 x1 x2 x3):aD (ag (hX x0 x1 x2 x3) (.t 12))=some x3:=by kernel_rfl
def pN (k0:V1→Int→Int→Bool→Option R) (x0:V1) (x1 x2:Int):Option R:=
(p8 (fun y0 y1 y2 y3=>al y3 (k0 y0 y1 y2 y3) (p9 (fun y0 y1 y2 y3=>al y3 (k0 y0 y1 y2 y3) (qa (fun y0 y1 y2 y3=>al y3 (k0 y0 y1 y2 y3) (qb k0 y0 y1 y2 y3)) y0 y1 y2 y3)) y0 y1 y2 y3)) x0 x1 x2)
theorem aGw (x0 x1 x2):exec cl N K9 (OJ x0 x1 x2) K=(pN (fun y0 y1 y2 y3=>K .normal (hX y0 y1 y2 y3)) x0 x1 x2):=by
 simp only [K9,aM,aP,aO,aQ,aGL,Ya,aF,bf,alW,ah,ak,aj,bj,aGM,X9,alV,aGN,Yu,alU,aGO,ari]
 rfl
def pO (k0:V1→Int→Option R) (x0:V1) (x1 x2:Int) (x3:Bool):Option R:=
k0 x0 (IntKind.i64.wrap (x1+(1:Int)))
theorem aGx (x0 x1 x2 x3):exec cl N Yb (hX x0 x1 x2 x3) K=(pO (fun y0 y1=>K .normal (aR y0 y1)) x0 x1 x2 x3):=by
 kernel_rfl
theorem arj (x0 x1):ae [0,2,3] (aR x0 x1)=(gM x0 x1):=by kernel_rfl
def pP (k0:V1→Int→Bool→Option R) (x0:V1) (x1 x2:Int) (x3:Bool):Option R:=
k0 x0 x1 (x2==(35:Int))
theorem aGy (x0 x1 x2 x3):exec cl N Yc (hX x0 x1 x2 x3) K=(pP (fun y0 y1 y2=>K .normal (wi y0 y1 y2)) x0 x1 x2 x3):=by
 kernel_rfl
theorem ark (x0 x1 x2):ae [0,3] (wi x0 x1 x2)=(aR x0 x1):=by kernel_rfl
def pQ (k0:V1→Int→Bool→Option R) (x0:V1) (x1:Int):Option R:=
al (decide (x1 < (x0.length:Int))) (if 0≤x1∧x1 < (x0.length:Int) then
k0 x0 x1 (((x0.getD x1.toNat 0).toNat:Int) != (10:Int))
else none) (k0 x0 x1 false)
theorem aGz (x0 x1):exec cl N Yd (aR x0 x1) K=(pQ (fun y0 y1 y2=>K .normal (rE y0 y1 y2)) x0 x1):=by
 kernel_rfl
theorem arl (x0 x1 x2):ae [0,3] (rE x0 x1 x2)=(aR x0 x1):=by kernel_rfl
theorem alX (x0 x1 x2):aD (ag (rE x0 x1 x2) (.t 30))=some x2:=by kernel_rfl
def pR (k0:V1→Int→Option R) (x0:V1) (x1:Int):Option R:=
k0 x0 (IntKind.i64.wrap (x1+(1:Int)))
theorem aGA (x0 x1):exec cl N Yf (aR x0 x1) K=(pR (fun y0 y1=>K .normal (aR y0 y1)) x0 x1):=by
 kernel_rfl
def pS (k0:V1→Int→Option R) (k1:V1→Int→Option R) (x0:V1) (x1:Int):Option R:=
(pQ (fun y0 y1 y2=>al y2 ((pR k0) y0 y1) (k1 y0 y1)) x0 x1)
theorem aGB (x0 x1):exec cl N DW (aR x0 x1) K=(pS (fun y0 y1=>K .normal (aR y0 y1)) (fun y0 y1=>K (.exit 3) (aR y0 y1)) x0 x1):=by
 simp only [DW,aM,aP,aO,aQ,aGz,Ye,aF,bf,alX,ah,ak,aj,bj,cG,arl,Yg,bt,aGA,bp,bq,bo,CH]
 rfl
def uL {R:Type} (k0:V1→Int→Option R):Nat→V1→Int→Option R
 | 0,_,_=>none
 | m+1,x0,x1=>(pS (uL k0 m) k0 x0 x1)
theorem awf:∀ (m) (x0 x1),iter [0,3] (fun env K=>exec cl N DW env K) K m (aR x0 x1)=uL (fun y0 y1=>K (.exit 3) (aR y0 y1)) m x0 x1:=by
 intro m
 induction m with
 | zero=>intros; rfl
 | succ m ih=>
   intro x0 x1
   simp only [cA,aGB,cC,cB,cD,CH,ih]
   rfl
def pU (N:Nat) (k0:V1→Int→Option R) (x0:V1) (x1:Int) (x2:Bool):Option R:=
uL k0 N x0 x1
theorem aGD (x0 x1 x2):exec cl N La (wi x0 x1 x2) K=(pU N (fun y0 y1=>K (.exit 3) (aR y0 y1)) x0 x1 x2):=by
 simp only [La,aF,cz,ark,awf,CH]
 rfl
def pV (k0:Int→Option R) (x0:V1) (x1:Int) (x2:Bool):Option R:=
k0 x1
theorem aGE (x0 x1 x2):exec cl N Yj (wi x0 x1 x2) K=(pV (fun y0=>K .normal [(2,.v U2 y0)]) x0 x1 x2):=by
 kernel_rfl
theorem arn (x0):ae [0,2,3] [(2,.v U2 x0)]=(fi x0):=by kernel_rfl
theorem alY (x0 x1 x2):aD (ag (wi x0 x1 x2) (.t 19))=some x2:=by kernel_rfl
theorem aro (x0 x1):ae [0,2,3] (gM x0 x1)=(gM x0 x1):=by kernel_rfl
theorem arp (x0):ae [0,2,3] (fi x0)=(fi x0):=by kernel_rfl
theorem alZ (x0 x1 x2 x3):aD (ag (hX x0 x1 x2 x3) (.t 12))=some x3:=by kernel_rfl
def pX (N:Nat) (k0:V1→Int→Option R) (k1:Int→Option R) (k2:V1→Int→Option R) (x0:V1) (x1:Int):Option R:=
(pT (fun y0 y1 y2=>al y2 ((p7 (pN (fun y0 y1 y2 y3=>al y3 (pO k0 y0 y1 y2 y3) (pP (fun y0 y1 y2=>al y2 (pU N k0 y0 y1 y2) (pV k1 y0 y1 y2)) y0 y1 y2 y3)))) y0 y1) (k2 y0 y1)) x0 x1)
theorem aGF (x0 x1):exec cl N DX (aR x0 x1) K=(pX N (fun y0 y1=>K .normal (gM y0 y1)) (fun y0=>K .ret (fi y0)) (fun y0 y1=>K (.exit 0) (aR y0 y1)) x0 x1):=by
 simp only [DX,aM,aP,aO,aQ,aGC,Yo,aF,bf,alT,ah,ak,aj,bj,cG,arb,Yn,bt,aGK,Ym,aGw,Yl,alZ,aGx,aGy,Yk,alY,Yi,aGD,bp,bq,bo,CH,aGE,bg,arj,arn,aro,arp]
 rfl
theorem arq (x0 x1):ae [0,3] (gM x0 x1)=(aR x0 x1):=by kernel_rfl
def oj {R:Type} (N:Nat) (k0:Int→Option R) (k1:V1→Int→Option R):Nat→V1→Int→Option R
 | 0,_,_=>none
 | m+1,x0,x1=>(pX N (oj N k0 k1 m) k0 k1 x0 x1)
theorem awg:∀ (m) (x0 x1),iter [0,3] (fun env K=>exec cl N DX env K) K m (aR x0 x1)=oj N (fun y0=>K .ret (fi y0)) (fun y0 y1=>K (.exit 0) (aR y0 y1)) m x0 x1:=by
 intro m
 induction m with
 | zero=>intros; rfl
 | succ m ih=>
   intro x0 x1
   simp only [cA,aGF,cC,cB,cD,arq,ih]
   rfl
theorem arc (x0):ae [2,3] (fi x0)=(kj x0):=by kernel_rfl
theorem ard (x0 x1):ae [2,3] (aR x0 x1)=(mo x1):=by kernel_rfl
def pY (N:Nat) (k0:Int→Option R) (k1:Int→Option R) (x0:V1) (x1:Int):Option R:=
oj N k0 (fun y0 y1=>k1 y1) N x0 x1
theorem aGG (x0 x1):exec cl N Lb (aR x0 x1) K=(pY N (fun y0=>K .ret (kj y0)) (fun y0=>K (.exit 0) (mo y0)) x0 x1):=by
 simp only [Lb,aF,cz,CH,awg,arc,ard]
 rfl
theorem arf (x0):ae [2,3] (kj x0)=(kj x0):=by kernel_rfl
theorem arh (x0):ae [2,3] (mo x0)=(mo x0):=by kernel_rfl
def pZ (k0:Int→Option R) (x0:Int):Option R:=
k0 x0
theorem aGH (x0):exec cl N Ld (mo x0) K=(pZ (fun y0=>K .normal [(2,.v U2 y0)]) x0):=by
 kernel_rfl
def p6 (N:Nat) (k0:Int→Option R) (k1:Int→Option R) (x0:V1):Option R:=
(p5 (pY N k0 ((pZ k1))) x0)
theorem aGJ (x0):exec cl N Le [(0,.v .str x0)] K=(p6 N (fun y0=>K .ret (kj y0)) (fun y0=>K .ret [(2,.v U2 y0)]) x0):=by
 simp only [aM,aP,aO,aQ,aGI,Lc,aF,bt,aGG,bp,bq,bo,arf,arh,aGH,bg]
 rfl
theorem azm (y0):au d47 .ret (kj y0)=some [.v U2 y0]:=by kernel_rfl
theorem azn (y0):au d47 .ret [(2,.v U2 y0)]=some [.v U2 y0]:=by kernel_rfl
def nV (N:Nat) (x0:V1) (k:Int→Option R):Option R:=
(p6 N k k x0)
theorem aj5 (x0) (k:List E→Option R):exec cl N K8 [(0,.v .str x0)] (fun e env=>(au d47 e env).bind k)=nV N x0 (fun r0=>k [.v U2 r0]):=by
 simp only [K8,aGJ,azm,azn,ah]
 rfl
def qZ (S:V1→Option (Int)):a7:=cw 47 .str S fun b=> [.v U2 b]
def cI (N:Nat) (x0:V1):Option (Int):=nV N x0 (fun (r0:Int)=>some (r0))
def zQ (k0:V1→Int→Option R) (x0:V1):Option R:=
k0 x0 (0:Int)
theorem aGS (x0):exec cl N Lj [(0,.v .str x0)] K=(zQ (fun y0 y1=>exec cl N (.seq (.seq Lk Lh) (.seq Li .ret)) (aR y0 y1) K) x0):=by
 kernel_rfl
def zS (k0:V1→Int→Int→Option R) (x0:V1) (x1:Int):Option R:=
k0 x0 x1 (0:Int)
theorem aGU (x0 x1):exec cl N Lk (aR x0 x1) K=(zS (fun y0 y1 y2=>K .normal (gy y0 y1 y2)) x0 x1):=by
 kernel_rfl
theorem Rw (x0 x1 x2):ae [0,3,4] (gy x0 x1 x2)=(gy x0 x1 x2):=by kernel_rfl
def zT (k0:V1→Int→Int→Bool→Option R) (x0:V1) (x1 x2:Int):Option R:=
k0 x0 x1 x2 (decide (x2 < (x0.length:Int)))
theorem aGV (x0 x1 x2):exec cl N Yv (gy x0 x1 x2) K=(zT (fun y0 y1 y2 y3=>K .normal (F0 y0 y1 y2 y3)) x0 x1 x2):=by
 kernel_rfl
theorem ars (x0 x1 x2 x3):ae [0,3,4] (F0 x0 x1 x2 x3)=(gy x0 x1 x2):=by kernel_rfl
theorem al0 (x0 x1 x2 x3):aD (ag (F0 x0 x1 x2 x3) (.t 8))=some x3:=by kernel_rfl
def zU (k0:V1→Int→Int→Bool→Option R) (x0:V1) (x1 x2:Int):Option R:=
if 0≤x2∧x2 < (x0.length:Int) then
k0 x0 x1 x2 (((x0.getD x2.toNat 0).toNat:Int)==(10:Int))
else none
theorem aGW (x0 x1 x2):exec cl N Yx (gy x0 x1 x2) K=(zU (fun y0 y1 y2 y3=>K .normal (F1 y0 y1 y2 y3)) x0 x1 x2):=by
 kernel_rfl
def zV (k0:V1→Int→Int→Option R) (x0:V1) (x1 x2:Int) (x3:Bool):Option R:=
k0 x0 (IntKind.i64.wrap (x1+(1:Int))) x2
theorem aGX (x0 x1 x2 x3):exec cl N Yy (F1 x0 x1 x2 x3) K=(zV (fun y0 y1 y2=>K .normal (gy y0 y1 y2)) x0 x1 x2 x3):=by
 kernel_rfl
theorem art (x0 x1 x2 x3):ae [0,3,4] (F1 x0 x1 x2 x3)=(gy x0 x1 x2):=by kernel_rfl
theorem al1 (x0 x1 x2 x3):aD (ag (F1 x0 x1 x2 x3) (.t 14))=some x3:=by kernel_rfl
def zW (k0:V1→Int→Int→Option R) (x0:V1) (x1 x2:Int):Option R:=
(zU (fun y0 y1 y2 y3=>al y3 (zV k0 y0 y1 y2 y3) (k0 y0 y1 y2)) x0 x1 x2)
theorem aGY (x0 x1 x2):exec cl N Ll (gy x0 x1 x2) K=(zW (fun y0 y1 y2=>K .normal (gy y0 y1 y2)) x0 x1 x2):=by
 simp only [Ll,aF,bt,aM,aP,aO,aQ,aGW,Yz,bf,al1,ah,ak,aj,aGX,bj,Rw,art,bp,bq,bo]
 rfl
def zX (k0:V1→Int→Int→Option R) (x0:V1) (x1 x2:Int):Option R:=
k0 x0 x1 (IntKind.i64.wrap (x2+(1:Int)))
theorem aGZ (x0 x1 x2):exec cl N YA (gy x0 x1 x2) K=(zX (fun y0 y1 y2=>K .normal (gy y0 y1 y2)) x0 x1 x2):=by
 kernel_rfl
def zN (k0:V1→Int→Int→Option R) (k1:V1→Int→Int→Option R) (x0:V1) (x1 x2:Int):Option R:=
(zT (fun y0 y1 y2 y3=>al y3 ((zW (zX k0)) y0 y1 y2) (k1 y0 y1 y2)) x0 x1 x2)
theorem aGP (x0 x1 x2):exec cl N DY (gy x0 x1 x2) K=(zN (fun y0 y1 y2=>K .normal (gy y0 y1 y2)) (fun y0 y1 y2=>K (.exit 0) (gy y0 y1 y2)) x0 x1 x2):=by
 simp only [DY,aM,aP,aO,aQ,aGV,Yw,aF,bf,al0,ah,ak,aj,bj,cG,ars,aGY,aGZ]
 rfl
def sH {R:Type} (k0:V1→Int→Int→Option R):Nat→V1→Int→Int→Option R
 | 0,_,_,_=>none
 | m+1,x0,x1,x2=>(zN (sH k0 m) k0 x0 x1 x2)
theorem awh:∀ (m) (x0 x1 x2),iter [0,3,4] (fun env K=>exec cl N DY env K) K m (gy x0 x1 x2)=sH (fun y0 y1 y2=>K (.exit 0) (gy y0 y1 y2)) m x0 x1 x2:=by
 intro m
 induction m with
 | zero=>intros; rfl
 | succ m ih=>
   intro x0 x1 x2
   simp only [cA,aGP,cC,cB,cD,Rw,ih]
   rfl
theorem aru (x0 x1 x2):ae [3] (gy x0 x1 x2)=[(3,.v U2 x1)]:=by kernel_rfl
def zO (N:Nat) (k0:Int→Option R) (x0:V1) (x1 x2:Int):Option R:=
sH (fun y0 y1 y2=>k0 y1) N x0 x1 x2
theorem aGQ (x0 x1 x2):exec cl N Lg (gy x0 x1 x2) K=(zO N (fun y0=>K (.exit 0) [(3,.v U2 y0)]) x0 x1 x2):=by
 simp only [Lg,aF,cz,Rw,awh,aru]
 rfl
theorem arv (x0):ae [3] [(3,.v U2 x0)]=[(3,.v U2 x0)]:=by kernel_rfl
def zP (k0:Int→Option R) (x0:Int):Option R:=
k0 x0
theorem aGR (x0):exec cl N Li [(3,.v U2 x0)] K=(zP (fun y0=>K .normal [(2,.v U2 y0)]) x0):=by
 kernel_rfl
def zR (N:Nat) (k0:Int→Option R) (x0:V1):Option R:=
(zQ (zS (zO N ((zP k0)))) x0)
theorem aGT (x0):exec cl N Lj [(0,.v .str x0)] K=(zR N (fun y0=>K .ret [(2,.v U2 y0)]) x0):=by
 simp only [aM,aP,aO,aQ,aGS,aGU,Lh,aF,bt,aGQ,bp,bq,bo,arv,aGR,bg]
 rfl
theorem azo (y0):au d48 .ret [(2,.v U2 y0)]=some [.v U2 y0]:=by kernel_rfl
def ua (N:Nat) (x0:V1) (k:Int→Option R):Option R:=
(zR N k x0)
theorem aj6 (x0) (k:List E→Option R):exec cl N Lf [(0,.v .str x0)] (fun e env=>(au d48 e env).bind k)=ua N x0 (fun r0=>k [.v U2 r0]):=by
 simp only [Lf,aGT,azo,ah]
 rfl
def ra (S:V1→Option (Int)):a7:=cw 48 .str S fun b=> [.v U2 b]
def cJ (N:Nat) (x0:V1):Option (Int):=ua N x0 (fun (r0:Int)=>some (r0))
def Be (k0:V1→Int→Option R) (x0:V1):Option R:=
k0 x0 (0:Int)
theorem aI7 (x0):exec cl N Me [(0,.v .str x0)] K=(Be (fun y0 y1=>exec cl N (.seq Mg (.seq Mh .ret)) (aR y0 y1) K) x0):=by
 kernel_rfl
theorem RA (x0 x1):ae [0,3] (aR x0 x1)=(aR x0 x1):=by kernel_rfl
def Bg (bc:Int→Option (Bool)) (k0:V1→Int→Bool→Option R) (x0:V1) (x1:Int):Option R:=
al (decide (x1 < (x0.length:Int))) (if 0≤x1∧x1 < (x0.length:Int) then
(bc ((x0.getD x1.toNat 0).toNat:Int)).bind fun r925=>
k0 x0 x1 r925
else none) (k0 x0 x1 false)
theorem aI9 (bc) (h74:(jf bc).holds cl) (x0 x1):exec cl N aaH (aR x0 x1) K=(Bg bc (fun y0 y1 y2=>K .normal (tv y0 y1 y2)) x0 x1):=by
 rw [←put_eq h74]
 kernel_rfl
theorem asP (x0 x1 x2):ae [0,3] (tv x0 x1 x2)=(aR x0 x1):=by kernel_rfl
theorem amz (x0 x1 x2):aD (ag (tv x0 x1 x2) (.t 13))=some x2:=by kernel_rfl
def Bh (k0:V1→Int→Option R) (x0:V1) (x1:Int):Option R:=
k0 x0 (IntKind.i64.wrap (x1+(1:Int)))
theorem aJa (x0 x1):exec cl N aaJ (aR x0 x1) K=(Bh (fun y0 y1=>K .normal (aR y0 y1)) x0 x1):=by
 kernel_rfl
def Bi (bc:Int→Option (Bool)) (k0:V1→Int→Option R) (k1:V1→Int→Option R) (x0:V1) (x1:Int):Option R:=
(Bg bc (fun y0 y1 y2=>al y2 ((Bh k0) y0 y1) (k1 y0 y1)) x0 x1)
theorem aJb (bc) (h74:(jf bc).holds cl) (x0 x1):exec cl N D6 (aR x0 x1) K=(Bi bc (fun y0 y1=>K .normal (aR y0 y1)) (fun y0 y1=>K (.exit 0) (aR y0 y1)) x0 x1):=by
 simp only [D6,aM,aP,aO,aQ,aI9 bc h74,aaI,aF,bf,amz,ah,ak,aj,bj,cG,asP,aaK,bt,aJa,bp,bq,bo,RA]
 rfl
def uR {R:Type} (bc:Int→Option (Bool)) (k0:V1→Int→Option R):Nat→V1→Int→Option R
 | 0,_,_=>none
 | m+1,x0,x1=>(Bi bc (uR bc k0 m) k0 x0 x1)
theorem awp (bc) (h74:(jf bc).holds cl):∀ (m) (x0 x1),iter [0,3] (fun env K=>exec cl N D6 env K) K m (aR x0 x1)=uR bc (fun y0 y1=>K (.exit 0) (aR y0 y1)) m x0 x1:=by
 intro m
 induction m with
 | zero=>intros; rfl
 | succ m ih=>
   intro x0 x1
   simp only [cA,aJb bc h74,cC,cB,cD,RA,ih]
   rfl
theorem asQ (x0 x1):ae [3] (aR x0 x1)=[(3,.v U2 x1)]:=by kernel_rfl
def Bj (N:Nat) (bc:Int→Option (Bool)) (k0:Int→Option R) (x0:V1) (x1:Int):Option R:=
uR bc (fun y0 y1=>k0 y1) N x0 x1
theorem aJc (bc) (h74:(jf bc).holds cl) (x0 x1):exec cl N Mf (aR x0 x1) K=(Bj N bc (fun y0=>K (.exit 0) [(3,.v U2 y0)]) x0 x1):=by
 simp only [Mf,aF,cz,RA,awp bc h74,asQ]
 rfl
theorem asR (x0):ae [3] [(3,.v U2 x0)]=[(3,.v U2 x0)]:=by kernel_rfl
def Bk (k0:Int→Option R) (x0:Int):Option R:=
k0 x0
theorem aJd (x0):exec cl N Mh [(3,.v U2 x0)] K=(Bk (fun y0=>K .normal [(2,.v U2 y0)]) x0):=by
 kernel_rfl
def Bf (N:Nat) (bc:Int→Option (Bool)) (k0:Int→Option R) (x0:V1):Option R:=
(Be (Bj N bc ((Bk k0))) x0)
theorem aI8 (bc) (h74:(jf bc).holds cl) (x0):exec cl N Me [(0,.v .str x0)] K=(Bf N bc (fun y0=>K .ret [(2,.v U2 y0)]) x0):=by
 simp only [aM,aP,aO,aQ,aI7,Mg,aF,bt,aJc bc h74,bp,bq,bo,asR,aJd,bg]
 rfl
theorem azR (y0):au d66 .ret [(2,.v U2 y0)]=some [.v U2 y0]:=by kernel_rfl
def ui (N:Nat) (bc:Int→Option (Bool)) (x0:V1) (k:Int→Option R):Option R:=
(Bf N bc k x0)
theorem akn (bc) (h74:(jf bc).holds cl) (x0) (k:List E→Option R):exec cl N Md [(0,.v .str x0)] (fun e env=>(au d66 e env).bind k)=ui N bc x0 (fun r0=>k [.v U2 r0]):=by
 simp only [Md,aI8 bc h74,azR,ah]
 rfl
def rq (S:V1→Option (Int)):a7:=cw 66 .str S fun b=> [.v U2 b]
def dh (N:Nat) (x0:V1):Option (Int):=ui N (bc N) x0 (fun (r0:Int)=>some (r0))
def Q3 (k0:Bool→Option R) (x0:Int):Option R:=
al (decide (x0≥(32:Int))) (al (decide (x0≤(126:Int))) (k0 (x0 != (34:Int))) (k0 false)) (k0 false)
theorem aKO (x0):exec cl N Na [(0,.v U1 x0)] K=(Q3 (fun y0=>exec cl N .ret [(2,.v .bool y0)] K) x0):=by
 kernel_rfl
def Q4 (k0:Bool→Option R) (x0:Int):Option R:=
(Q3 k0 x0)
theorem aKP (x0):exec cl N Na [(0,.v U1 x0)] K=(Q4 (fun y0=>K .ret [(2,.v .bool y0)]) x0):=by
 simp only [aM,aP,aO,aQ,aKO,bg]
 rfl
theorem aAa (y0):au d79 .ret [(2,.v .bool y0)]=some [.v .bool y0]:=by kernel_rfl
def Hv (x0:Int) (k:Bool→Option R):Option R:=
(Q4 k x0)
theorem aky (x0) (k:List E→Option R):exec cl N M9 [(0,.v U1 x0)] (fun e env=>(au d79 e env).bind k)=Hv x0 (fun r0=>k [.v .bool r0]):=by
 simp only [M9,aKP,aAa,ah]
 rfl
def rz (S:Int→Option (Bool)):a7:=cw 79 U1 S fun b=> [.v .bool b]
def db (N:Nat) (x0:Int):Option (Bool):=Hv x0 (fun (r0:Bool)=>some (r0))
end Go.Fw.L19
