/- Own work. -/
import Derived.Test.YtbdlccajpcomjaaDoorFwMb17b
import Derived.Test.YtbdlccajpcomjaaDoorFwB4
set_option linter.unusedVariables false
set_option linter.unusedSimpArgs false
open Option renaming bind_some → ah
namespace Go.Fw.L19
open Go Go.Fw
set_option maxRecDepth 100000
variable {N:Nat} {cl:aH} {R:Type} {K:KE R}
def Bp (k0:V1→aT→Int→Option R) (x0:V1):Option R:=
k0 x0 ((0:Int),([],((0:Int),()))) (1:Int)
theorem aJi (x0):exec cl N Mn [(0,.v .str x0)] K=(Bp (fun y0 y1 y2=>exec cl N (.seq Mp (.seq (.seq Mq Mj) (.seq (.seq Mk Ml) (.seq Mm .ret)))) (iw y0 y1 y2) K) x0):=by
 kernel_rfl
theorem CJ (x0 x1 x2):ae [0,2,5] (iw x0 x1 x2)=(iw x0 x1 x2):=by kernel_rfl
def Br (db:Int→Option (Bool)) (k0:V1→aT→Int→Bool→Option R) (x0:V1) (x1:aT) (x2:Int):Option R:=
al (decide (x2 < (x0.length:Int))) (if 0≤x2∧x2 < (x0.length:Int) then
(db ((x0.getD x2.toNat 0).toNat:Int)).bind fun r962=>
k0 x0 x1 x2 r962
else none) (k0 x0 x1 x2 false)
theorem aJk (db) (h79:(rz db).holds cl) (x0 x1 x2):exec cl N aaN (iw x0 x1 x2) K=(Br db (fun y0 y1 y2 y3=>K .normal (OK y0 y1 y2 y3)) x0 x1 x2):=by
 rw [←put_eq h79]
 kernel_rfl
theorem asS (x0 x1 x2 x3):ae [0,2,5] (OK x0 x1 x2 x3)=(iw x0 x1 x2):=by kernel_rfl
theorem amA (x0 x1 x2 x3):aD (ag (OK x0 x1 x2 x3) (.t 15))=some x3:=by kernel_rfl
def Bs (k0:V1→aT→Int→Option R) (x0:V1) (x1:aT) (x2:Int):Option R:=
k0 x0 x1 (IntKind.i64.wrap (x2+(1:Int)))
theorem aJl (x0 x1 x2):exec cl N aaP (iw x0 x1 x2) K=(Bs (fun y0 y1 y2=>K .normal (iw y0 y1 y2)) x0 x1 x2):=by
 kernel_rfl
def Bt (db:Int→Option (Bool)) (k0:V1→aT→Int→Option R) (k1:V1→aT→Int→Option R) (x0:V1) (x1:aT) (x2:Int):Option R:=
(Br db (fun y0 y1 y2 y3=>al y3 ((Bs k0) y0 y1 y2) (k1 y0 y1 y2)) x0 x1 x2)
theorem aJm (db) (h79:(rz db).holds cl) (x0 x1 x2):exec cl N D7 (iw x0 x1 x2) K=(Bt db (fun y0 y1 y2=>K .normal (iw y0 y1 y2)) (fun y0 y1 y2=>K (.exit 0) (iw y0 y1 y2)) x0 x1 x2):=by
 simp only [D7,aM,aP,aO,aQ,aJk db h79,aaO,aF,bf,amA,ah,ak,aj,bj,cG,asS,aaQ,bt,aJl,bp,bq,bo,CJ]
 rfl
def uS {R:Type} (db:Int→Option (Bool)) (k0:V1→aT→Int→Option R):Nat→V1→aT→Int→Option R
 | 0,_,_,_=>none
 | m+1,x0,x1,x2=>(Bt db (uS db k0 m) k0 x0 x1 x2)
theorem awq (db) (h79:(rz db).holds cl):∀ (m) (x0 x1 x2),iter [0,2,5] (fun env K=>exec cl N D7 env K) K m (iw x0 x1 x2)=uS db (fun y0 y1 y2=>K (.exit 0) (iw y0 y1 y2)) m x0 x1 x2:=by
 intro m
 induction m with
 | zero=>intros; rfl
 | succ m ih=>
   intro x0 x1 x2
   simp only [cA,aJm db h79,cC,cB,cD,CJ,ih]
   rfl
def Bu (N:Nat) (db:Int→Option (Bool)) (k0:V1→aT→Int→Option R) (x0:V1) (x1:aT) (x2:Int):Option R:=
uS db k0 N x0 x1 x2
theorem aJn (db) (h79:(rz db).holds cl) (x0 x1 x2):exec cl N Mo (iw x0 x1 x2) K=(Bu N db (fun y0 y1 y2=>K (.exit 0) (iw y0 y1 y2)) x0 x1 x2):=by
 simp only [Mo,aF,cz,CJ,awq db h79,CJ]
 rfl
def Bv (k0:V1→aT→Int→Bool→Option R) (x0:V1) (x1:aT) (x2:Int):Option R:=
al (x2==(x0.length:Int)) (k0 x0 x1 x2 true) (if 0≤x2∧x2 < (x0.length:Int) then
k0 x0 x1 x2 (((x0.getD x2.toNat 0).toNat:Int) != (34:Int))
else none)
theorem aJo (x0 x1 x2):exec cl N Mq (iw x0 x1 x2) K=(Bv (fun y0 y1 y2 y3=>K .normal (F2 y0 y1 y2 y3)) x0 x1 x2):=by
 kernel_rfl
def Bl (k0:aT→Int→Int→Option R) (x0:V1) (x1:aT) (x2:Int) (x3:Bool):Option R:=
k0 ((0:Int),[],(0:Int),()) (0:Int) (2:Int)
theorem aJe (x0 x1 x2 x3):exec cl N aaL (F2 x0 x1 x2 x3) K=(Bl (fun y0 y1 y2=>K .normal (dB y0 y1 y2)) x0 x1 x2 x3):=by
 kernel_rfl
theorem asT (x0 x1 x2):ae [0,2,3,4,5] (dB x0 x1 x2)=(wj x0 x1 x2):=by kernel_rfl
theorem asU (x0 x1 x2 x3):ae [0,2,3,4,5] (F2 x0 x1 x2 x3)=(tG x0 x1 x2):=by kernel_rfl
theorem amB (x0 x1 x2 x3):aD (ag (F2 x0 x1 x2 x3) (.t 27))=some x3:=by kernel_rfl
def Bm (k0:V1→aT→Int→Bool→Option R) (x0:V1) (x1:aT) (x2:Int):Option R:=
k0 x0 x1 x2 (decide ((IntKind.i64.wrap (x2 - (1:Int))) > (60:Int)))
theorem aJf (x0 x1 x2):exec cl N Mk (tG x0 x1 x2) K=(Bm (fun y0 y1 y2 y3=>K .normal (F3 y0 y1 y2 y3)) x0 x1 x2):=by
 kernel_rfl
def Bn (k0:aT→Int→Int→Option R) (x0:V1) (x1:aT) (x2:Int) (x3:Bool):Option R:=
k0 ((0:Int),[],(0:Int),()) (0:Int) (3:Int)
theorem aJg (x0 x1 x2 x3):exec cl N aaM (F3 x0 x1 x2 x3) K=(Bn (fun y0 y1 y2=>K .normal (dB y0 y1 y2)) x0 x1 x2 x3):=by
 kernel_rfl
theorem asV (x0 x1 x2 x3):ae [0,2,3,4,5] (F3 x0 x1 x2 x3)=(tG x0 x1 x2):=by kernel_rfl
theorem amC (x0 x1 x2 x3):aD (ag (F3 x0 x1 x2 x3) (.t 31))=some x3:=by kernel_rfl
def Bo (k0:aT→Int→Int→Option R) (x0:V1) (x1:aT) (x2:Int):Option R:=
if 0≤(1:Int)∧(1:Int)≤x2∧x2≤(x0.length:Int) then
k0 ((3:Int),((x0.drop (1:Int).toNat).take (x2.toNat - (1:Int).toNat)),(0:Int),()) (IntKind.i64.wrap (x2+(1:Int))) (0:Int)
else none
theorem aJh (x0 x1 x2):exec cl N Mm (tG x0 x1 x2) K=(Bo (fun y0 y1 y2=>K .normal (dB y0 y1 y2)) x0 x1 x2):=by
 kernel_rfl
def Bq (N:Nat) (db:Int→Option (Bool)) (k0:aT→Int→Int→Option R) (k1:aT→Int→Int→Option R) (x0:V1):Option R:=
(Bp (Bu N db ((Bv (fun y0 y1 y2 y3=>al y3 (Bl k0 y0 y1 y2 y3) ((Bm (fun y0 y1 y2 y3=>al y3 (Bn k0 y0 y1 y2 y3) ((Bo k1) y0 y1 y2))) y0 y1 y2))))) x0)
theorem aJj (db) (h79:(rz db).holds cl) (x0):exec cl N Mn [(0,.v .str x0)] K=(Bq N db (fun y0 y1 y2=>K .ret (wj y0 y1 y2)) (fun y0 y1 y2=>K .ret (dB y0 y1 y2)) x0):=by
 simp only [aM,aP,aO,aQ,aJi,Mp,aF,bt,aJn db h79,bp,bq,bo,CJ,aJo,Mj,bf,amB,ah,ak,aj,aJe,bg,bj,asT,asU,aJf,Ml,amC,aJg,asV,aJh]
 rfl
theorem azS (y0 y1 y2):au d67 .ret (wj y0 y1 y2)=some [.v ax y0,.v U2 y1,.v U2 y2]:=by kernel_rfl
theorem azT (y0 y1 y2):au d67 .ret (dB y0 y1 y2)=some [.v ax y0,.v U2 y1,.v U2 y2]:=by kernel_rfl
def uj (N:Nat) (db:Int→Option (Bool)) (x0:V1) (k:aT→Int→Int→Option R):Option R:=
(Bq N db k k x0)
theorem ako (db) (h79:(rz db).holds cl) (x0) (k:List E→Option R):exec cl N Mi [(0,.v .str x0)] (fun e env=>(au d67 e env).bind k)=uj N db x0 (fun r0 r1 r2=>k [.v ax r0,.v U2 r1,.v U2 r2]):=by
 simp only [Mi,aJj db h79,azS,azT,ah]
 rfl
def EJ (S:V1→Option gf):a7:=cw 67 .str S fun b=> [.v ax b.1,.v U2 b.2.1,.v U2 b.2.2]
def fN (N:Nat) (x0:V1):Option gf:=uj N (db N) x0 (fun (r0:aT) (r1:Int) (r2:Int)=>some (r0,r1,r2))
def aeV (k0:Int→Option R) (x0:Int):Option R:=
k0 x0
theorem aJp (x0):exec cl N aaR [(0,.v U1 x0)] K=(aeV (fun y0=>K .normal [(0,.v U1 y0)]) x0):=by
 kernel_rfl
def aeW (k0:Int→Int→Option R) (x0:Int):Option R:=
k0 x0 (0:Int)
theorem aJq (x0):exec cl N aaS [(0,.v U1 x0)] K=(aeW (fun y0 y1=>K .normal (eE y0 y1)) x0):=by
 kernel_rfl
theorem agr (x0 x1):ae [0,3] (eE x0 x1)=(eE x0 x1):=by kernel_rfl
def ae0 (k0:Int→Int→Bool→Option R) (x0 x1:Int):Option R:=
k0 x0 x1 (decide (x1 < (21:Int)))
theorem aJu (x0 x1):exec cl N aaV (eE x0 x1) K=(ae0 (fun y0 y1 y2=>K .normal (OL y0 y1 y2)) x0 x1):=by
 kernel_rfl
theorem asW (x0 x1 x2):ae [0,3] (OL x0 x1 x2)=(eE x0 x1):=by kernel_rfl
theorem amD (x0 x1 x2):aD (ag (OL x0 x1 x2) (.t 5))=some x2:=by kernel_rfl
def ae1 (k0:Int→Int→Bool→Option R) (x0 x1:Int):Option R:=
if 0≤x1∧x1 < (([123,125,40,41,91,93,47,59,58,126,64,61,94,44,46,124,43,42,60,62,45]:List UInt8).length:Int) then
k0 x0 x1 (((([123,125,40,41,91,93,47,59,58,126,64,61,94,44,46,124,43,42,60,62,45]:List UInt8).getD x1.toNat 0).toNat:Int)==x0)
else none
theorem aJv (x0 x1):exec cl N aaX (eE x0 x1) K=(ae1 (fun y0 y1 y2=>K .normal (rD y0 y1 y2)) x0 x1):=by
 kernel_rfl
def ae2 (k0:Bool→Option R) (x0 x1:Int) (x2:Bool):Option R:=
k0 true
theorem aJw (x0 x1 x2):exec cl N aaY (rD x0 x1 x2) K=(ae2 (fun y0=>K .normal [(2,.v .bool y0)]) x0 x1 x2):=by
 kernel_rfl
theorem asX (x0):ae [0,2,3] [(2,.v .bool x0)]=(kd x0):=by kernel_rfl
theorem asY (x0 x1 x2):ae [0,2,3] (rD x0 x1 x2)=(oX x0 x1):=by kernel_rfl
theorem amE (x0 x1 x2):aD (ag (rD x0 x1 x2) (.t 11))=some x2:=by kernel_rfl
theorem asZ (x0):ae [0,2,3] (kd x0)=(kd x0):=by kernel_rfl
theorem as0 (x0 x1):ae [0,2,3] (oX x0 x1)=(oX x0 x1):=by kernel_rfl
def ae3 (k0:Int→Int→Option R) (x0 x1:Int):Option R:=
k0 x0 (IntKind.i64.wrap (x1+(1:Int)))
theorem aJx (x0 x1):exec cl N aa1 (oX x0 x1) K=(ae3 (fun y0 y1=>K .normal (eE y0 y1)) x0 x1):=by
 kernel_rfl
def ae4 (k0:Bool→Option R) (k1:Int→Int→Option R) (k2:Int→Int→Option R) (x0 x1:Int):Option R:=
(ae0 (fun y0 y1 y2=>al y2 ((ae1 (fun y0 y1 y2=>al y2 (ae2 k0 y0 y1 y2) (((ae3 k1)) y0 y1))) y0 y1) (k2 y0 y1)) x0 x1)
theorem aJy (x0 x1):exec cl N D8 (eE x0 x1) K=(ae4 (fun y0=>K .ret (kd y0)) (fun y0 y1=>K .normal (eE y0 y1)) (fun y0 y1=>K (.exit 0) (eE y0 y1)) x0 x1):=by
 simp only [D8,aM,aP,aO,aQ,aJu,aaW,aF,bf,amD,ah,ak,aj,bj,cG,asW,aa0,bt,aJv,aaZ,amE,aJw,bg,asX,asY,bp,bq,bo,asZ,as0,aJx]
 rfl
def RH {R:Type} (k0:Bool→Option R) (k1:Int→Int→Option R):Nat→Int→Int→Option R
 | 0,_,_=>none
 | m+1,x0,x1=>(ae4 k0 (RH k0 k1 m) k1 x0 x1)
theorem awr:∀ (m) (x0 x1),iter [0,3] (fun env K=>exec cl N D8 env K) K m (eE x0 x1)=RH (fun y0=>K .ret (kd y0)) (fun y0 y1=>K (.exit 0) (eE y0 y1)) m x0 x1:=by
 intro m
 induction m with
 | zero=>intros; rfl
 | succ m ih=>
   intro x0 x1
   simp only [cA,aJy,cC,cB,cD,agr,ih]
   rfl
theorem as1 (x0):ae [2] (kd x0)=[(2,.v .bool x0)]:=by kernel_rfl
theorem as2 (x0 x1):ae [2] (eE x0 x1)=[(2,.dead)]:=by kernel_rfl
def aeX (N:Nat) (k0:Bool→Option R) (k1:Option R) (x0 x1:Int):Option R:=
RH k0 (fun y0 y1=>k1) N x0 x1
theorem aJr (x0 x1):exec cl N Ms (eE x0 x1) K=(aeX N (fun y0=>K .ret [(2,.v .bool y0)]) (K (.exit 0) [(2,.dead)]) x0 x1):=by
 simp only [Ms,aF,cz,agr,awr,as1,as2]
 rfl
theorem as3 (x0):ae [2] [(2,.v .bool x0)]=[(2,.v .bool x0)]:=by kernel_rfl
theorem as4:ae [2] [(2,.dead)]=[(2,.dead)]:=by kernel_rfl
def aeY (k0:Bool→Option R):Option R:=
k0 false
theorem aJs:exec cl N aaU [(2,.dead)] K=(aeY (fun y0=>K .normal [(2,.v .bool y0)])):=by
 kernel_rfl
def aeZ (N:Nat) (k0:Bool→Option R) (x0:Int):Option R:=
(aeV (aeW (aeX N k0 (aeY k0))) x0)
theorem aJt (x0):exec cl N Mt [(0,.v U1 x0)] K=(aeZ N (fun y0=>K .ret [(2,.v .bool y0)]) x0):=by
 simp only [Mt,aM,aP,aO,aQ,aJp,aJq,aaT,aF,bt,aJr,bp,bq,bo,as3,as4,aJs,bg]
 rfl
theorem azU (y0):au d68 .ret [(2,.v .bool y0)]=some [.v .bool y0]:=by kernel_rfl
def QV (N:Nat) (x0:Int) (k:Bool→Option R):Option R:=
(aeZ N k x0)
theorem akp (x0) (k:List E→Option R):exec cl N Mr [(0,.v U1 x0)] (fun e env=>(au d68 e env).bind k)=QV N x0 (fun r0=>k [.v .bool r0]):=by
 simp only [Mr,aJt,azU,ah]
 rfl
def EK (S:Int→Option (Bool)):a7:=cw 68 U1 S fun b=> [.v .bool b]
def fu (N:Nat) (x0:Int):Option (Bool):=QV N x0 (fun (r0:Bool)=>some (r0))
def Qd (k0:V1→aT→Option R) (x0:V1):Option R:=
k0 x0 ((0:Int),([],((0:Int),())))
theorem aG0 (x0):exec cl N YB [(0,.v .str x0)] K=(Qd (fun y0 y1=>K .normal (Fo y0 y1)) x0):=by
 kernel_rfl
def Qu (cL:V1→Option (Int)) (k0:V1→aT→Int→Bool→Option R) (x0:V1) (x1:aT):Option R:=
(cL x0).bind fun r987=>
k0 x0 x1 r987 (decide (r987 > (0:Int)))
theorem aHg (cL) (h58:(rk cL).holds cl) (x0 x1):exec cl N YV (Fo x0 x1) K=(Qu cL (fun y0 y1 y2 y3=>exec cl N Lp (F4 y0 y1 y2 y3) K) x0 x1):=by
 rw [←put_eq h58]
 kernel_rfl
def Qq (k0:V1→aT→Int→Bool→Option R) (x0:V1) (x1:aT) (x2:Int) (x3:Bool):Option R:=
k0 x0 x1 x2 (decide (x2 > (20:Int)))
theorem aHd (x0 x1 x2 x3):exec cl N YR (F4 x0 x1 x2 x3) K=(Qq (fun y0 y1 y2 y3=>K .normal (F6 y0 y1 y2 y3)) x0 x1 x2 x3):=by
 kernel_rfl
def Qs (k0:aT→Int→Int→Option R) (x0:V1) (x1:aT) (x2:Int) (x3:Bool):Option R:=
k0 ((0:Int),[],(0:Int),()) (0:Int) (3:Int)
theorem aHe (x0 x1 x2 x3):exec cl N YS (F6 x0 x1 x2 x3) K=(Qs (fun y0 y1 y2=>K .normal (dB y0 y1 y2)) x0 x1 x2 x3):=by
 kernel_rfl
theorem arw (x0 x1 x2):ae [0,2,3,4,5] (dB x0 x1 x2)=(wj x0 x1 x2):=by kernel_rfl
theorem arx (x0 x1 x2 x3):ae [0,2,3,4,5] (F6 x0 x1 x2 x3)=(tG x0 x1 x2):=by kernel_rfl
theorem al2 (x0 x1 x2 x3):aD (ag (F6 x0 x1 x2 x3) (.t 12))=some x3:=by kernel_rfl
def Qt (k0:aT→Int→Int→Option R) (x0:V1) (x1:aT) (x2:Int):Option R:=
if 0≤(0:Int)∧(0:Int)≤x2∧x2≤(x0.length:Int) then
k0 ((1:Int),((x0.drop (0:Int).toNat).take (x2.toNat - (0:Int).toNat)),(0:Int),()) x2 (0:Int)
else none
theorem aHf (x0 x1 x2):exec cl N YU (tG x0 x1 x2) K=(Qt (fun y0 y1 y2=>K .normal (dB y0 y1 y2)) x0 x1 x2):=by
 kernel_rfl
theorem arB (x0 x1 x2):ae [0,2,3,4] (wj x0 x1 x2)=(wk x0 x1 x2):=by kernel_rfl
theorem arC (x0 x1 x2):ae [0,2,3,4] (dB x0 x1 x2)=(wk x0 x1 x2):=by kernel_rfl
theorem arD (x0 x1 x2 x3):ae [0,2,3,4] (F4 x0 x1 x2 x3)=(tH x0 x1):=by kernel_rfl
theorem al3 (x0 x1 x2 x3):aD (ag (F4 x0 x1 x2 x3) (.t 10))=some x3:=by kernel_rfl
def Qj (dh:V1→Option (Int)) (k0:V1→aT→Int→Bool→Option R) (x0:V1) (x1:aT):Option R:=
(dh x0).bind fun r994=>
k0 x0 x1 r994 (decide (r994 > (0:Int)))
theorem aG6 (dh) (h66:(rq dh).holds cl) (x0 x1):exec cl N YJ (tH x0 x1) K=(Qj dh (fun y0 y1 y2 y3=>exec cl N Ln (F7 y0 y1 y2 y3) K) x0 x1):=by
 rw [←put_eq h66]
 kernel_rfl
def Qe (k0:V1→aT→Int→Bool→Option R) (x0:V1) (x1:aT) (x2:Int) (x3:Bool):Option R:=
k0 x0 x1 x2 (decide (x2 > (6:Int)))
theorem aG1 (x0 x1 x2 x3):exec cl N YC (F7 x0 x1 x2 x3) K=(Qe (fun y0 y1 y2 y3=>K .normal (F8 y0 y1 y2 y3)) x0 x1 x2 x3):=by
 kernel_rfl
def Qf (k0:aT→Int→Int→Option R) (x0:V1) (x1:aT) (x2:Int) (x3:Bool):Option R:=
k0 ((0:Int),[],(0:Int),()) (0:Int) (3:Int)
theorem aG2 (x0 x1 x2 x3):exec cl N YD (F8 x0 x1 x2 x3) K=(Qf (fun y0 y1 y2=>K .normal (dB y0 y1 y2)) x0 x1 x2 x3):=by
 kernel_rfl
theorem arE (x0 x1 x2):ae [0,2,3,4,6] (dB x0 x1 x2)=(Fs x0 x1 x2):=by kernel_rfl
theorem arF (x0 x1 x2 x3):ae [0,2,3,4,6] (F8 x0 x1 x2 x3)=(tx x0 x1 x2):=by kernel_rfl
theorem al4 (x0 x1 x2 x3):aD (ag (F8 x0 x1 x2 x3) (.t 24))=some x3:=by kernel_rfl
def Qg (k0:V1→aT→Int→Bool→Option R) (x0:V1) (x1:aT) (x2:Int):Option R:=
if 0≤(0:Int)∧(0:Int) < (x0.length:Int) then
al (((x0.getD (0:Int).toNat 0).toNat:Int)==(48:Int)) (k0 x0 x1 x2 (decide (x2 > (1:Int)))) (k0 x0 x1 x2 false)
else none
theorem aG3 (x0 x1 x2):exec cl N YF (tx x0 x1 x2) K=(Qg (fun y0 y1 y2 y3=>K .normal (F9 y0 y1 y2 y3)) x0 x1 x2):=by
 kernel_rfl
def Qh (k0:aT→Int→Int→Option R) (x0:V1) (x1:aT) (x2:Int) (x3:Bool):Option R:=
k0 ((0:Int),[],(0:Int),()) (0:Int) (2:Int)
theorem aG4 (x0 x1 x2 x3):exec cl N YG (F9 x0 x1 x2 x3) K=(Qh (fun y0 y1 y2=>K .normal (dB y0 y1 y2)) x0 x1 x2 x3):=by
 kernel_rfl
theorem arG (x0 x1 x2 x3):ae [0,2,3,4,6] (F9 x0 x1 x2 x3)=(tx x0 x1 x2):=by kernel_rfl
theorem al5 (x0 x1 x2 x3):aD (ag (F9 x0 x1 x2 x3) (.t 32))=some x3:=by kernel_rfl
def Qi (k0:aT→Int→Int→Option R) (x0:V1) (x1:aT) (x2:Int):Option R:=
if 0≤(0:Int)∧(0:Int)≤x2∧x2≤(x0.length:Int) then
k0 ((2:Int),((x0.drop (0:Int).toNat).take (x2.toNat - (0:Int).toNat)),(0:Int),()) x2 (0:Int)
else none
theorem aG5 (x0 x1 x2):exec cl N YI (tx x0 x1 x2) K=(Qi (fun y0 y1 y2=>K .normal (dB y0 y1 y2)) x0 x1 x2):=by
 kernel_rfl
theorem arH (x0 x1 x2):ae [0,2,3,4] (Fs x0 x1 x2)=(wk x0 x1 x2):=by kernel_rfl
theorem arI (x0 x1 x2 x3):ae [0,2,3,4] (F7 x0 x1 x2 x3)=(tH x0 x1):=by kernel_rfl
theorem al6 (x0 x1 x2 x3):aD (ag (F7 x0 x1 x2 x3) (.t 22))=some x3:=by kernel_rfl
def Qk (k0:V1→aT→Bool→Option R) (x0:V1) (x1:aT):Option R:=
if 0≤(0:Int)∧(0:Int) < (x0.length:Int) then
k0 x0 x1 (((x0.getD (0:Int).toNat 0).toNat:Int)==(34:Int))
else none
theorem aG7 (x0 x1):exec cl N YK (tH x0 x1) K=(Qk (fun y0 y1 y2=>K .normal (Ga y0 y1 y2)) x0 x1):=by
 kernel_rfl
def Ql (fN:V1→Option gf) (k0:aT→Int→Int→Option R) (x0:V1) (x1:aT) (x2:Bool):Option R:=
(fN x0).bind fun r1006=>
k0 r1006.1 r1006.2.1 r1006.2.2
theorem aG8 (fN) (h67:(EJ fN).holds cl) (x0 x1 x2):exec cl N YL (Ga x0 x1 x2) K=(Ql fN (fun y0 y1 y2=>K .normal (dB y0 y1 y2)) x0 x1 x2):=by
 rw [←put_eq h67]
 kernel_rfl
theorem ary (x0 x1 x2):ae [0,2,3,4] (Ga x0 x1 x2)=(tH x0 x1):=by kernel_rfl
theorem al7 (x0 x1 x2):aD (ag (Ga x0 x1 x2) (.t 41))=some x2:=by kernel_rfl
def Qm (fu:Int→Option (Bool)) (k0:V1→aT→Bool→Option R) (x0:V1) (x1:aT):Option R:=
if 0≤(0:Int)∧(0:Int) < (x0.length:Int) then
(fu ((x0.getD (0:Int).toNat 0).toNat:Int)).bind fun r1008=>
k0 x0 x1 r1008
else none
theorem aG9 (fu) (h68:(EK fu).holds cl) (x0 x1):exec cl N YN (tH x0 x1) K=(Qm fu (fun y0 y1 y2=>K .normal (Gb y0 y1 y2)) x0 x1):=by
 rw [←put_eq h68]
 kernel_rfl
def Qn (k0:aT→Int→Int→Option R) (x0:V1) (x1:aT) (x2:Bool):Option R:=
if 0≤(0:Int)∧(0:Int)≤(1:Int)∧(1:Int)≤(x0.length:Int) then
k0 ((4:Int),((x0.drop (0:Int).toNat).take ((1:Int).toNat - (0:Int).toNat)),(0:Int),()) (1:Int) (0:Int)
else none
theorem aHa (x0 x1 x2):exec cl N YO (Gb x0 x1 x2) K=(Qn (fun y0 y1 y2=>K .normal (dB y0 y1 y2)) x0 x1 x2):=by
 kernel_rfl
theorem arz (x0 x1 x2):ae [2,3,4] (dB x0 x1 x2)=(dB x0 x1 x2):=by kernel_rfl
theorem arA (x0 x1 x2):ae [2,3,4] (Gb x0 x1 x2)=(tz x1):=by kernel_rfl
theorem al8 (x0 x1 x2):aD (ag (Gb x0 x1 x2) (.t 49))=some x2:=by kernel_rfl
def Qo (k0:aT→Int→Int→Option R) (x0:aT):Option R:=
k0 ((0:Int),[],(0:Int),()) (0:Int) (2:Int)
theorem aHb (x0):exec cl N YQ (tz x0) K=(Qo (fun y0 y1 y2=>K .normal (dB y0 y1 y2)) x0):=by
 kernel_rfl
def Qp (cL:V1→Option (Int)) (dh:V1→Option (Int)) (fN:V1→Option gf) (fu:Int→Option (Bool)) (k0:aT→Int→Int→Option R) (k1:aT→Int→Int→Option R) (x0:V1):Option R:=
(Qd (Qu cL (fun y0 y1 y2 y3=>al y3 (Qq (fun y0 y1 y2 y3=>al y3 (Qs k0 y0 y1 y2 y3) ((Qt k0) y0 y1 y2)) y0 y1 y2 y3) ((Qj dh (fun y0 y1 y2 y3=>al y3 (Qe (fun y0 y1 y2 y3=>al y3 (Qf k0 y0 y1 y2 y3) ((Qg (fun y0 y1 y2 y3=>al y3 (Qh k0 y0 y1 y2 y3) ((Qi k0) y0 y1 y2))) y0 y1 y2)) y0 y1 y2 y3) ((Qk (fun y0 y1 y2=>al y2 (Ql fN k0 y0 y1 y2) ((Qm fu (fun y0 y1 y2=>al y2 (Qn k1 y0 y1 y2) ((Qo k1) y1))) y0 y1))) y0 y1))) y0 y1))) x0)
theorem aHc (cL) (dh) (fN) (fu) (h58:(rk cL).holds cl) (h66:(rq dh).holds cl) (h67:(EJ fN).holds cl) (h68:(EK fu).holds cl) (x0):exec cl N Lo [(0,.v .str x0)] K=(Qp cL dh fN fu (fun y0 y1 y2=>K .ret (wk y0 y1 y2)) (fun y0 y1 y2=>K .ret (dB y0 y1 y2)) x0):=by
 simp only [Lo,aM,aP,aO,aQ,aG0,aHg cL h58,Lp,aF,bf,al3,ah,ak,aj,aHd,YT,al2,aHe,bg,bj,arw,arx,aHf,arB,arC,arD,aG6 dh h66,Ln,al6,aG1,YE,al4,aG2,arE,arF,aG3,YH,al5,aG4,arG,aG5,arH,arI,aG7,YM,al7,aG8 fN h67,ary,aG9 fu h68,YP,al8,aHa,arz,arA,aHb]
 rfl
theorem azp (y0 y1 y2):au d49 .ret (wk y0 y1 y2)=some [.v ax y0,.v U2 y1,.v U2 y2]:=by kernel_rfl
theorem azq (y0 y1 y2):au d49 .ret (dB y0 y1 y2)=some [.v ax y0,.v U2 y1,.v U2 y2]:=by kernel_rfl
def Hn (cL:V1→Option (Int)) (dh:V1→Option (Int)) (fN:V1→Option gf) (fu:Int→Option (Bool)) (x0:V1) (k:aT→Int→Int→Option R):Option R:=
(Qp cL dh fN fu k k x0)
theorem aj7 (cL) (dh) (fN) (fu) (h58:(rk cL).holds cl) (h66:(rq dh).holds cl) (h67:(EJ fN).holds cl) (h68:(EK fu).holds cl) (x0) (k:List E→Option R):exec cl N Lm [(0,.v .str x0)] (fun e env=>(au d49 e env).bind k)=Hn cL dh fN fu x0 (fun r0 r1 r2=>k [.v ax r0,.v U2 r1,.v U2 r2]):=by
 simp only [Lm,aHc cL dh fN fu h58 h66 h67 h68,azp,azq,ah]
 rfl
def rb (S:V1→Option gf):a7:=cw 49 .str S fun b=> [.v ax b.1,.v U2 b.2.1,.v U2 b.2.2]
def cV (N:Nat) (x0:V1):Option gf:=Hn (cL N) (dh N) (fN N) (fu N) x0 (fun (r0:aT) (r1:Int) (r2:Int)=>some (r0,r1,r2))
def xV (k0:V1→Option R) (x0:V1):Option R:=
k0 x0
theorem aDT (x0):exec cl N VB [(0,.v .str x0)] K=(xV (fun y0=>K .normal [(0,.v .str y0)]) x0):=by
 kernel_rfl
def xW (k0:V1→Bool→Option R) (x0:V1):Option R:=
k0 x0 (decide ((x0.length:Int) > (20000:Int)))
theorem aDU (x0):exec cl N VC [(0,.v .str x0)] K=(xW (fun y0 y1=>K .normal (oY y0 y1)) x0):=by
 kernel_rfl
def ya (k0:aq→Int→Int→Option R) (x0:V1) (x1:Bool):Option R:=
k0 [] (0:Int) (3:Int)
theorem aD0 (x0 x1):exec cl N VF (oY x0 x1) K=(ya (fun y0 y1 y2=>K .normal (oZ y0 y1 y2)) x0 x1):=by
 kernel_rfl
theorem apA (x0 x1 x2):ae [0,2,3,4] (oZ x0 x1 x2)=(tA x0 x1 x2):=by kernel_rfl
theorem apB (x0 x1):ae [0,2,3,4] (oY x0 x1)=(FB x0):=by kernel_rfl
theorem ald (x0 x1):aD (ag (oY x0 x1) (.t 13))=some x1:=by kernel_rfl
def yf (k0:V1→aq→Int→Int→Option R) (x0:V1):Option R:=
k0 x0 [] (1:Int) (0:Int)
theorem aD5 (x0):exec cl N VH (FB x0) K=(yf (fun y0 y1 y2 y3=>exec cl N J4 (dq y0 y1 y2 y3) K) x0):=by
 kernel_rfl
theorem apH (x0 x1 x2 x3):ae [0,5,6,7] (dq x0 x1 x2 x3)=(dq x0 x1 x2 x3):=by kernel_rfl
def yc (cI:V1→Option (Int)) (cJ:V1→Option (Int)) (k0:V1→aq→Int→Int→Option R) (x0:V1) (x1:aq) (x2 x3:Int):Option R:=
if 0≤x3∧x3≤(x0.length:Int)∧(x0.length:Int)≤(x0.length:Int) then
(cI ((x0.drop x3.toNat).take ((x0.length:Int).toNat - x3.toNat))).bind fun r1025=>
let v1026:Int:=(IntKind.i64.wrap (x3+r1025))
if 0≤x3∧x3≤v1026∧v1026≤(x0.length:Int) then
(cJ ((x0.drop x3.toNat).take (v1026.toNat - x3.toNat))).bind fun r1028=>
k0 x0 x1 (IntKind.i64.wrap (x2+r1028)) (IntKind.i64.wrap (x3+r1025))
else none
else none
theorem aD2 (cI) (cJ) (h47:(qZ cI).holds cl) (h48:(ra cJ).holds cl) (x0 x1 x2 x3):exec cl N VG (dq x0 x1 x2 x3) K=(yc cI cJ (fun y0 y1 y2 y3=>exec cl N (.seq (.seq JX JY) (.seq JZ (.seq (.seq J0 J1) J2))) (dq y0 y1 y2 y3) K) x0 x1 x2 x3):=by
 rw [←put_eq h47]
 rw [←put_eq h48]
 kernel_rfl
def xX (k0:V1→aq→Int→Int→Bool→Option R) (x0:V1) (x1:aq) (x2 x3:Int):Option R:=
k0 x0 x1 x2 x3 (x3==(x0.length:Int))
theorem aDV (x0 x1 x2 x3):exec cl N JX (dq x0 x1 x2 x3) K=(xX (fun y0 y1 y2 y3 y4=>K .normal (Gc y0 y1 y2 y3 y4)) x0 x1 x2 x3):=by
 kernel_rfl
def xY (k0:Int→Int→aq→Option R) (x0:V1) (x1:aq) (x2 x3:Int) (x4:Bool):Option R:=
k0 (0:Int) (0:Int) x1
theorem aDW (x0 x1 x2 x3 x4):exec cl N VD (Gc x0 x1 x2 x3 x4) K=(xY (fun y0 y1 y2=>K .normal (lQ y0 y1 y2)) x0 x1 x2 x3 x4):=by
 kernel_rfl
theorem apI (x0 x1 x2):ae [0,2,3,4,5,6,7] (lQ x0 x1 x2)=(tI x0 x1 x2):=by kernel_rfl
theorem apJ (x0 x1 x2 x3 x4):ae [0,2,3,4,5,6,7] (Gc x0 x1 x2 x3 x4)=(ml x0 x1 x2 x3):=by kernel_rfl
theorem ale (x0 x1 x2 x3 x4):aD (ag (Gc x0 x1 x2 x3 x4) (.t 33))=some x4:=by kernel_rfl
def xZ (cV:V1→Option gf) (k0:V1→aq→Int→Int→Int→aT→Int→Option R) (x0:V1) (x1:aq) (x2 x3:Int):Option R:=
if 0≤x3∧x3≤(x0.length:Int)∧(x0.length:Int)≤(x0.length:Int) then
(cV ((x0.drop x3.toNat).take ((x0.length:Int).toNat - x3.toNat))).bind fun r1033=>
k0 x0 x1 x2 x3 r1033.2.1 r1033.1 r1033.2.2
else none
theorem aDX (cV) (h49:(rb cV).holds cl) (x0 x1 x2 x3):exec cl N JZ (ml x0 x1 x2 x3) K=(xZ cV (fun y0 y1 y2 y3 y4 y5 y6=>K .normal (ad1 y0 y1 y2 y3 y4 y5 y6)) x0 x1 x2 x3):=by
 rw [←put_eq h49]
 kernel_rfl
def x8 (k0:V1→aq→Int→Int→Int→aT→Int→Bool→Option R) (x0:V1) (x1:aq) (x2 x3 x4:Int) (x5:aT) (x6:Int):Option R:=
k0 x0 x1 x2 x3 x4 x5 x6 (x6 != (0:Int))
theorem aDY (x0 x1 x2 x3 x4 x5 x6):exec cl N J0 (ad1 x0 x1 x2 x3 x4 x5 x6) K=(x8 (fun y0 y1 y2 y3 y4 y5 y6 y7=>K .normal (Ge y0 y1 y2 y3 y4 y5 y6 y7)) x0 x1 x2 x3 x4 x5 x6):=by
 kernel_rfl
def x9 (k0:aq→Int→Int→Option R) (x0:V1) (x1:aq) (x2 x3 x4:Int) (x5:aT) (x6:Int) (x7:Bool):Option R:=
k0 [] x2 x6
theorem aDZ (x0 x1 x2 x3 x4 x5 x6 x7):exec cl N VE (Ge x0 x1 x2 x3 x4 x5 x6 x7) K=(x9 (fun y0 y1 y2=>K .normal (oZ y0 y1 y2)) x0 x1 x2 x3 x4 x5 x6 x7):=by
 kernel_rfl
theorem apK (x0 x1 x2):ae [0,2,3,4,5,6,7,8,9] (oZ x0 x1 x2)=(FE x0 x1 x2):=by kernel_rfl
theorem apL (x0 x1 x2 x3 x4 x5 x6 x7):ae [0,2,3,4,5,6,7,8,9] (Ge x0 x1 x2 x3 x4 x5 x6 x7)=(ad2 x0 x1 x2 x3 x4 x5):=by kernel_rfl
theorem alf (x0 x1 x2 x3 x4 x5 x6 x7):aD (ag (Ge x0 x1 x2 x3 x4 x5 x6 x7) (.t 44))=some x7:=by kernel_rfl
def yb (k0:V1→aq→Int→Int→Option R) (x0:V1) (x1:aq) (x2 x3 x4:Int) (x5:aT):Option R:=
if x1.length+[(x5.1,(x5.2.1,(x2,x5.2.2.2)))].length≤4398046511104 then
k0 x0 (x1++[(x5.1,(x5.2.1,(x2,x5.2.2.2)))]) x2 (IntKind.i64.wrap (x3+x4))
else none
theorem aD1 (x0 x1 x2 x3 x4 x5):exec cl N J2 (ad2 x0 x1 x2 x3 x4 x5) K=(yb (fun y0 y1 y2 y3=>K .normal (dq y0 y1 y2 y3)) x0 x1 x2 x3 x4 x5):=by
 kernel_rfl
theorem apM (x0 x1 x2):ae [0,2,3,4,5,6,7] (tI x0 x1 x2)=(tI x0 x1 x2):=by kernel_rfl
theorem apN (x0 x1 x2):ae [0,2,3,4,5,6,7] (FE x0 x1 x2)=(mn x0 x1 x2):=by kernel_rfl
theorem apO (x0 x1 x2 x3):ae [0,2,3,4,5,6,7] (dq x0 x1 x2 x3)=(ml x0 x1 x2 x3):=by kernel_rfl
def yd (cI:V1→Option (Int)) (cJ:V1→Option (Int)) (cV:V1→Option gf) (k0:Int→Int→aq→Option R) (k1:aq→Int→Int→Option R) (k2:V1→aq→Int→Int→Option R) (x0:V1) (x1:aq) (x2 x3:Int):Option R:=
(yc cI cJ (xX (fun y0 y1 y2 y3 y4=>al y4 (xY k0 y0 y1 y2 y3 y4) ((xZ cV (x8 (fun y0 y1 y2 y3 y4 y5 y6 y7=>al y7 (x9 k1 y0 y1 y2 y3 y4 y5 y6 y7) ((yb k2) y0 y1 y2 y3 y4 y5)))) y0 y1 y2 y3))) x0 x1 x2 x3)
theorem aD3 (cI) (cJ) (cV) (h47:(qZ cI).holds cl) (h48:(ra cJ).holds cl) (h49:(rb cV).holds cl) (x0 x1 x2 x3):exec cl N DN (dq x0 x1 x2 x3) K=(yd cI cJ cV (fun y0 y1 y2=>K .ret (tI y0 y1 y2)) (fun y0 y1 y2=>K .ret (mn y0 y1 y2)) (fun y0 y1 y2 y3=>K .normal (ml y0 y1 y2 y3)) x0 x1 x2 x3):=by
 simp only [DN,aF,bt,aM,aP,aO,aQ,aD2 cI cJ h47 h48,aDV,JY,bf,ale,ah,ak,aj,aDW,bg,bj,apI,apJ,aDX cV h49,aDY,J1,alf,aDZ,apK,apL,aD1,bp,bq,bo,apM,apN,apO]
 rfl
theorem apC (x0 x1 x2 x3):ae [0,5,6,7] (ml x0 x1 x2 x3)=(dq x0 x1 x2 x3):=by kernel_rfl
def uE {R:Type} (cI:V1→Option (Int)) (cJ:V1→Option (Int)) (cV:V1→Option gf) (k0:Int→Int→aq→Option R) (k1:aq→Int→Int→Option R):Nat→V1→aq→Int→Int→Option R
 | 0,_,_,_,_=>none
 | m+1,x0,x1,x2,x3=>(yd cI cJ cV k0 k1 (uE cI cJ cV k0 k1 m) x0 x1 x2 x3)
theorem av7 (cI) (cJ) (cV) (h47:(qZ cI).holds cl) (h48:(ra cJ).holds cl) (h49:(rb cV).holds cl):∀ (m) (x0 x1 x2 x3),iter [0,5,6,7] (fun env K=>exec cl N DN env K) K m (dq x0 x1 x2 x3)=uE cI cJ cV (fun y0 y1 y2=>K .ret (tI y0 y1 y2)) (fun y0 y1 y2=>K .ret (mn y0 y1 y2)) m x0 x1 x2 x3:=by
 intro m
 induction m with
 | zero=>intros; rfl
 | succ m ih=>
   intro x0 x1 x2 x3
   simp only [cA,aD3 cI cJ cV h47 h48 h49,cC,cB,cD,apC,ih]
   rfl
theorem apD (x0 x1 x2):ae [2,3,4,5] (tI x0 x1 x2)=(lQ x0 x1 x2):=by kernel_rfl
theorem apE (x0 x1 x2):ae [2,3,4,5] (mn x0 x1 x2)=(ki x0 x1 x2):=by kernel_rfl
def ye (N:Nat) (cI:V1→Option (Int)) (cJ:V1→Option (Int)) (cV:V1→Option gf) (k0:Int→Int→aq→Option R) (k1:aq→Int→Int→Option R) (x0:V1) (x1:aq) (x2 x3:Int):Option R:=
uE cI cJ cV k0 k1 N x0 x1 x2 x3
theorem aD4 (cI) (cJ) (cV) (h47:(qZ cI).holds cl) (h48:(ra cJ).holds cl) (h49:(rb cV).holds cl) (x0 x1 x2 x3):exec cl N J3 (dq x0 x1 x2 x3) K=(ye N cI cJ cV (fun y0 y1 y2=>K .ret (lQ y0 y1 y2)) (fun y0 y1 y2=>K .ret (ki y0 y1 y2)) x0 x1 x2 x3):=by
 simp only [J3,aF,cz,apH,av7 cI cJ cV h47 h48 h49,apD,apE]
 rfl
theorem apF (x0 x1 x2):ae [2,3,4,5] (lQ x0 x1 x2)=(lQ x0 x1 x2):=by kernel_rfl
theorem apG (x0 x1 x2):ae [2,3,4,5] (ki x0 x1 x2)=(ki x0 x1 x2):=by kernel_rfl
def yg (N:Nat) (cI:V1→Option (Int)) (cJ:V1→Option (Int)) (cV:V1→Option gf) (k0:aq→Int→Int→Option R) (k1:Int→Int→aq→Option R) (k2:aq→Int→Int→Option R) (x0:V1):Option R:=
(xV (xW (fun y0 y1=>al y1 (ya k0 y0 y1) ((yf (ye N cI cJ cV k1 k2)) y0))) x0)
theorem aD6 (cI) (cJ) (cV) (h47:(qZ cI).holds cl) (h48:(ra cJ).holds cl) (h49:(rb cV).holds cl) (x0):exec cl N J5 [(0,.v .str x0)] K=(yg N cI cJ cV (fun y0 y1 y2=>K .ret (tA y0 y1 y2)) (fun y0 y1 y2=>K .ret (lQ y0 y1 y2)) (fun y0 y1 y2=>K .ret (ki y0 y1 y2)) x0):=by
 simp only [J5,aM,aP,aO,aQ,aDT,aDU,VI,aF,bf,ald,ah,ak,aj,aD0,bg,bj,apA,apB,aD5,J4,bt,aD4 cI cJ cV h47 h48 h49,bp,bq,bo,apF,apG]
 rfl
theorem ayQ (y0 y1 y2):au d24 .ret (tA y0 y1 y2)=some [.own true 58 ax .no y0,.v U2 y1,.v U2 y2]:=by kernel_rfl
theorem ayR (y0 y1 y2):au d24 .ret (lQ y0 y1 y2)=some [.own true 58 ax .no y2,.v U2 y0,.v U2 y1]:=by kernel_rfl
theorem ayS (y0 y1 y2):au d24 .ret (ki y0 y1 y2)=some [.own true 58 ax .no y0,.v U2 y1,.v U2 y2]:=by kernel_rfl
def g24 (N:Nat) (cI:V1→Option (Int)) (cJ:V1→Option (Int)) (cV:V1→Option gf) (x0:V1) (k:aq→Int→Int→Option R):Option R:=
(yg N cI cJ cV k (fun y0 y1 y2=>k y2 y0 y1) k x0)
theorem ajM (cI) (cJ) (cV) (h47:(qZ cI).holds cl) (h48:(ra cJ).holds cl) (h49:(rb cV).holds cl) (x0) (k:List E→Option R):exec cl N JW [(0,.v .str x0)] (fun e env=>(au d24 e env).bind k)=g24 N cI cJ cV x0 (fun r0 r1 r2=>k [.own true 58 ax .no r0,.v U2 r1,.v U2 r2]):=by
 simp only [JW,aD6 cI cJ cV h47 h48 h49,ayQ,ayR,ayS,ah]
 rfl
def EB (S:V1→Option mb):a7:=cw 24 .str S fun b=> [.own true 58 ax .no b.1,.v U2 b.2.1,.v U2 b.2.2]
def fK (N:Nat) (x0:V1):Option mb:=g24 N (cI N) (cJ N) (cV N) x0 (fun (r0:aq) (r1:Int) (r2:Int)=>some (r0,r1,r2))
def Pu (k0:Bool→Option R) (x0:aq) (x1 x2:Int) (x3:V1):Option R:=
al (decide (x1 < (x0.length:Int))) (if 0≤x1∧x1 < (x0.length:Int) then
al ((x0.getD x1.toNat ((0:Int),([],((0:Int),())))).1==x2) (al (x3==([]:List UInt8)) (k0 true) (if 0≤x1∧x1 < (x0.length:Int) then
k0 ((x0.getD x1.toNat ((0:Int),([],((0:Int),())))).2.1==x3)
else none)) (k0 false)
else none) (k0 false)
theorem aD7 (x0 x1 x2 x3):exec cl N J7 (OM x0 x1 x2 x3) K=(Pu (fun y0=>exec cl N .ret [(8,.v .bool y0)] K) x0 x1 x2 x3):=by
 kernel_rfl
def Pv (k0:Bool→Option R) (x0:aq) (x1 x2:Int) (x3:V1):Option R:=
(Pu k0 x0 x1 x2 x3)
theorem aD8 (x0 x1 x2 x3):exec cl N J7 (OM x0 x1 x2 x3) K=(Pv (fun y0=>K .ret [(8,.v .bool y0)]) x0 x1 x2 x3):=by
 simp only [aM,aP,aO,aQ,aD7,bg]
 rfl
theorem ayT (y0):au d25 .ret [(8,.v .bool y0)]=some [.v .bool y0]:=by kernel_rfl
def Hg (x0:aq) (x1 x2:Int) (x3:V1) (k:Bool→Option R):Option R:=
(Pv k x0 x1 x2 x3)
theorem ajN (x0 x1 x2 x3) (k:List E→Option R):exec cl N J6 (OM x0 x1 x2 x3) (fun e env=>(au d25 e env).bind k)=Hg x0 x1 x2 x3 (fun r0=>k [.v .bool r0]):=by
 simp only [J6,aD8,ayT,ah]
 rfl
def fT (S:aq→Int→Int→V1→Option (Bool)):a7:=cv4 25 cc U2 U2 .str S fun b=> [.v .bool b]
def aE (N:Nat) (x0:aq) (x1:Int) (x2:Int) (x3:V1):Option (Bool):=Hg x0 x1 x2 x3 (fun (r0:Bool)=>some (r0))
def Pw (k0:aq→Int→ad→Option R) (x0:aq) (x1:Int):Option R:=
k0 x0 x1 ([],([],()))
theorem aD9 (x0 x1):exec cl N VJ (tJ x0 x1) K=(Pw (fun y0 y1 y2=>K .normal [(0,.v cc y0),(1,.v U2 y1),(4,.loc af .no y2)]) x0 x1):=by
 kernel_rfl
def Px (k0:aq→Int→ad→Bool→Option R) (x0:aq) (x1:Int) (x2:ad):Option R:=
k0 x0 x1 x2 (decide (x1 < (x0.length:Int)))
theorem aEa (x0 x1 x2):exec cl N VK [(0,.v cc x0),(1,.v U2 x1),(4,.loc af .no x2)] K=(Px (fun y0 y1 y2 y3=>K .normal (Gf y0 y1 y2 y3)) x0 x1 x2):=by
 kernel_rfl
def Py (k0:ad→Int→Int→Option R) (x0:aq) (x1:Int) (x2:ad) (x3:Bool):Option R:=
if 0≤x1∧x1 < (x0.length:Int) then
k0 ([],[],()) ((x0.getD x1.toNat ((0:Int),([],((0:Int),())))).2.2.1) (2:Int)
else none
theorem aEb (x0 x1 x2 x3):exec cl N VL (Gf x0 x1 x2 x3) K=(Py (fun y0 y1 y2=>K .normal (rF y0 y1 y2)) x0 x1 x2 x3):=by
 kernel_rfl
theorem apP (x0 x1 x2):ae [0,4,5,6] (rF x0 x1 x2)=(ON x0 x1 x2):=by kernel_rfl
theorem apQ (x0 x1 x2 x3):ae [0,4,5,6] (Gf x0 x1 x2 x3)=(ad3 x0 x2):=by kernel_rfl
theorem alg (x0 x1 x2 x3):aD (ag (Gf x0 x1 x2 x3) (.t 10))=some x3:=by kernel_rfl
def Pz (k0:aq→ad→Bool→Option R) (x0:aq) (x1:ad):Option R:=
k0 x0 x1 (decide ((x0.length:Int) > (0:Int)))
theorem aEc (x0 x1):exec cl N VN (ad3 x0 x1) K=(Pz (fun y0 y1 y2=>K .normal (Gg y0 y1 y2)) x0 x1):=by
 kernel_rfl
def PA (k0:ad→Int→Int→Option R) (x0:aq) (x1:ad) (x2:Bool):Option R:=
let v1052:Int:=(IntKind.i64.wrap ((x0.length:Int) - (1:Int)))
if 0≤v1052∧v1052 < (x0.length:Int) then
k0 ([],[],()) ((x0.getD v1052.toNat ((0:Int),([],((0:Int),())))).2.2.1) (2:Int)
else none
theorem aEd (x0 x1 x2):exec cl N VO (Gg x0 x1 x2) K=(PA (fun y0 y1 y2=>K .normal (rF y0 y1 y2)) x0 x1 x2):=by
 kernel_rfl
theorem apR (x0 x1 x2):ae [4,5,6] (rF x0 x1 x2)=(rF x0 x1 x2):=by kernel_rfl
theorem apS (x0 x1 x2):ae [4,5,6] (Gg x0 x1 x2)=[(4,.loc af .no x1),(5,.dead),(6,.dead)]:=by kernel_rfl
theorem alh (x0 x1 x2):aD (ag (Gg x0 x1 x2) (.t 19))=some x2:=by kernel_rfl
def PB (k0:ad→Int→Int→Option R) (x0:ad):Option R:=
k0 ([],[],()) (1:Int) (2:Int)
theorem aEe (x0):exec cl N VQ [(4,.loc af .no x0),(5,.dead),(6,.dead)] K=(PB (fun y0 y1 y2=>K .normal (OO y0 y1 y2)) x0):=by
 kernel_rfl
def PC (k0:ad→Int→Int→Option R) (k1:ad→Int→Int→Option R) (k2:ad→Int→Int→Option R) (x0:aq) (x1:Int):Option R:=
(Pw (Px (fun y0 y1 y2 y3=>al y3 (Py k0 y0 y1 y2 y3) ((Pz (fun y0 y1 y2=>al y2 (PA k1 y0 y1 y2) ((PB k2) y1))) y0 y2))) x0 x1)
theorem aEf (x0 x1):exec cl N J9 (tJ x0 x1) K=(PC (fun y0 y1 y2=>K .ret (ON y0 y1 y2)) (fun y0 y1 y2=>K .ret (rF y0 y1 y2)) (fun y0 y1 y2=>K .ret (OO y0 y1 y2)) x0 x1):=by
 simp only [J9,aM,aP,aO,aQ,aD9,aEa,VM,aF,bf,alg,ah,ak,aj,aEb,bg,bj,apP,apQ,aEc,VP,alh,aEd,apR,apS,aEe]
 rfl
theorem ayU (y0 y1 y2):au d26 .ret (ON y0 y1 y2)=some [.v af y0,.v U2 y1,.v U2 y2]:=by kernel_rfl
theorem ayV (y0 y1 y2):au d26 .ret (rF y0 y1 y2)=some [.v af y0,.v U2 y1,.v U2 y2]:=by kernel_rfl
theorem ayW (y0 y1 y2):au d26 .ret (OO y0 y1 y2)=some [.v af y0,.v U2 y1,.v U2 y2]:=by kernel_rfl
def Hh (x0:aq) (x1:Int) (k:ad→Int→Int→Option R):Option R:=
(PC k k k x0 x1)
theorem ajO (x0 x1) (k:List E→Option R):exec cl N J8 (tJ x0 x1) (fun e env=>(au d26 e env).bind k)=Hh x0 x1 (fun r0 r1 r2=>k [.v af r0,.v U2 r1,.v U2 r2]):=by
 simp only [J8,aEf,ayU,ayV,ayW,ah]
 rfl
def lM (S:aq→Int→Option eT):a7:=jK 26 cc U2 S fun b=> [.v af b.1,.v U2 b.2.1,.v U2 b.2.2]
def bD (N:Nat) (x0:aq) (x1:Int):Option eT:=Hh x0 x1 (fun (r0:ad) (r1:Int) (r2:Int)=>some (r0,r1,r2))
def zY (k0:V1→Option R) (x0:V1):Option R:=
k0 x0
theorem aHr (x0):exec cl N Y3 [(0,.v .str x0)] K=(zY (fun y0=>K .normal [(0,.v .str y0)]) x0):=by
 kernel_rfl
def zZ (dh:V1→Option (Int)) (k0:V1→Bool→Option R) (x0:V1):Option R:=
al (x0==([]:List UInt8)) (k0 x0 true) (al (decide ((x0.length:Int) > (6:Int))) (k0 x0 true) ((dh x0).bind fun r1080=>
al (r1080 != (x0.length:Int)) (k0 x0 true) (if 0≤(0:Int)∧(0:Int) < (x0.length:Int) then
al (((x0.getD (0:Int).toNat 0).toNat:Int)==(48:Int)) (k0 x0 (decide ((x0.length:Int) > (1:Int)))) (k0 x0 false)
else none)))
theorem aHs (dh) (h66:(rq dh).holds cl) (x0):exec cl N Y4 [(0,.v .str x0)] K=(zZ dh (fun y0 y1=>K .normal (Gi y0 y1)) x0):=by
 rw [←put_eq h66]
 kernel_rfl
def Ac (k0:Int→Bool→Option R) (x0:V1) (x1:Bool):Option R:=
k0 (0:Int) false
theorem aHy (x0 x1):exec cl N Y8 (Gi x0 x1) K=(Ac (fun y0 y1=>K .normal (mj y0 y1)) x0 x1):=by
 kernel_rfl
theorem arP (x0 x1):ae [0,2,3] (mj x0 x1)=(tw x0 x1):=by kernel_rfl
theorem arQ (x0 x1):ae [0,2,3] (Gi x0 x1)=(Fi x0):=by kernel_rfl
theorem amc (x0 x1):aD (ag (Gi x0 x1) (.t 29))=some x1:=by kernel_rfl
def Ad (k0:V1→Int→Option R) (x0:V1):Option R:=
k0 x0 (0:Int)
theorem aHz (x0):exec cl N Za (Fi x0) K=(Ad (fun y0 y1=>K .normal (gx y0 y1)) x0):=by
 kernel_rfl
def Ae (k0:V1→Int→Int→Option R) (x0:V1) (x1:Int):Option R:=
k0 x0 x1 (0:Int)
theorem aHA (x0 x1):exec cl N Zb (gx x0 x1) K=(Ae (fun y0 y1 y2=>K .normal (hY y0 y1 y2)) x0 x1):=by
 kernel_rfl
theorem Rx (x0 x1 x2):ae [0,4,5] (hY x0 x1 x2)=(hY x0 x1 x2):=by kernel_rfl
def Af (k0:V1→Int→Int→Bool→Option R) (x0:V1) (x1 x2:Int):Option R:=
k0 x0 x1 x2 (decide (x2 < (x0.length:Int)))
theorem aHB (x0 x1 x2):exec cl N Zc (hY x0 x1 x2) K=(Af (fun y0 y1 y2 y3=>K .normal (OP y0 y1 y2 y3)) x0 x1 x2):=by
 kernel_rfl
theorem arR (x0 x1 x2 x3):ae [0,4,5] (OP x0 x1 x2 x3)=(hY x0 x1 x2):=by kernel_rfl
theorem amd (x0 x1 x2 x3):aD (ag (OP x0 x1 x2 x3) (.t 33))=some x3:=by kernel_rfl
def Ag (k0:V1→Int→Int→Option R) (x0:V1) (x1 x2:Int):Option R:=
if 0≤x2∧x2 < (x0.length:Int) then
k0 x0 (IntKind.i64.wrap ((IntKind.i64.wrap ((10:Int) * x1))+(IntKind.i64.wrap (IntKind.u8.wrap (((x0.getD x2.toNat 0).toNat:Int) - (48:Int)))))) x2
else none
theorem aHC (x0 x1 x2):exec cl N Ze (hY x0 x1 x2) K=(Ag (fun y0 y1 y2=>K .normal (hY y0 y1 y2)) x0 x1 x2):=by
 kernel_rfl
def z6 (k0:V1→Int→Int→Option R) (x0:V1) (x1 x2:Int):Option R:=
k0 x0 x1 (IntKind.i64.wrap (x2+(1:Int)))
theorem aHt (x0 x1 x2):exec cl N Y5 (hY x0 x1 x2) K=(z6 (fun y0 y1 y2=>K .normal (hY y0 y1 y2)) x0 x1 x2):=by
 kernel_rfl
def z7 (k0:V1→Int→Int→Option R) (k1:V1→Int→Int→Option R) (x0:V1) (x1 x2:Int):Option R:=
(Af (fun y0 y1 y2 y3=>al y3 ((Ag ((z6 k0))) y0 y1 y2) (k1 y0 y1 y2)) x0 x1 x2)
theorem aHu (x0 x1 x2):exec cl N DZ (hY x0 x1 x2) K=(z7 (fun y0 y1 y2=>K .normal (hY y0 y1 y2)) (fun y0 y1 y2=>K (.exit 0) (hY y0 y1 y2)) x0 x1 x2):=by
 simp only [DZ,aM,aP,aO,aQ,aHB,Zd,aF,bf,amd,ah,ak,aj,bj,cG,arR,Zf,bt,aHC,bp,bq,bo,Rx,aHt]
 rfl
def uM {R:Type} (k0:V1→Int→Int→Option R):Nat→V1→Int→Int→Option R
 | 0,_,_,_=>none
 | m+1,x0,x1,x2=>(z7 (uM k0 m) k0 x0 x1 x2)
theorem awi:∀ (m) (x0 x1 x2),iter [0,4,5] (fun env K=>exec cl N DZ env K) K m (hY x0 x1 x2)=uM (fun y0 y1 y2=>K (.exit 0) (hY y0 y1 y2)) m x0 x1 x2:=by
 intro m
 induction m with
 | zero=>intros; rfl
 | succ m ih=>
   intro x0 x1 x2
   simp only [cA,aHu,cC,cB,cD,Rx,ih]
   rfl
theorem arS (x0 x1 x2):ae [4] (hY x0 x1 x2)=[(4,.v U2 x1)]:=by kernel_rfl
def z8 (N:Nat) (k0:Int→Option R) (x0:V1) (x1 x2:Int):Option R:=
uM (fun y0 y1 y2=>k0 y1) N x0 x1 x2
theorem aHv (x0 x1 x2):exec cl N Lx (hY x0 x1 x2) K=(z8 N (fun y0=>K (.exit 0) [(4,.v U2 y0)]) x0 x1 x2):=by
 simp only [Lx,aF,cz,Rx,awi,arS]
 rfl
theorem arT (x0):ae [4] [(4,.v U2 x0)]=[(4,.v U2 x0)]:=by kernel_rfl
def Aa (k0:Int→Bool→Option R) (x0:Int):Option R:=
k0 x0 true
theorem aHw (x0):exec cl N Y7 [(4,.v U2 x0)] K=(Aa (fun y0 y1=>K .normal (mj y0 y1)) x0):=by
 kernel_rfl
def Ab (N:Nat) (dh:V1→Option (Int)) (k0:Int→Bool→Option R) (k1:Int→Bool→Option R) (x0:V1):Option R:=
(zY (zZ dh (fun y0 y1=>al y1 (Ac k0 y0 y1) ((Ad (Ae (z8 N ((Aa k1))))) y0))) x0)
theorem aHx (dh) (h66:(rq dh).holds cl) (x0):exec cl N Ly [(0,.v .str x0)] K=(Ab N dh (fun y0 y1=>K .ret (tw y0 y1)) (fun y0 y1=>K .ret (mj y0 y1)) x0):=by
 simp only [Ly,aM,aP,aO,aQ,aHr,aHs dh h66,Y9,aF,bf,amc,ah,ak,aj,aHy,bg,bj,arP,arQ,aHz,aHA,Y6,bt,aHv,bp,bq,bo,arT,aHw]
 rfl
theorem azv (y0 y1):au d50 .ret (tw y0 y1)=some [.v U2 y0,.v .bool y1]:=by kernel_rfl
theorem azw (y0 y1):au d50 .ret (mj y0 y1)=some [.v U2 y0,.v .bool y1]:=by kernel_rfl
def uc (N:Nat) (dh:V1→Option (Int)) (x0:V1) (k:Int→Bool→Option R):Option R:=
(Ab N dh k k x0)
theorem aj8 (dh) (h66:(rq dh).holds cl) (x0) (k:List E→Option R):exec cl N Lw [(0,.v .str x0)] (fun e env=>(au d50 e env).bind k)=uc N dh x0 (fun r0 r1=>k [.v U2 r0,.v .bool r1]):=by
 simp only [Lw,aHx dh h66,azv,azw,ah]
 rfl
def EF (S:V1→Option V3):a7:=cw 50 .str S fun b=> [.v U2 b.1,.v .bool b.2]
def fM (N:Nat) (x0:V1):Option V3:=uc N (dh N) x0 (fun (r0:Int) (r1:Bool)=>some (r0,r1))
def r7 (k0:aq→Int→ay→ay→Option R) (x0:aq) (x1:Int):Option R:=
k0 x0 x1 ((0:Int),((0:Int),([],()))) ((0:Int),((0:Int),([],())))
theorem aEs (x0 x1):exec cl N Ki (tJ x0 x1) K=(r7 (fun y0 y1 y2 y3=>exec cl N (.seq (.seq Kc Kj) (.seq (.seq Kk Kl) Kh)) (ko y0 y1 y2 y3) K) x0 x1):=by
 kernel_rfl
def rU (aE:aq→Int→Int→V1→Option (Bool)) (k0:aq→Int→ay→ay→Bool→Option R) (x0:aq) (x1:Int) (x2 x3:ay):Option R:=
(aE x0 x1 (1:Int) ([]:List UInt8)).bind fun r1108=>
k0 x0 x1 x2 x3 (!r1108)
theorem aEl (aE) (h25:(fT aE).holds cl) (x0 x1 x2 x3):exec cl N Kc (ko x0 x1 x2 x3) K=(rU aE (fun y0 y1 y2 y3 y4=>K .normal (Gj y0 y1 y2 y3 y4)) x0 x1 x2 x3):=by
 rw [←put_eq h25]
 kernel_rfl
def r9 (k0:ay→Int→Bool→Option R) (x0:aq) (x1:Int) (x2 x3:ay) (x4:Bool):Option R:=
k0 x3 x1 false
theorem aEu (x0 x1 x2 x3 x4):exec cl N VZ (Gj x0 x1 x2 x3 x4) K=(r9 (fun y0 y1 y2=>K .normal (nI y0 y1 y2)) x0 x1 x2 x3 x4):=by
 kernel_rfl
theorem agk (x0 x1 x2):ae [0,1,4,5,6,7] (nI x0 x1 x2)=(nJ x0 x1 x2):=by kernel_rfl
theorem apT (x0 x1 x2 x3 x4):ae [0,1,4,5,6,7] (Gj x0 x1 x2 x3 x4)=(gZ x0 x1 x2 x3):=by kernel_rfl
theorem ali (x0 x1 x2 x3 x4):aD (ag (Gj x0 x1 x2 x3 x4) (.t 11))=some x4:=by kernel_rfl
def sa (aE:aq→Int→Int→V1→Option (Bool)) (k0:aq→Int→ay→ay→Bool→Option R) (x0:aq) (x1:Int) (x2 x3:ay):Option R:=
(aE x0 (IntKind.i64.wrap (x1+(1:Int))) (2:Int) ([]:List UInt8)).bind fun r1110=>
k0 x0 x1 x2 x3 (!r1110)
theorem aEv (aE) (h25:(fT aE).holds cl) (x0 x1 x2 x3):exec cl N Kk (gZ x0 x1 x2 x3) K=(sa aE (fun y0 y1 y2 y3 y4=>K .normal (Gk y0 y1 y2 y3 y4)) x0 x1 x2 x3):=by
 rw [←put_eq h25]
 kernel_rfl
def sc (k0:ay→Int→Bool→Option R) (x0:aq) (x1:Int) (x2 x3:ay) (x4:Bool):Option R:=
k0 x3 (IntKind.i64.wrap (x1+(1:Int))) false
theorem aEw (x0 x1 x2 x3 x4):exec cl N Wa (Gk x0 x1 x2 x3 x4) K=(sc (fun y0 y1 y2=>K .normal (nI y0 y1 y2)) x0 x1 x2 x3 x4):=by
 kernel_rfl
theorem apX (x0 x1 x2 x3 x4):ae [0,1,4,5,6,7] (Gk x0 x1 x2 x3 x4)=(gZ x0 x1 x2 x3):=by kernel_rfl
theorem alj (x0 x1 x2 x3 x4):aD (ag (Gk x0 x1 x2 x3 x4) (.t 18))=some x4:=by kernel_rfl
def r6 (fM:V1→Option V3) (k0:aq→Int→ay→ay→Option R) (x0:aq) (x1:Int) (x2 x3:ay):Option R:=
let v1114:Int:=(IntKind.i64.wrap (x1+(1:Int)))
if 0≤v1114∧v1114 < (x0.length:Int) then
(fM ((x0.getD v1114.toNat ((0:Int),([],((0:Int),())))).2.1)).bind fun r1115=>
k0 x0 (IntKind.i64.wrap (x1+(2:Int))) x2 (x3.1,(r1115.1,x3.2.2))
else none
theorem aEr (fM) (h50:(EF fM).holds cl) (x0 x1 x2 x3):exec cl N Kh (gZ x0 x1 x2 x3) K=(r6 fM (fun y0 y1 y2 y3=>exec cl N (.seq DP (.seq (.seq Ke Kf) (.seq Kg .ret))) (ko y0 y1 y2 y3) K) x0 x1 x2 x3):=by
 rw [←put_eq h50]
 kernel_rfl
def rP (aE:aq→Int→Int→V1→Option (Bool)) (k0:aq→Int→ay→ay→Bool→Option R) (x0:aq) (x1:Int) (x2 x3:ay):Option R:=
(aE x0 x1 (1:Int) ([105,110]:List UInt8)).bind fun r1117=>
k0 x0 x1 x2 x3 r1117
theorem aEg (aE) (h25:(fT aE).holds cl) (x0 x1 x2 x3):exec cl N VR (ko x0 x1 x2 x3) K=(rP aE (fun y0 y1 y2 y3 y4=>K .normal (wm y0 y1 y2 y3 y4)) x0 x1 x2 x3):=by
 rw [←put_eq h25]
 kernel_rfl
theorem apY (x0 x1 x2 x3 x4):ae [0,1,4,7] (wm x0 x1 x2 x3 x4)=(ko x0 x1 x2 x3):=by kernel_rfl
def rQ (aE:aq→Int→Int→V1→Option (Bool)) (k0:aq→Int→ay→ay→Bool→Option R) (x0:aq) (x1:Int) (x2 x3:ay):Option R:=
(aE x0 (IntKind.i64.wrap (x1+(1:Int))) (3:Int) ([]:List UInt8)).bind fun r1119=>
k0 x0 x1 x2 x3 (!r1119)
theorem aEh (aE) (h25:(fT aE).holds cl) (x0 x1 x2 x3):exec cl N VS (ko x0 x1 x2 x3) K=(rQ aE (fun y0 y1 y2 y3 y4=>K .normal (Gm y0 y1 y2 y3 y4)) x0 x1 x2 x3):=by
 rw [←put_eq h25]
 kernel_rfl
def rR (k0:ay→Int→Bool→Option R) (x0:aq) (x1:Int) (x2 x3:ay) (x4:Bool):Option R:=
k0 x3 (IntKind.i64.wrap (x1+(1:Int))) false
theorem aEi (x0 x1 x2 x3 x4):exec cl N VT (Gm x0 x1 x2 x3 x4) K=(rR (fun y0 y1 y2=>K .normal (nI y0 y1 y2)) x0 x1 x2 x3 x4):=by
 kernel_rfl
theorem apZ (x0 x1 x2 x3 x4):ae [0,1,4,5,6,7] (Gm x0 x1 x2 x3 x4)=(gZ x0 x1 x2 x3):=by kernel_rfl
theorem alk (x0 x1 x2 x3 x4):aD (ag (Gm x0 x1 x2 x3 x4) (.t 42))=some x4:=by kernel_rfl
def rS (aE:aq→Int→Int→V1→Option (Bool)) (k0:aq→Int→ay→ay→Bool→Option R) (x0:aq) (x1:Int) (x2 x3:ay):Option R:=
let v1124:Int:=(IntKind.i64.wrap (x1+(1:Int)))
if 0≤v1124∧v1124 < (x0.length:Int) then
if x3.2.2.1.length+[(x0.getD v1124.toNat ((0:Int),([],((0:Int),())))).2.1].length≤8796093022208 then
let v1125:Int:=(IntKind.i64.wrap (x1+(2:Int)))
(aE x0 v1125 (4:Int) ([44]:List UInt8)).bind fun r1126=>
k0 x0 v1125 x2 (x3.1,(x3.2.1,((x3.2.2.1++[(x0.getD v1124.toNat ((0:Int),([],((0:Int),())))).2.1]),x3.2.2.2))) (!r1126)
else none
else none
theorem aEj (aE) (h25:(fT aE).holds cl) (x0 x1 x2 x3):exec cl N VV (gZ x0 x1 x2 x3) K=(rS aE (fun y0 y1 y2 y3 y4=>exec cl N Kb (OQ y0 y1 y2 y3 y4) K) x0 x1 x2 x3):=by
 rw [←put_eq h25]
 kernel_rfl
theorem ap0 (x0 x1 x2 x3 x4):ae [0,1,4,7] (OQ x0 x1 x2 x3 x4)=(ko x0 x1 x2 x3):=by kernel_rfl
theorem alm (x0 x1 x2 x3 x4):aD (ag (OQ x0 x1 x2 x3 x4) (.t 62))=some x4:=by kernel_rfl
theorem Rs (x0 x1 x2):ae [0,1,4,5,6,7] (nJ x0 x1 x2)=(nJ x0 x1 x2):=by kernel_rfl
theorem ap1 (x0 x1 x2 x3):ae [0,1,4,5,6,7] (ko x0 x1 x2 x3)=(gZ x0 x1 x2 x3):=by kernel_rfl
def rT (aE:aq→Int→Int→V1→Option (Bool)) (k0:ay→Int→Bool→Option R) (k1:aq→Int→ay→ay→Option R) (k2:aq→Int→ay→ay→Option R) (x0:aq) (x1:Int) (x2 x3:ay):Option R:=
(rQ aE (fun y0 y1 y2 y3 y4=>al y4 (rR k0 y0 y1 y2 y3 y4) ((rS aE (fun y0 y1 y2 y3 y4=>al y4 (k1 y0 y1 y2 y3) (k2 y0 y1 y2 y3))) y0 y1 y2 y3)) x0 x1 x2 x3)
theorem aEk (aE) (h25:(fT aE).holds cl) (x0 x1 x2 x3):exec cl N DO (ko x0 x1 x2 x3) K=(rT aE (fun y0 y1 y2=>K .ret (nJ y0 y1 y2)) (fun y0 y1 y2 y3=>K (.exit 0) (gZ y0 y1 y2 y3)) (fun y0 y1 y2 y3=>K .normal (gZ y0 y1 y2 y3)) x0 x1 x2 x3):=by
 simp only [DO,aF,bt,aM,aP,aO,aQ,aEh aE h25,VU,bf,alk,ah,ak,aj,aEi,bg,bj,agk,apZ,aEj aE h25,Kb,alm,cG,ap0,bp,bq,bo,S2 1 0 rfl,Rs,ap1]
 rfl
theorem ap2 (x0 x1 x2 x3):ae [0,1,4,7] (gZ x0 x1 x2 x3)=(ko x0 x1 x2 x3):=by kernel_rfl
def na {R:Type} (aE:aq→Int→Int→V1→Option (Bool)) (k0:ay→Int→Bool→Option R) (k1:aq→Int→ay→ay→Option R):Nat→aq→Int→ay→ay→Option R
 | 0,_,_,_,_=>none
 | m+1,x0,x1,x2,x3=>(rT aE k0 k1 (na aE k0 k1 m) x0 x1 x2 x3)
theorem av8 (aE) (h25:(fT aE).holds cl):∀ (m) (x0 x1 x2 x3),iter [0,1,4,7] (fun env K=>exec cl N DO env K) K m (ko x0 x1 x2 x3)=na aE (fun y0 y1 y2=>K .ret (nJ y0 y1 y2)) (fun y0 y1 y2 y3=>K (.exit 0) (gZ y0 y1 y2 y3)) m x0 x1 x2 x3:=by
 intro m
 induction m with
 | zero=>intros; rfl
 | succ m ih=>
   intro x0 x1 x2 x3
   simp only [cA,aEk aE h25,cC,cB,cD,ap2,ih]
   rfl
theorem agl (x0 x1 x2 x3):ae [0,1,4,5,6,7] (gZ x0 x1 x2 x3)=(gZ x0 x1 x2 x3):=by kernel_rfl
def rV (N:Nat) (aE:aq→Int→Int→V1→Option (Bool)) (k0:ay→Int→Bool→Option R) (k1:aq→Int→ay→ay→Option R) (x0:aq) (x1:Int) (x2 x3:ay) (x4:Bool):Option R:=
na aE k0 k1 N x0 x1 x2 x3
theorem aEm (aE) (h25:(fT aE).holds cl) (x0 x1 x2 x3 x4):exec cl N Kd (wm x0 x1 x2 x3 x4) K=(rV N aE (fun y0 y1 y2=>K .ret (nJ y0 y1 y2)) (fun y0 y1 y2 y3=>K (.exit 0) (gZ y0 y1 y2 y3)) x0 x1 x2 x3 x4):=by
 simp only [Kd,aF,cz,apY,av8 aE h25,Rs,agl]
 rfl
theorem apU (x0 x1 x2 x3 x4):ae [0,1,4,5,6,7] (wm x0 x1 x2 x3 x4)=(gZ x0 x1 x2 x3):=by kernel_rfl
theorem aln (x0 x1 x2 x3 x4):aD (ag (wm x0 x1 x2 x3 x4) (.t 37))=some x4:=by kernel_rfl
def rW (N:Nat) (aE:aq→Int→Int→V1→Option (Bool)) (k0:ay→Int→Bool→Option R) (k1:aq→Int→ay→ay→Option R) (x0:aq) (x1:Int) (x2 x3:ay):Option R:=
(rP aE (fun y0 y1 y2 y3 y4=>al y4 (rV N aE k0 k1 y0 y1 y2 y3 y4) (k1 y0 y1 y2 y3)) x0 x1 x2 x3)
theorem aEn (aE) (h25:(fT aE).holds cl) (x0 x1 x2 x3):exec cl N DP (ko x0 x1 x2 x3) K=(rW N aE (fun y0 y1 y2=>K .ret (nJ y0 y1 y2)) (fun y0 y1 y2 y3=>K .normal (gZ y0 y1 y2 y3)) x0 x1 x2 x3):=by
 simp only [DP,aM,aP,aO,aQ,aEg aE h25,VX,aF,bf,aln,ah,ak,aj,VW,bt,aEm aE h25,bp,bq,bo,Rs,agl,bj,apU]
 rfl
def rX (aE:aq→Int→Int→V1→Option (Bool)) (k0:Int→ay→ay→Bool→Option R) (x0:aq) (x1:Int) (x2 x3:ay):Option R:=
(aE x0 x1 (4:Int) ([59]:List UInt8)).bind fun r1127=>
k0 x1 x2 x3 (!r1127)
theorem aEo (aE) (h25:(fT aE).holds cl) (x0 x1 x2 x3):exec cl N Ke (gZ x0 x1 x2 x3) K=(rX aE (fun y0 y1 y2 y3=>K .normal (Gn y0 y1 y2 y3)) x0 x1 x2 x3):=by
 rw [←put_eq h25]
 kernel_rfl
def rY (k0:ay→Int→Bool→Option R) (x0:Int) (x1 x2:ay) (x3:Bool):Option R:=
k0 x2 x0 false
theorem aEp (x0 x1 x2 x3):exec cl N VY (Gn x0 x1 x2 x3) K=(rY (fun y0 y1 y2=>K .normal (nI y0 y1 y2)) x0 x1 x2 x3):=by
 kernel_rfl
theorem apV (x0 x1 x2):ae [1,4,5,6,7] (nI x0 x1 x2)=(OR x0 x1 x2):=by kernel_rfl
theorem apW (x0 x1 x2 x3):ae [1,4,5,6,7] (Gn x0 x1 x2 x3)=(ad4 x0 x1 x2):=by kernel_rfl
theorem alo (x0 x1 x2 x3):aD (ag (Gn x0 x1 x2 x3) (.t 66))=some x3:=by kernel_rfl
def rZ (k0:ay→Int→Bool→Option R) (x0:Int) (x1 x2:ay):Option R:=
k0 x2 (IntKind.i64.wrap (x0+(1:Int))) true
theorem aEq (x0 x1 x2):exec cl N Kg (ad4 x0 x1 x2) K=(rZ (fun y0 y1 y2=>K .normal (nI y0 y1 y2)) x0 x1 x2):=by
 kernel_rfl
def r8 (N:Nat) (aE:aq→Int→Int→V1→Option (Bool)) (fM:V1→Option V3) (k0:ay→Int→Bool→Option R) (k1:ay→Int→Bool→Option R) (k2:ay→Int→Bool→Option R) (x0:aq) (x1:Int):Option R:=
(r7 (rU aE (fun y0 y1 y2 y3 y4=>al y4 (r9 k0 y0 y1 y2 y3 y4) ((sa aE (fun y0 y1 y2 y3 y4=>al y4 (sc k0 y0 y1 y2 y3 y4) ((r6 fM (rW N aE k0 (rX aE (fun y0 y1 y2 y3=>al y3 (rY k1 y0 y1 y2 y3) ((rZ k2) y0 y1 y2))))) y0 y1 y2 y3))) y0 y1 y2 y3))) x0 x1)
theorem aEt (aE) (fM) (h25:(fT aE).holds cl) (h50:(EF fM).holds cl) (x0 x1):exec cl N Ki (tJ x0 x1) K=(r8 N aE fM (fun y0 y1 y2=>K .ret (nJ y0 y1 y2)) (fun y0 y1 y2=>K .ret (OR y0 y1 y2)) (fun y0 y1 y2=>K .ret (nI y0 y1 y2)) x0 x1):=by
 simp only [aM,aP,aO,aQ,aEs,aEl aE h25,Kj,aF,bf,ali,ah,ak,aj,aEu,bg,bj,agk,apT,aEv aE h25,Kl,alj,aEw,apX,aEr fM h50,aEn aE h25,aEo aE h25,Kf,alo,aEp,apV,apW,aEq]
 rfl
theorem ayX (y0 y1 y2):au d27 .ret (nJ y0 y1 y2)=some [.v aw y0,.v U2 y1,.v .bool y2]:=by kernel_rfl
theorem ayY (y0 y1 y2):au d27 .ret (OR y0 y1 y2)=some [.v aw y0,.v U2 y1,.v .bool y2]:=by kernel_rfl
theorem ayZ (y0 y1 y2):au d27 .ret (nI y0 y1 y2)=some [.v aw y0,.v U2 y1,.v .bool y2]:=by kernel_rfl
def pM (N:Nat) (aE:aq→Int→Int→V1→Option (Bool)) (fM:V1→Option V3) (x0:aq) (x1:Int) (k:ay→Int→Bool→Option R):Option R:=
(r8 N aE fM k k k x0 x1)
theorem ajP (aE) (fM) (h25:(fT aE).holds cl) (h50:(EF fM).holds cl) (x0 x1) (k:List E→Option R):exec cl N Ka (tJ x0 x1) (fun e env=>(au d27 e env).bind k)=pM N aE fM x0 x1 (fun r0 r1 r2=>k [.v aw r0,.v U2 r1,.v .bool r2]):=by
 simp only [Ka,aEt aE fM h25 h50,ayX,ayY,ayZ,ah]
 rfl
def qS (S:aq→Int→Option oN):a7:=jK 27 cc U2 S fun b=> [.v aw b.1,.v U2 b.2.1,.v .bool b.2.2]
def cg (N:Nat) (x0:aq) (x1:Int):Option oN:=pM N (aE N) (fM N) x0 x1 (fun (r0:ay) (r1:Int) (r2:Bool)=>some (r0,r1,r2))
def lf (fK:V1→Option mb) (k0:ad→aq→Int→Int→Option R) (x0:V1):Option R:=
(fK x0).bind fun r1148=>
k0 ([],([],())) r1148.1 r1148.2.1 r1148.2.2
theorem aLo (fK) (h24:(EB fK).holds cl) (x0):exec cl N Nw [(0,.v .str x0)] K=(lf fK (fun y0 y1 y2 y3=>exec cl N (.seq (.seq Nf Nl) (.seq (.seq Np Nx) (.seq (.seq Ny Nb) (.seq (.seq Nc Nd) Nv)))) [(2,.loc af .no y0),(5,.v cc y1),(6,.v U2 y2),(7,.v U2 y3)] K) x0):=by
 rw [←put_eq h24]
 kernel_rfl
def ky (k0:ad→aq→Int→Int→Bool→Option R) (x0:ad) (x1:aq) (x2 x3:Int):Option R:=
k0 x0 x1 x2 x3 (x3 != (0:Int))
theorem aKU (x0 x1 x2 x3):exec cl N Nf [(2,.loc af .no x0),(5,.v cc x1),(6,.v U2 x2),(7,.v U2 x3)] K=(ky (fun y0 y1 y2 y3 y4=>K .normal (Gp y0 y1 y2 y3 y4)) x0 x1 x2 x3):=by
 kernel_rfl
def kE (k0:ad→Int→Int→Option R) (x0:ad) (x1:aq) (x2 x3:Int) (x4:Bool):Option R:=
k0 ([],[],()) x2 x3
theorem aK0 (x0 x1 x2 x3 x4):exec cl N acb (Gp x0 x1 x2 x3 x4) K=(kE (fun y0 y1 y2=>K .normal (mq y0 y1 y2)) x0 x1 x2 x3 x4):=by
 kernel_rfl
theorem atZ (x0 x1 x2):ae [2,3,4,5] (mq x0 x1 x2)=(tC x0 x1 x2):=by kernel_rfl
theorem at0 (x0 x1 x2 x3 x4):ae [2,3,4,5] (Gp x0 x1 x2 x3 x4)=(o6 x0 x1):=by kernel_rfl
theorem amW (x0 x1 x2 x3 x4):aD (ag (Gp x0 x1 x2 x3 x4) (.t 24))=some x4:=by kernel_rfl
def kV (aE:aq→Int→Int→V1→Option (Bool)) (k0:ad→aq→Bool→Option R) (x0:ad) (x1:aq):Option R:=
(aE x1 (0:Int) (1:Int) ([108,105,99,101,110,99,101]:List UInt8)).bind fun r1150=>
k0 x0 x1 (!r1150)
theorem aLf (aE) (h25:(fT aE).holds cl) (x0 x1):exec cl N Np (o6 x0 x1) K=(kV aE (fun y0 y1 y2=>K .normal (Gq y0 y1 y2)) x0 x1):=by
 rw [←put_eq h25]
 kernel_rfl
def k9 (bD:aq→Int→Option eT) (k0:ad→Int→Int→Option R) (x0:ad) (x1:aq) (x2:Bool):Option R:=
(bD x1 (0:Int)).bind fun r1151=>
k0 r1151.1 r1151.2.1 r1151.2.2
theorem aLk (bD) (h26:(lM bD).holds cl) (x0 x1 x2):exec cl N acw (Gq x0 x1 x2) K=(k9 bD (fun y0 y1 y2=>K .normal (gN y0 y1 y2)) x0 x1 x2):=by
 rw [←put_eq h26]
 kernel_rfl
theorem at7 (x0 x1 x2):ae [2,3,4,5] (gN x0 x1 x2)=(OS x0 x1 x2):=by kernel_rfl
theorem auk (x0 x1 x2):ae [2,3,4,5] (Gq x0 x1 x2)=(o6 x0 x1):=by kernel_rfl
theorem amX (x0 x1 x2):aD (ag (Gq x0 x1 x2) (.t 30))=some x2:=by kernel_rfl
def lh (aE:aq→Int→Int→V1→Option (Bool)) (k0:ad→aq→Bool→Option R) (x0:ad) (x1:aq):Option R:=
(aE x1 (1:Int) (1:Int) ([]:List UInt8)).bind fun r1152=>
k0 x0 x1 (!r1152)
theorem aLq (aE) (h25:(fT aE).holds cl) (x0 x1):exec cl N Ny (o6 x0 x1) K=(lh aE (fun y0 y1 y2=>K .normal (Gt y0 y1 y2)) x0 x1):=by
 rw [←put_eq h25]
 kernel_rfl
def lj (bD:aq→Int→Option eT) (k0:ad→Int→Int→Option R) (x0:ad) (x1:aq) (x2:Bool):Option R:=
(bD x1 (1:Int)).bind fun r1153=>
k0 r1153.1 r1153.2.1 r1153.2.2
theorem aLr (bD) (h26:(lM bD).holds cl) (x0 x1 x2):exec cl N acx (Gt x0 x1 x2) K=(lj bD (fun y0 y1 y2=>K .normal (gN y0 y1 y2)) x0 x1 x2):=by
 rw [←put_eq h26]
 kernel_rfl
theorem auo (x0 x1 x2):ae [2,3,4,5] (Gt x0 x1 x2)=(o6 x0 x1):=by kernel_rfl
theorem am0 (x0 x1 x2):aD (ag (Gt x0 x1 x2) (.t 38))=some x2:=by kernel_rfl
def kp (aE:aq→Int→Int→V1→Option (Bool)) (k0:ad→aq→Bool→Option R) (x0:ad) (x1:aq):Option R:=
(aE x1 (2:Int) (4:Int) ([123]:List UInt8)).bind fun r1154=>
k0 x0 x1 (!r1154)
theorem aKQ (aE) (h25:(fT aE).holds cl) (x0 x1):exec cl N Nc (o6 x0 x1) K=(kp aE (fun y0 y1 y2=>K .normal (Gu y0 y1 y2)) x0 x1):=by
 rw [←put_eq h25]
 kernel_rfl
def kq (bD:aq→Int→Option eT) (k0:ad→Int→Int→Option R) (x0:ad) (x1:aq) (x2:Bool):Option R:=
(bD x1 (2:Int)).bind fun r1155=>
k0 r1155.1 r1155.2.1 r1155.2.2
theorem aKR (bD) (h26:(lM bD).holds cl) (x0 x1 x2):exec cl N ab2 (Gu x0 x1 x2) K=(kq bD (fun y0 y1 y2=>K .normal (gN y0 y1 y2)) x0 x1 x2):=by
 rw [←put_eq h26]
 kernel_rfl
theorem aup (x0 x1 x2):ae [2,3,4,5] (Gu x0 x1 x2)=(o6 x0 x1):=by kernel_rfl
theorem am1 (x0 x1 x2):aD (ag (Gu x0 x1 x2) (.t 46))=some x2:=by kernel_rfl
def ld (k0:ad→aq→ad→V0→Int→Option R) (x0:ad) (x1:aq):Option R:=
if 0≤(1:Int)∧(1:Int) < (x1.length:Int) then
k0 x0 x1 ((x1.getD (1:Int).toNat ((0:Int),([],((0:Int),())))).2.1,[],()) [] (3:Int)
else none
theorem aLn (x0 x1):exec cl N Nv (o6 x0 x1) K=(ld (fun y0 y1 y2 y3 y4=>exec cl N (.seq Nh (.seq (.seq Ni Nj) (.seq (.seq Nk Nr) (.seq Nt (.seq Nu .ret))))) (jl y0 y1 y2 y3 y4) K) x0 x1):=by
 kernel_rfl
theorem auq (x0 x1 x2 x3 x4):ae [2,5,8,9,10] (jl x0 x1 x2 x3 x4)=(jl x0 x1 x2 x3 x4):=by kernel_rfl
def kr (aE:aq→Int→Int→V1→Option (Bool)) (k0:ad→aq→ad→V0→Int→Bool→Option R) (x0:ad) (x1:aq) (x2:ad) (x3:V0) (x4:Int):Option R:=
(aE x1 x4 (4:Int) ([125]:List UInt8)).bind fun r1156=>
k0 x0 x1 x2 x3 x4 (!r1156)
theorem aKS (aE) (h25:(fT aE).holds cl) (x0 x1 x2 x3 x4):exec cl N ab3 (jl x0 x1 x2 x3 x4) K=(kr aE (fun y0 y1 y2 y3 y4 y5=>K .normal (OT y0 y1 y2 y3 y4 y5)) x0 x1 x2 x3 x4):=by
 rw [←put_eq h25]
 kernel_rfl
theorem aur (x0 x1 x2 x3 x4 x5):ae [2,5,8,9,10] (OT x0 x1 x2 x3 x4 x5)=(jl x0 x1 x2 x3 x4):=by kernel_rfl
theorem am2 (x0 x1 x2 x3 x4 x5):aD (ag (OT x0 x1 x2 x3 x4 x5) (.t 60))=some x5:=by kernel_rfl
def kx (cg:aq→Int→Option oN) (k0:ad→aq→ad→V0→Int→ay→Int→Bool→Option R) (x0:ad) (x1:aq) (x2:ad) (x3:V0) (x4:Int):Option R:=
(cg x1 x4).bind fun r1157=>
k0 x0 x1 x2 x3 x4 r1157.1 r1157.2.1 r1157.2.2
theorem aKT (cg) (h27:(qS cg).holds cl) (x0 x1 x2 x3 x4):exec cl N ab5 (jl x0 x1 x2 x3 x4) K=(kx cg (fun y0 y1 y2 y3 y4 y5 y6 y7=>K .normal (ad5 y0 y1 y2 y3 y4 y5 y6 y7)) x0 x1 x2 x3 x4):=by
 rw [←put_eq h27]
 kernel_rfl
def kz (k0:ad→aq→ad→V0→Int→ay→Int→Bool→Option R) (x0:ad) (x1:aq) (x2:ad) (x3:V0) (x4:Int) (x5:ay) (x6:Int) (x7:Bool):Option R:=
k0 x0 x1 x2 x3 x4 x5 x6 (!x7)
theorem aKV (x0 x1 x2 x3 x4 x5 x6 x7):exec cl N ab6 (ad5 x0 x1 x2 x3 x4 x5 x6 x7) K=(kz (fun y0 y1 y2 y3 y4 y5 y6 y7=>K .normal (Gv y0 y1 y2 y3 y4 y5 y6 y7)) x0 x1 x2 x3 x4 x5 x6 x7):=by
 kernel_rfl
def kA (bD:aq→Int→Option eT) (k0:ad→Int→Int→Option R) (x0:ad) (x1:aq) (x2:ad) (x3:V0) (x4:Int) (x5:ay) (x6:Int) (x7:Bool):Option R:=
(bD x1 x6).bind fun r1158=>
k0 r1158.1 r1158.2.1 r1158.2.2
theorem aKW (bD) (h26:(lM bD).holds cl) (x0 x1 x2 x3 x4 x5 x6 x7):exec cl N ab7 (Gv x0 x1 x2 x3 x4 x5 x6 x7) K=(kA bD (fun y0 y1 y2=>K .normal (gN y0 y1 y2)) x0 x1 x2 x3 x4 x5 x6 x7):=by
 rw [←put_eq h26]
 kernel_rfl
theorem aus (x0 x1 x2):ae [2,3,4,5,8,9,10,11,12] (gN x0 x1 x2)=(ad6 x0 x1 x2):=by kernel_rfl
theorem aut (x0 x1 x2 x3 x4 x5 x6 x7):ae [2,3,4,5,8,9,10,11,12] (Gv x0 x1 x2 x3 x4 x5 x6 x7)=(ad7 x0 x1 x2 x3 x4 x5 x6):=by kernel_rfl
theorem am3 (x0 x1 x2 x3 x4 x5 x6 x7):aD (ag (Gv x0 x1 x2 x3 x4 x5 x6 x7) (.t 69))=some x7:=by kernel_rfl
def kB (k0:ad→aq→ad→V0→Int→Option R) (x0:ad) (x1:aq) (x2:ad) (x3:V0) (x4:Int) (x5:ay) (x6:Int):Option R:=
if x2.2.1.length+[x5].length≤3518437208883 then
if x3.length+[x4].length≤17592186044416 then
k0 x0 x1 (x2.1,((x2.2.1++[x5]),x2.2.2)) (x3++[x4]) x6
else none
else none
theorem aKX (x0 x1 x2 x3 x4 x5 x6):exec cl N ab9 (ad7 x0 x1 x2 x3 x4 x5 x6) K=(kB (fun y0 y1 y2 y3 y4=>K .normal (jl y0 y1 y2 y3 y4)) x0 x1 x2 x3 x4 x5 x6):=by
 kernel_rfl
theorem at1 (x0 x1 x2):ae [2,3,4,5,8,9,10] (ad6 x0 x1 x2)=(o7 x0 x1 x2):=by kernel_rfl
theorem agw (x0 x1 x2 x3 x4):ae [2,3,4,5,8,9,10] (jl x0 x1 x2 x3 x4)=(rG x0 x1 x2 x3 x4):=by kernel_rfl
def kC (aE:aq→Int→Int→V1→Option (Bool)) (bD:aq→Int→Option eT) (cg:aq→Int→Option oN) (k0:ad→Int→Int→Option R) (k1:ad→aq→ad→V0→Int→Option R) (k2:ad→aq→ad→V0→Int→Option R) (x0:ad) (x1:aq) (x2:ad) (x3:V0) (x4:Int):Option R:=
(kr aE (fun y0 y1 y2 y3 y4 y5=>al y5 ((kx cg (kz (fun y0 y1 y2 y3 y4 y5 y6 y7=>al y7 (kA bD k0 y0 y1 y2 y3 y4 y5 y6 y7) ((kB k1) y0 y1 y2 y3 y4 y5 y6)))) y0 y1 y2 y3 y4) (k2 y0 y1 y2 y3 y4)) x0 x1 x2 x3 x4)
theorem aKY (aE) (bD) (cg) (h25:(fT aE).holds cl) (h26:(lM bD).holds cl) (h27:(qS cg).holds cl) (x0 x1 x2 x3 x4):exec cl N Ef (jl x0 x1 x2 x3 x4) K=(kC aE bD cg (fun y0 y1 y2=>K .ret (o7 y0 y1 y2)) (fun y0 y1 y2 y3 y4=>K .normal (rG y0 y1 y2 y3 y4)) (fun y0 y1 y2 y3 y4=>K (.exit 0) (jl y0 y1 y2 y3 y4)) x0 x1 x2 x3 x4):=by
 simp only [Ef,aM,aP,aO,aQ,aKS aE h25,ab4,aF,bf,am2,ah,ak,aj,bj,cG,aur,aca,bt,aKT cg h27,aKV,ab8,am3,aKW bD h26,bg,aus,aut,aKX,bp,bq,bo,at1,agw]
 rfl
theorem at2 (x0 x1 x2 x3 x4):ae [2,5,8,9,10] (rG x0 x1 x2 x3 x4)=(jl x0 x1 x2 x3 x4):=by kernel_rfl
def lx {R:Type} (aE:aq→Int→Int→V1→Option (Bool)) (bD:aq→Int→Option eT) (cg:aq→Int→Option oN) (k0:ad→Int→Int→Option R) (k1:ad→aq→ad→V0→Int→Option R):Nat→ad→aq→ad→V0→Int→Option R
 | 0,_,_,_,_,_=>none
 | m+1,x0,x1,x2,x3,x4=>(kC aE bD cg k0 (lx aE bD cg k0 k1 m) k1 x0 x1 x2 x3 x4)
theorem awy (aE) (bD) (cg) (h25:(fT aE).holds cl) (h26:(lM bD).holds cl) (h27:(qS cg).holds cl):∀ (m) (x0 x1 x2 x3 x4),iter [2,5,8,9,10] (fun env K=>exec cl N Ef env K) K m (jl x0 x1 x2 x3 x4)=lx aE bD cg (fun y0 y1 y2=>K .ret (o7 y0 y1 y2)) (fun y0 y1 y2 y3 y4=>K (.exit 0) (jl y0 y1 y2 y3 y4)) m x0 x1 x2 x3 x4:=by
 intro m
 induction m with
 | zero=>intros; rfl
 | succ m ih=>
   intro x0 x1 x2 x3 x4
   simp only [cA,aKY aE bD cg h25 h26 h27,cC,cB,cD,at2,ih]
   rfl
theorem agx (x0 x1 x2):ae [2,3,4,5,8,9,10] (o7 x0 x1 x2)=(o7 x0 x1 x2):=by kernel_rfl
def kD (N:Nat) (aE:aq→Int→Int→V1→Option (Bool)) (bD:aq→Int→Option eT) (cg:aq→Int→Option oN) (k0:ad→Int→Int→Option R) (k1:ad→aq→ad→V0→Int→Option R) (x0:ad) (x1:aq) (x2:ad) (x3:V0) (x4:Int):Option R:=
lx aE bD cg k0 k1 N x0 x1 x2 x3 x4
theorem aKZ (aE) (bD) (cg) (h25:(fT aE).holds cl) (h26:(lM bD).holds cl) (h27:(qS cg).holds cl) (x0 x1 x2 x3 x4):exec cl N Ng (jl x0 x1 x2 x3 x4) K=(kD N aE bD cg (fun y0 y1 y2=>K .ret (o7 y0 y1 y2)) (fun y0 y1 y2 y3 y4=>K (.exit 0) (rG y0 y1 y2 y3 y4)) x0 x1 x2 x3 x4):=by
 simp only [Ng,aF,cz,auq,awy aE bD cg h25 h26 h27,agw,agx]
 rfl
theorem at3 (x0 x1 x2 x3 x4):ae [2,3,4,5,8,9,10] (rG x0 x1 x2 x3 x4)=(rG x0 x1 x2 x3 x4):=by kernel_rfl
def kG (k0:ad→aq→ad→V0→Int→Bool→Option R) (x0:ad) (x1:aq) (x2:ad) (x3:V0) (x4:Int):Option R:=
k0 x0 x1 x2 x3 x4 ((IntKind.i64.wrap (x4+(1:Int))) != (x1.length:Int))
theorem aK1 (x0 x1 x2 x3 x4):exec cl N Ni (rG x0 x1 x2 x3 x4) K=(kG (fun y0 y1 y2 y3 y4 y5=>K .normal (Gx y0 y1 y2 y3 y4 y5)) x0 x1 x2 x3 x4):=by
 kernel_rfl
def kH (bD:aq→Int→Option eT) (k0:ad→Int→Int→Option R) (x0:ad) (x1:aq) (x2:ad) (x3:V0) (x4:Int) (x5:Bool):Option R:=
(bD x1 (IntKind.i64.wrap (x4+(1:Int)))).bind fun r1162=>
k0 r1162.1 r1162.2.1 r1162.2.2
theorem aK2 (bD) (h26:(lM bD).holds cl) (x0 x1 x2 x3 x4 x5):exec cl N acd (Gx x0 x1 x2 x3 x4 x5) K=(kH bD (fun y0 y1 y2=>K .normal (gN y0 y1 y2)) x0 x1 x2 x3 x4 x5):=by
 rw [←put_eq h26]
 kernel_rfl
theorem at4 (x0 x1 x2):ae [2,3,4,5,8,9] (gN x0 x1 x2)=(OU x0 x1 x2):=by kernel_rfl
theorem at5 (x0 x1 x2 x3 x4 x5):ae [2,3,4,5,8,9] (Gx x0 x1 x2 x3 x4 x5)=(ad8 x0 x1 x2 x3):=by kernel_rfl
theorem am4 (x0 x1 x2 x3 x4 x5):aD (ag (Gx x0 x1 x2 x3 x4 x5) (.t 91))=some x5:=by kernel_rfl
def kI (k0:ad→aq→ad→V0→Int→Option R) (x0:ad) (x1:aq) (x2:ad) (x3:V0):Option R:=
k0 x0 x1 x2 x3 (0:Int)
theorem aK3 (x0 x1 x2 x3):exec cl N Nk (ad8 x0 x1 x2 x3) K=(kI (fun y0 y1 y2 y3 y4=>K .normal (hI y0 y1 y2 y3 y4)) x0 x1 x2 x3):=by
 kernel_rfl
theorem RC (x0 x1 x2 x3 x4):ae [2,5,8,9,14] (hI x0 x1 x2 x3 x4)=(hI x0 x1 x2 x3 x4):=by kernel_rfl
def kJ (k0:ad→aq→ad→V0→Int→Bool→Option R) (x0:ad) (x1:aq) (x2:ad) (x3:V0) (x4:Int):Option R:=
k0 x0 x1 x2 x3 x4 (decide (x4 < (x3.length:Int)))
theorem aK4 (x0 x1 x2 x3 x4):exec cl N ace (hI x0 x1 x2 x3 x4) K=(kJ (fun y0 y1 y2 y3 y4 y5=>K .normal (OV y0 y1 y2 y3 y4 y5)) x0 x1 x2 x3 x4):=by
 kernel_rfl
theorem at6 (x0 x1 x2 x3 x4 x5):ae [2,5,8,9,14] (OV x0 x1 x2 x3 x4 x5)=(hI x0 x1 x2 x3 x4):=by kernel_rfl
theorem am5 (x0 x1 x2 x3 x4 x5):aD (ag (OV x0 x1 x2 x3 x4 x5) (.t 102))=some x5:=by kernel_rfl
def kK (k0:ad→aq→ad→V0→Int→Int→Option R) (x0:ad) (x1:aq) (x2:ad) (x3:V0) (x4:Int):Option R:=
k0 x0 x1 x2 x3 x4 (1:Int)
theorem aK5 (x0 x1 x2 x3 x4):exec cl N acg (hI x0 x1 x2 x3 x4) K=(kK (fun y0 y1 y2 y3 y4 y5=>K .normal (gz y0 y1 y2 y3 y4 y5)) x0 x1 x2 x3 x4):=by
 kernel_rfl
theorem RD (x0 x1 x2 x3 x4 x5):ae [2,5,8,9,14,15] (gz x0 x1 x2 x3 x4 x5)=(gz x0 x1 x2 x3 x4 x5):=by kernel_rfl
def kL (k0:ad→aq→ad→V0→Int→Int→Bool→Option R) (x0:ad) (x1:aq) (x2:ad) (x3:V0) (x4 x5:Int):Option R:=
k0 x0 x1 x2 x3 x4 x5 (decide (x5≤(12:Int)))
theorem aK6 (x0 x1 x2 x3 x4 x5):exec cl N ach (gz x0 x1 x2 x3 x4 x5) K=(kL (fun y0 y1 y2 y3 y4 y5 y6=>K .normal (OW y0 y1 y2 y3 y4 y5 y6)) x0 x1 x2 x3 x4 x5):=by
 kernel_rfl
theorem aua (x0 x1 x2 x3 x4 x5 x6):ae [2,5,8,9,14,15] (OW x0 x1 x2 x3 x4 x5 x6)=(gz x0 x1 x2 x3 x4 x5):=by kernel_rfl
theorem am6 (x0 x1 x2 x3 x4 x5 x6):aD (ag (OW x0 x1 x2 x3 x4 x5 x6) (.t 106))=some x6:=by kernel_rfl
def kM (aV:Int→Option V5) (k0:ad→aq→ad→V0→Int→Int→Bool→Option R) (x0:ad) (x1:aq) (x2:ad) (x3:V0) (x4 x5:Int):Option R:=
(aV x5).bind fun r1165=>
if 0≤x4∧x4 < (x3.length:Int) then
if x4.toNat < x3.length then
let v1166:Int:=(x3.getD x4.toNat (0:Int))
if 0≤v1166∧v1166 < (x1.length:Int) then
k0 x0 x1 x2 x3 x4 x5 (r1165==(x1.getD v1166.toNat ((0:Int),([],((0:Int),())))).2.1)
else none
else none
else none
theorem aK7 (aV) (h28:(gV aV).holds cl) (x0 x1 x2 x3 x4 x5):exec cl N acj (gz x0 x1 x2 x3 x4 x5) K=(kM aV (fun y0 y1 y2 y3 y4 y5 y6=>K .normal (Gy y0 y1 y2 y3 y4 y5 y6)) x0 x1 x2 x3 x4 x5):=by
 rw [←put_eq h28]
 kernel_rfl
def kO (k0:ad→aq→ad→V0→Int→Int→Option R) (x0:ad) (x1:aq) (x2:ad) (x3:V0) (x4 x5:Int) (x6:Bool):Option R:=
if 0≤x4∧x4 < (x2.2.1.length:Int) then
if x4.toNat < x2.2.1.length then
k0 x0 x1 (x2.1,((x2.2.1.set x4.toNat (x5,(x2.2.1.getD x4.toNat ((0:Int),((0:Int),([],())))).2)),x2.2.2)) x3 x4 x5
else none
else none
theorem aK8 (x0 x1 x2 x3 x4 x5 x6):exec cl N ack (Gy x0 x1 x2 x3 x4 x5 x6) K=(kO (fun y0 y1 y2 y3 y4 y5=>K .normal (gz y0 y1 y2 y3 y4 y5)) x0 x1 x2 x3 x4 x5 x6):=by
 kernel_rfl
theorem aub (x0 x1 x2 x3 x4 x5 x6):ae [2,5,8,9,14,15] (Gy x0 x1 x2 x3 x4 x5 x6)=(gz x0 x1 x2 x3 x4 x5):=by kernel_rfl
theorem am7 (x0 x1 x2 x3 x4 x5 x6):aD (ag (Gy x0 x1 x2 x3 x4 x5 x6) (.t 119))=some x6:=by kernel_rfl
def kP (aV:Int→Option V5) (k0:ad→aq→ad→V0→Int→Int→Option R) (x0:ad) (x1:aq) (x2:ad) (x3:V0) (x4 x5:Int):Option R:=
(kM aV (fun y0 y1 y2 y3 y4 y5 y6=>al y6 (kO k0 y0 y1 y2 y3 y4 y5 y6) (k0 y0 y1 y2 y3 y4 y5)) x0 x1 x2 x3 x4 x5)
theorem aK9 (aV) (h28:(gV aV).holds cl) (x0 x1 x2 x3 x4 x5):exec cl N Nn (gz x0 x1 x2 x3 x4 x5) K=(kP aV (fun y0 y1 y2 y3 y4 y5=>K .normal (gz y0 y1 y2 y3 y4 y5)) x0 x1 x2 x3 x4 x5):=by
 simp only [Nn,aF,bt,aM,aP,aO,aQ,aK7 aV h28,acm,bf,am7,ah,ak,aj,aK8,bj,RD,aub,bp,bq,bo]
 rfl
def kQ (k0:ad→aq→ad→V0→Int→Int→Option R) (x0:ad) (x1:aq) (x2:ad) (x3:V0) (x4 x5:Int):Option R:=
k0 x0 x1 x2 x3 x4 (IntKind.i64.wrap (x5+(1:Int)))
theorem aLa (x0 x1 x2 x3 x4 x5):exec cl N acn (gz x0 x1 x2 x3 x4 x5) K=(kQ (fun y0 y1 y2 y3 y4 y5=>K .normal (gz y0 y1 y2 y3 y4 y5)) x0 x1 x2 x3 x4 x5):=by
 kernel_rfl
def kR (aV:Int→Option V5) (k0:ad→aq→ad→V0→Int→Int→Option R) (k1:ad→aq→ad→V0→Int→Int→Option R) (x0:ad) (x1:aq) (x2:ad) (x3:V0) (x4 x5:Int):Option R:=
(kL (fun y0 y1 y2 y3 y4 y5 y6=>al y6 ((kP aV (kQ k0)) y0 y1 y2 y3 y4 y5) (k1 y0 y1 y2 y3 y4 y5)) x0 x1 x2 x3 x4 x5)
theorem aLb (aV) (h28:(gV aV).holds cl) (x0 x1 x2 x3 x4 x5):exec cl N Eg (gz x0 x1 x2 x3 x4 x5) K=(kR aV (fun y0 y1 y2 y3 y4 y5=>K .normal (gz y0 y1 y2 y3 y4 y5)) (fun y0 y1 y2 y3 y4 y5=>K (.exit 4) (gz y0 y1 y2 y3 y4 y5)) x0 x1 x2 x3 x4 x5):=by
 simp only [Eg,aM,aP,aO,aQ,aK6,aci,aF,bf,am6,ah,ak,aj,bj,cG,aua,aK9 aV h28,aLa]
 rfl
def uW {R:Type} (aV:Int→Option V5) (k0:ad→aq→ad→V0→Int→Int→Option R):Nat→ad→aq→ad→V0→Int→Int→Option R
 | 0,_,_,_,_,_,_=>none
 | m+1,x0,x1,x2,x3,x4,x5=>(kR aV (uW aV k0 m) k0 x0 x1 x2 x3 x4 x5)
theorem awz (aV) (h28:(gV aV).holds cl):∀ (m) (x0 x1 x2 x3 x4 x5),iter [2,5,8,9,14,15] (fun env K=>exec cl N Eg env K) K m (gz x0 x1 x2 x3 x4 x5)=uW aV (fun y0 y1 y2 y3 y4 y5=>K (.exit 4) (gz y0 y1 y2 y3 y4 y5)) m x0 x1 x2 x3 x4 x5:=by
 intro m
 induction m with
 | zero=>intros; rfl
 | succ m ih=>
   intro x0 x1 x2 x3 x4 x5
   simp only [cA,aLb aV h28,cC,cB,cD,RD,ih]
   rfl
theorem auc (x0 x1 x2 x3 x4 x5):ae [2,5,8,9,14] (gz x0 x1 x2 x3 x4 x5)=(hI x0 x1 x2 x3 x4):=by kernel_rfl
def kS (N:Nat) (aV:Int→Option V5) (k0:ad→aq→ad→V0→Int→Option R) (x0:ad) (x1:aq) (x2:ad) (x3:V0) (x4 x5:Int):Option R:=
uW aV (fun y0 y1 y2 y3 y4 y5=>k0 y0 y1 y2 y3 y4) N x0 x1 x2 x3 x4 x5
theorem aLc (aV) (h28:(gV aV).holds cl) (x0 x1 x2 x3 x4 x5):exec cl N No (gz x0 x1 x2 x3 x4 x5) K=(kS N aV (fun y0 y1 y2 y3 y4=>K (.exit 4) (hI y0 y1 y2 y3 y4)) x0 x1 x2 x3 x4 x5):=by
 simp only [No,aF,cz,RD,awz aV h28,auc]
 rfl
def kT (k0:ad→aq→ad→V0→Int→Bool→Option R) (x0:ad) (x1:aq) (x2:ad) (x3:V0) (x4:Int):Option R:=
if 0≤x4∧x4 < (x2.2.1.length:Int) then
if x4.toNat < x2.2.1.length then
k0 x0 x1 x2 x3 x4 (((x2.2.1.getD x4.toNat ((0:Int),((0:Int),([],())))).1)==(0:Int))
else none
else none
theorem aLd (x0 x1 x2 x3 x4):exec cl N acp (hI x0 x1 x2 x3 x4) K=(kT (fun y0 y1 y2 y3 y4 y5=>K .normal (Gz y0 y1 y2 y3 y4 y5)) x0 x1 x2 x3 x4):=by
 kernel_rfl
def kU (k0:ad→Int→Int→Option R) (x0:ad) (x1:aq) (x2:ad) (x3:V0) (x4:Int) (x5:Bool):Option R:=
if 0≤x4∧x4 < (x3.length:Int) then
if x4.toNat < x3.length then
let v1171:Int:=(x3.getD x4.toNat (0:Int))
if 0≤v1171∧v1171 < (x1.length:Int) then
k0 ([],[],()) ((x1.getD v1171.toNat ((0:Int),([],((0:Int),())))).2.2.1) (9:Int)
else none
else none
else none
theorem aLe (x0 x1 x2 x3 x4 x5):exec cl N acq (Gz x0 x1 x2 x3 x4 x5) K=(kU (fun y0 y1 y2=>K .normal (gN y0 y1 y2)) x0 x1 x2 x3 x4 x5):=by
 kernel_rfl
theorem aud (x0 x1 x2):ae [2,3,4,5,8,9,14] (gN x0 x1 x2)=(tK x0 x1 x2):=by kernel_rfl
theorem aue (x0 x1 x2 x3 x4 x5):ae [2,3,4,5,8,9,14] (Gz x0 x1 x2 x3 x4 x5)=(GA x0 x1 x2 x3 x4):=by kernel_rfl
theorem amY (x0 x1 x2 x3 x4 x5):aD (ag (Gz x0 x1 x2 x3 x4 x5) (.t 132))=some x5:=by kernel_rfl
theorem auf (x0 x1 x2):ae [2,3,4,5,8,9,14] (tK x0 x1 x2)=(tK x0 x1 x2):=by kernel_rfl
theorem aug (x0 x1 x2 x3 x4):ae [2,3,4,5,8,9,14] (GA x0 x1 x2 x3 x4)=(GA x0 x1 x2 x3 x4):=by kernel_rfl
def kW (k0:ad→aq→ad→V0→Int→Option R) (x0:ad) (x1:aq) (x2:ad) (x3:V0) (x4:Int):Option R:=
k0 x0 x1 x2 x3 (IntKind.i64.wrap (x4+(1:Int)))
theorem aLg (x0 x1 x2 x3 x4):exec cl N acu (GA x0 x1 x2 x3 x4) K=(kW (fun y0 y1 y2 y3 y4=>K .normal (hI y0 y1 y2 y3 y4)) x0 x1 x2 x3 x4):=by
 kernel_rfl
def kX (N:Nat) (aV:Int→Option V5) (k0:ad→Int→Int→Option R) (k1:ad→aq→ad→V0→Int→Option R) (k2:ad→aq→ad→V0→Int→Option R) (x0:ad) (x1:aq) (x2:ad) (x3:V0) (x4:Int):Option R:=
(kJ (fun y0 y1 y2 y3 y4 y5=>al y5 ((kK (kS N aV ((kT (fun y0 y1 y2 y3 y4 y5=>al y5 (kU k0 y0 y1 y2 y3 y4 y5) (((kW k1)) y0 y1 y2 y3 y4)))))) y0 y1 y2 y3 y4) (k2 y0 y1 y2 y3 y4)) x0 x1 x2 x3 x4)
theorem aLh (aV) (h28:(gV aV).holds cl) (x0 x1 x2 x3 x4):exec cl N Eh (hI x0 x1 x2 x3 x4) K=(kX N aV (fun y0 y1 y2=>K .ret (tK y0 y1 y2)) (fun y0 y1 y2 y3 y4=>K .normal (hI y0 y1 y2 y3 y4)) (fun y0 y1 y2 y3 y4=>K (.exit 2) (hI y0 y1 y2 y3 y4)) x0 x1 x2 x3 x4):=by
 simp only [Eh,aM,aP,aO,aQ,aK4,acf,aF,bf,am5,ah,ak,aj,bj,cG,at6,acs,bt,aK5,aco,aLc aV h28,bp,bq,bo,RC,aLd,acr,amY,aLe,bg,aud,aue,auf,aug,aLg]
 rfl
def ot {R:Type} (N:Nat) (aV:Int→Option V5) (k0:ad→Int→Int→Option R) (k1:ad→aq→ad→V0→Int→Option R):Nat→ad→aq→ad→V0→Int→Option R
 | 0,_,_,_,_,_=>none
 | m+1,x0,x1,x2,x3,x4=>(kX N aV k0 (ot N aV k0 k1 m) k1 x0 x1 x2 x3 x4)
theorem awA (aV) (h28:(gV aV).holds cl):∀ (m) (x0 x1 x2 x3 x4),iter [2,5,8,9,14] (fun env K=>exec cl N Eh env K) K m (hI x0 x1 x2 x3 x4)=ot N aV (fun y0 y1 y2=>K .ret (tK y0 y1 y2)) (fun y0 y1 y2 y3 y4=>K (.exit 2) (hI y0 y1 y2 y3 y4)) m x0 x1 x2 x3 x4:=by
 intro m
 induction m with
 | zero=>intros; rfl
 | succ m ih=>
   intro x0 x1 x2 x3 x4
   simp only [cA,aLh aV h28,cC,cB,cD,RC,ih]
   rfl
theorem auh (x0 x1 x2):ae [2,3,4,8] (tK x0 x1 x2)=(tL x0 x1 x2):=by kernel_rfl
theorem aui (x0 x1 x2 x3 x4):ae [2,3,4,8] (hI x0 x1 x2 x3 x4)=(wo x0 x2):=by kernel_rfl
def kY (N:Nat) (aV:Int→Option V5) (k0:ad→Int→Int→Option R) (k1:ad→ad→Option R) (x0:ad) (x1:aq) (x2:ad) (x3:V0) (x4:Int):Option R:=
ot N aV k0 (fun y0 y1 y2 y3 y4=>k1 y0 y2) N x0 x1 x2 x3 x4
theorem aLi (aV) (h28:(gV aV).holds cl) (x0 x1 x2 x3 x4):exec cl N Nq (hI x0 x1 x2 x3 x4) K=(kY N aV (fun y0 y1 y2=>K .ret (tL y0 y1 y2)) (fun y0 y1=>K (.exit 2) (wo y0 y1)) x0 x1 x2 x3 x4):=by
 simp only [Nq,aF,cz,RC,awA aV h28,auh,aui]
 rfl
theorem auj (x0 x1 x2):ae [2,3,4,8] (tL x0 x1 x2)=(tL x0 x1 x2):=by kernel_rfl
theorem aul (x0 x1):ae [2,3,4,8] (wo x0 x1)=(wo x0 x1):=by kernel_rfl
def la (bR:ad→Option (Int)) (k0:ad→ad→Int→Bool→Option R) (x0 x1:ad):Option R:=
(bR x1).bind fun r1174=>
k0 x0 x1 r1174 (r1174 != (0:Int))
theorem aLl (bR) (h14:(mi bR).holds cl) (x0 x1):exec cl N Nt (wo x0 x1) K=(la bR (fun y0 y1 y2 y3=>exec cl N Ns (GB y0 y1 y2 y3) K) x0 x1):=by
 rw [←put_eq h14]
 kernel_rfl
def kZ (k0:ad→Int→Int→Option R) (x0 x1:ad) (x2:Int) (x3:Bool):Option R:=
k0 ([],[],()) (0:Int) x2
theorem aLj (x0 x1 x2 x3):exec cl N acv (GB x0 x1 x2 x3) K=(kZ (fun y0 y1 y2=>K .normal (mq y0 y1 y2)) x0 x1 x2 x3):=by
 kernel_rfl
theorem aum (x0 x1 x2):ae [2,3,4,8] (mq x0 x1 x2)=(OX x0 x1 x2):=by kernel_rfl
theorem aun (x0 x1 x2 x3):ae [2,3,4,8] (GB x0 x1 x2 x3)=(ad9 x0 x1):=by kernel_rfl
theorem amZ (x0 x1 x2 x3):aD (ag (GB x0 x1 x2 x3) (.t 145))=some x3:=by kernel_rfl
def lb (k0:ad→Int→Int→Option R) (x0 x1:ad):Option R:=
k0 x1 (0:Int) (0:Int)
theorem aLm (x0 x1):exec cl N Nu (ad9 x0 x1) K=(lb (fun y0 y1 y2=>K .normal (gN y0 y1 y2)) x0 x1):=by
 kernel_rfl
def lg (N:Nat) (bR:ad→Option (Int)) (fK:V1→Option mb) (aE:aq→Int→Int→V1→Option (Bool)) (bD:aq→Int→Option eT) (cg:aq→Int→Option oN) (aV:Int→Option V5) (k0:ad→Int→Int→Option R) (k1:ad→Int→Int→Option R) (k2:ad→Int→Int→Option R) (k3:ad→Int→Int→Option R) (k4:ad→Int→Int→Option R) (k5:ad→Int→Int→Option R) (k6:ad→Int→Int→Option R) (x0:V1):Option R:=
(lf fK (ky (fun y0 y1 y2 y3 y4=>al y4 (kE k0 y0 y1 y2 y3 y4) ((kV aE (fun y0 y1 y2=>al y2 (k9 bD k1 y0 y1 y2) ((lh aE (fun y0 y1 y2=>al y2 (lj bD k1 y0 y1 y2) ((kp aE (fun y0 y1 y2=>al y2 (kq bD k1 y0 y1 y2) ((ld (kD N aE bD cg k2 ((kG (fun y0 y1 y2 y3 y4 y5=>al y5 (kH bD k3 y0 y1 y2 y3 y4 y5) ((kI (kY N aV k4 ((la bR (fun y0 y1 y2 y3=>al y3 (kZ k5 y0 y1 y2 y3) ((lb k6) y0 y1)))))) y0 y1 y2 y3)))))) y0 y1))) y0 y1))) y0 y1))) y0 y1))) x0)
theorem aLp (bR) (fK) (aE) (bD) (cg) (aV) (h14:(mi bR).holds cl) (h24:(EB fK).holds cl) (h25:(fT aE).holds cl) (h26:(lM bD).holds cl) (h27:(qS cg).holds cl) (h28:(gV aV).holds cl) (x0):exec cl N Nw [(0,.v .str x0)] K=(lg N bR fK aE bD cg aV (fun y0 y1 y2=>K .ret (tC y0 y1 y2)) (fun y0 y1 y2=>K .ret (OS y0 y1 y2)) (fun y0 y1 y2=>K .ret (o7 y0 y1 y2)) (fun y0 y1 y2=>K .ret (OU y0 y1 y2)) (fun y0 y1 y2=>K .ret (tL y0 y1 y2)) (fun y0 y1 y2=>K .ret (OX y0 y1 y2)) (fun y0 y1 y2=>K .ret (gN y0 y1 y2)) x0):=by
 simp only [aM,aP,aO,aQ,aLo fK h24,aKU,Nl,aF,bf,amW,ah,ak,aj,aK0,bg,bj,atZ,at0,aLf aE h25,Nx,amX,aLk bD h26,at7,auk,aLq aE h25,Nb,am0,aLr bD h26,auo,aKQ aE h25,Nd,am1,aKR bD h26,aup,aLn,Nh,bt,aKZ aE bD cg h25 h26 h27,bp,bq,bo,agx,at3,aK1,Nj,am4,aK2 bD h26,at4,at5,aK3,Nr,aLi aV h28,auj,aul,aLl bR h14,Ns,amZ,aLj,aum,aun,aLm]
 rfl
theorem aAb (y0 y1 y2):au d7 .ret (tC y0 y1 y2)=some [.v af y0,.v U2 y1,.v U2 y2]:=by kernel_rfl
theorem aAc (y0 y1 y2):au d7 .ret (OS y0 y1 y2)=some [.v af y0,.v U2 y1,.v U2 y2]:=by kernel_rfl
theorem aAd (y0 y1 y2):au d7 .ret (o7 y0 y1 y2)=some [.v af y0,.v U2 y1,.v U2 y2]:=by kernel_rfl
theorem aAe (y0 y1 y2):au d7 .ret (OU y0 y1 y2)=some [.v af y0,.v U2 y1,.v U2 y2]:=by kernel_rfl
theorem aAf (y0 y1 y2):au d7 .ret (tL y0 y1 y2)=some [.v af y0,.v U2 y1,.v U2 y2]:=by kernel_rfl
theorem aAg (y0 y1 y2):au d7 .ret (OX y0 y1 y2)=some [.v af y0,.v U2 y1,.v U2 y2]:=by kernel_rfl
theorem aAh (y0 y1 y2):au d7 .ret (gN y0 y1 y2)=some [.v af y0,.v U2 y1,.v U2 y2]:=by kernel_rfl
def g7 (N:Nat) (bR:ad→Option (Int)) (fK:V1→Option mb) (aE:aq→Int→Int→V1→Option (Bool)) (bD:aq→Int→Option eT) (cg:aq→Int→Option oN) (aV:Int→Option V5) (x0:V1) (k:ad→Int→Int→Option R):Option R:=
(lg N bR fK aE bD cg aV k k k k k k k x0)
theorem akq (bR) (fK) (aE) (bD) (cg) (aV) (h14:(mi bR).holds cl) (h24:(EB fK).holds cl) (h25:(fT aE).holds cl) (h26:(lM bD).holds cl) (h27:(qS cg).holds cl) (h28:(gV aV).holds cl) (x0) (k:List E→Option R):exec cl N c7 [(0,.v .str x0)] (fun e env=>(au d7 e env).bind k)=g7 N bR fK aE bD cg aV x0 (fun r0 r1 r2=>k [.v af r0,.v U2 r1,.v U2 r2]):=by
 simp only [c7,aLp bR fK aE bD cg aV h14 h24 h25 h26 h27 h28,aAb,aAc,aAd,aAe,aAf,aAg,aAh,ah]
 rfl
def EL (S:V1→Option eT):a7:=cw 7 .str S fun b=> [.v af b.1,.v U2 b.2.1,.v U2 b.2.2]
def S7 (N:Nat) (x0:V1):Option eT:=g7 N (bR N) (fK N) (aE N) (bD N) (cg N) (aV N) x0 (fun (r0:ad) (r1:Int) (r2:Int)=>some (r0,r1,r2))
def PI (k0:V1→Option R) (x0:V1):Option R:=
k0 x0
theorem aFn (x0):exec cl N W2 [(0,.v .str x0)] K=(PI (fun y0=>K .normal [(0,.v .str y0)]) x0):=by
 kernel_rfl
def PJ (S5:Option (Bool)) (k0:V1→Bool→Option R) (x0:V1):Option R:=
(S5).bind fun r1188=>
al (!r1188) (k0 x0 true) (k0 x0 (decide ((x0.length:Int) > (2000:Int))))
theorem aFo (S5) (h5:(nF S5).holds cl) (x0):exec cl N W3 [(0,.v .str x0)] K=(PJ S5 (fun y0 y1=>K .normal (GC y0 y1)) x0):=by
 rw [←put_eq h5]
 kernel_rfl
def PN (S5:Option (Bool)) (k0:Bool→Option R) (x0:V1) (x1:Bool):Option R:=
(S5).bind fun r1190=>
k0 r1190
theorem aFs (S5) (h5:(nF S5).holds cl) (x0 x1):exec cl N W5 (GC x0 x1) K=(PN S5 (fun y0=>K .normal [(2,.v .bool y0)]) x0 x1):=by
 rw [←put_eq h5]
 kernel_rfl
theorem aqB (x0):ae [0,2] [(2,.v .bool x0)]=(tP x0):=by kernel_rfl
theorem aqC (x0 x1):ae [0,2] (GC x0 x1)=(ke x0):=by kernel_rfl
theorem alB (x0 x1):aD (ag (GC x0 x1) (.t 20))=some x1:=by kernel_rfl
def PL (S6:V1→Option eT) (S7:V1→Option eT) (k0:ad→Int→Int→ad→Int→Int→Option R) (x0:V1):Option R:=
(S6 x0).bind fun r1192=>
(S7 x0).bind fun r1193=>
k0 r1192.1 r1192.2.1 r1192.2.2 r1193.1 r1193.2.1 r1193.2.2
theorem aFq (S6) (S7) (h6:(oW S6).holds cl) (h7:(EL S7).holds cl) (x0):exec cl N W4 (ke x0) K=(PL S6 S7 (fun y0 y1 y2 y3 y4 y5=>exec cl N (.seq (.seq KK KL) KI) (aea y0 y1 y2 y3 y4 y5) K) x0):=by
 rw [←put_eq h6]
 rw [←put_eq h7]
 kernel_rfl
def PO (S8:ad→ad→Option (Bool)) (k0:ad→Int→Int→ad→Int→Int→Bool→Option R) (x0:ad) (x1 x2:Int) (x3:ad) (x4 x5:Int):Option R:=
al (x2 != x5) (k0 x0 x1 x2 x3 x4 x5 true) (al (x1 != x4) (k0 x0 x1 x2 x3 x4 x5 true) ((S8 x0 x3).bind fun r1194=>
al (!r1194) (k0 x0 x1 x2 x3 x4 x5 true) (k0 x0 x1 x2 x3 x4 x5 (x2 != (0:Int)))))
theorem aFt (S8) (h8:(nH S8).holds cl) (x0 x1 x2 x3 x4 x5):exec cl N KK (aea x0 x1 x2 x3 x4 x5) K=(PO S8 (fun y0 y1 y2 y3 y4 y5 y6=>K .normal (GD y0 y1 y2 y3 y4 y5 y6)) x0 x1 x2 x3 x4 x5):=by
 rw [←put_eq h8]
 kernel_rfl
def PQ (S8:ad→ad→Option (Bool)) (k0:Bool→Option R) (x0:ad) (x1 x2:Int) (x3:ad) (x4 x5:Int) (x6:Bool):Option R:=
al (x2==x5) (al (x1==x4) ((S8 x0 x3).bind fun r1196=>
k0 r1196) (k0 false)) (k0 false)
theorem aFu (S8) (h8:(nH S8).holds cl) (x0 x1 x2 x3 x4 x5 x6):exec cl N W7 (GD x0 x1 x2 x3 x4 x5 x6) K=(PQ S8 (fun y0=>K .normal [(2,.v .bool y0)]) x0 x1 x2 x3 x4 x5 x6):=by
 rw [←put_eq h8]
 kernel_rfl
theorem aqD (x0):ae [2,3] [(2,.v .bool x0)]=[(2,.v .bool x0),(3,.dead)]:=by kernel_rfl
theorem aqE (x0 x1 x2 x3 x4 x5 x6):ae [2,3] (GD x0 x1 x2 x3 x4 x5 x6)=[(2,.dead),(3,.loc af .no x0)]:=by kernel_rfl
theorem alC (x0 x1 x2 x3 x4 x5 x6):aD (ag (GD x0 x1 x2 x3 x4 x5 x6) (.t 51))=some x6:=by kernel_rfl
def PK (S6:V1→Option eT) (S8:ad→ad→Option (Bool)) (S9:ad→Option V7) (k0:Bool→Option R) (x0:ad):Option R:=
(S9 x0).bind fun r1200=>
(S6 r1200.1).bind fun r1201=>
al (r1200.2==(0:Int)) (al (r1201.2.2==(0:Int)) ((S8 r1201.1 x0).bind fun r1204=>
k0 r1204) (k0 false)) (k0 false)
theorem aFp (S6) (S8) (S9) (h6:(oW S6).holds cl) (h8:(nH S8).holds cl) (h9:(rC S9).holds cl) (x0):exec cl N KI [(2,.dead),(3,.loc af .no x0)] K=(PK S6 S8 S9 (fun y0=>exec cl N .ret [(2,.v .bool y0)] K) x0):=by
 rw [←put_eq h6]
 rw [←put_eq h8]
 rw [←put_eq h9]
 kernel_rfl
def PM (S5:Option (Bool)) (S6:V1→Option eT) (S7:V1→Option eT) (S8:ad→ad→Option (Bool)) (S9:ad→Option V7) (k0:Bool→Option R) (k1:Bool→Option R) (k2:Bool→Option R) (x0:V1):Option R:=
(PI (PJ S5 (fun y0 y1=>al y1 (PN S5 k0 y0 y1) ((PL S6 S7 (PO S8 (fun y0 y1 y2 y3 y4 y5 y6=>al y6 (PQ S8 k1 y0 y1 y2 y3 y4 y5 y6) ((PK S6 S8 S9 k2) y0)))) y0))) x0)
theorem aFr (S5) (S6) (S7) (S8) (S9) (h5:(nF S5).holds cl) (h6:(oW S6).holds cl) (h7:(EL S7).holds cl) (h8:(nH S8).holds cl) (h9:(rC S9).holds cl) (x0):exec cl N KJ [(0,.v .str x0)] K=(PM S5 S6 S7 S8 S9 (fun y0=>K .ret (tP y0)) (fun y0=>K .ret [(2,.v .bool y0),(3,.dead)]) (fun y0=>K .ret [(2,.v .bool y0)]) x0):=by
 simp only [KJ,aM,aP,aO,aQ,aFn,aFo S5 h5,W6,aF,bf,alB,ah,ak,aj,aFs S5 h5,bg,bj,aqB,aqC,aFq S6 S7 h6 h7,aFt S8 h8,KL,alC,aFu S8 h8,aqD,aqE,aFp S6 S8 S9 h6 h8 h9]
 rfl
theorem azb (y0):au d3 .ret (tP y0)=some [.v .bool y0]:=by kernel_rfl
theorem azc (y0):au d3 .ret [(2,.v .bool y0),(3,.dead)]=some [.v .bool y0]:=by kernel_rfl
theorem azd (y0):au d3 .ret [(2,.v .bool y0)]=some [.v .bool y0]:=by kernel_rfl
def g3 (S5:Option (Bool)) (S6:V1→Option eT) (S7:V1→Option eT) (S8:ad→ad→Option (Bool)) (S9:ad→Option V7) (x0:V1) (k:Bool→Option R):Option R:=
(PM S5 S6 S7 S8 S9 k k k x0)
theorem ajS (S5) (S6) (S7) (S8) (S9) (h5:(nF S5).holds cl) (h6:(oW S6).holds cl) (h7:(EL S7).holds cl) (h8:(nH S8).holds cl) (h9:(rC S9).holds cl) (x0) (k:List E→Option R):exec cl N c3 [(0,.v .str x0)] (fun e env=>(au d3 e env).bind k)=g3 S5 S6 S7 S8 S9 x0 (fun r0=>k [.v .bool r0]):=by
 simp only [c3,aFr S5 S6 S7 S8 S9 h5 h6 h7 h8 h9,azb,azc,azd,ah]
 rfl
def aiN (S:V1→Option (Bool)):a7:=cw 3 .str S fun b=> [.v .bool b]
def S3 (N:Nat) (x0:V1):Option (Bool):=g3 (S5 N) (S6 N) (S7 N) (S8 N) (S9 N) x0 (fun (r0:Bool)=>some (r0))
end Go.Fw.L19
