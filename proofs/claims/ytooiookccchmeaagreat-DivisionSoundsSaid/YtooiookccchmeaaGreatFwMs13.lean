/- Own work. -/
import Derived.Test.YtooiookccchmeaaGreatFwMs13a
import Derived.Test.YtooiookccchmeaaGreatFwB4
set_option linter.unusedVariables false
set_option linter.unusedSimpArgs false
open List renaming replicate → iv
open Option renaming bind_some → al
namespace Go.Fw.L19
open Go Go.Fw
set_option maxRecDepth 100000
variable {N:Nat} {cl:az} {R:Type} {K:KE R}
def Sv (k0:V3→Option R) (k1:aC→V3→Int→Option R) (x0:aC) (x1:V3):Option R:=
ae ((x0.length:Int)==(0:Int)) (k0 ([]:List UInt8)) (ae ((x0.length:Int)==(1:Int)) (if 0≤(0:Int)∧(0:Int) < (x0.length:Int) then
k0 (x0.getD (0:Int).toNat [])
else none) (ae (decide ((x1.length:Int) > (0:Int))) (let v1110:Int:=(IntKind.i64.wrap ((x0.length:Int) - (1:Int)))
if v1110=0 then none else
ae (decide ((x1.length:Int)≥(IntKind.i64.wrap (Int.tdiv (9223372036854775807:Int) v1110)))) (none /- operation makeInterface -/) (k1 x0 x1 (IntKind.i64.wrap ((0:Int)+(IntKind.i64.wrap ((x1.length:Int) * (IntKind.i64.wrap ((x0.length:Int) - (1:Int))))))))) (k1 x0 x1 (0:Int))))
theorem aqn (x0 x1):exec cl N zd [(0,.v U1 x0),(1,.v .str x1)] K=(Sv (fun y0=>K .ret (GQ y0)) (fun y0 y1 y2=>exec cl N zc (nO y0 y1 y2) K) x0 x1):=by
 delta zd
 generalize zc=q
 revert q
 refine id ?_
 intro q
 kernel_rfl
def Sq (k0:aC→V3→Int→aC→Int→Int→Option R) (x0:aC) (x1:V3) (x2:Int):Option R:=
k0 x0 x1 x2 x0 (x0.length:Int) (0:Int)
theorem aqj (x0 x1 x2):exec cl N OG (nO x0 x1 x2) K=(Sq (fun y0 y1 y2 y3 y4 y5=>K .normal (ll y0 y1 y2 y3 y4 y5)) x0 x1 x2):=by
 kernel_rfl
theorem TT (x0 x1 x2 x3 x4 x5):ah [0,1,5,39,40,41] (ll x0 x1 x2 x3 x4 x5)=(ll x0 x1 x2 x3 x4 x5):=by kernel_rfl
def Sr (k0:aC→V3→Int→aC→Int→Int→Option R) (k1:aC→V3→Int→aC→Int→Int→Option R) (x0:aC) (x1:V3) (x2:Int) (x3:aC) (x4 x5:Int):Option R:=
ae (decide (x5 < x4)) (if 0≤x5∧x5 < (x3.length:Int) then
ae (decide (((x3.getD x5.toNat []).length:Int) > (IntKind.i64.wrap ((9223372036854775807:Int) - x2)))) (none /- operation makeInterface -/) (k0 x0 x1 (IntKind.i64.wrap (x2+((x3.getD x5.toNat []).length:Int))) x3 x4 (IntKind.i64.wrap (x5+(1:Int))))
else none) (k1 x0 x1 x2 x3 x4 x5)
theorem aqk (x0 x1 x2 x3 x4 x5):exec cl N Fm (ll x0 x1 x2 x3 x4 x5) K=(Sr (fun y0 y1 y2 y3 y4 y5=>K .normal (ll y0 y1 y2 y3 y4 y5)) (fun y0 y1 y2 y3 y4 y5=>K (.exit 1) (ll y0 y1 y2 y3 y4 y5)) x0 x1 x2 x3 x4 x5):=by
 kernel_rfl
def IQ {R:Type} (k0:aC→V3→Int→aC→Int→Int→Option R):Nat→aC→V3→Int→aC→Int→Int→Option R
 | 0,_,_,_,_,_,_=>none
 | m+1,x0,x1,x2,x3,x4,x5=>(Sr (IQ k0 m) k0 x0 x1 x2 x3 x4 x5)
theorem ad9:∀ (m) (x0 x1 x2 x3 x4 x5),iter [0,1,5,39,40,41] (fun env K=>exec cl N Fm env K) K m (ll x0 x1 x2 x3 x4 x5)=IQ (fun y0 y1 y2 y3 y4 y5=>K (.exit 1) (ll y0 y1 y2 y3 y4 y5)) m x0 x1 x2 x3 x4 x5:=by
 intro m
 induction m with
 | zero=>intros; rfl
 | succ m ih=>
   intro x0 x1 x2 x3 x4 x5
   simp only [bS,aqk,bU,bT,bV,TT,ih]
   rfl
theorem acz (x0 x1 x2 x3 x4 x5):ah [0,1,5] (ll x0 x1 x2 x3 x4 x5)=(nO x0 x1 x2):=by kernel_rfl
def Ss (N:Nat) (k0:aC→V3→Int→Option R) (x0:aC) (x1:V3) (x2:Int) (x3:aC) (x4 x5:Int):Option R:=
IQ (fun y0 y1 y2 y3 y4 y5=>k0 y0 y1 y2) N x0 x1 x2 x3 x4 x5
theorem aql (x0 x1 x2 x3 x4 x5):exec cl N Fo (ll x0 x1 x2 x3 x4 x5) K=(Ss N (fun y0 y1 y2=>K (.exit 1) (nO y0 y1 y2)) x0 x1 x2 x3 x4 x5):=by
 simp only [Fo,aP,bR,TT,ad9,acz]
 rfl
theorem acA (x0 x1 x2):ah [0,1,5] (nO x0 x1 x2)=(nO x0 x1 x2):=by kernel_rfl
def Su (x0:aC) (x1:V3) (x2:Int):Option R:=
none /- lent:sb -/
theorem aqm (x0 x1 x2):exec cl N Fp (nO x0 x1 x2) K=(Su x0 x1 x2):=by
 delta Fp
 generalize OH=q
 revert q
 refine id ?_
 intro q
 kernel_rfl
def Sw (N:Nat) (k0:V3→Option R) (x0:aC) (x1:V3):Option R:=
(Sv k0 (Sq (Ss N Su)) x0 x1)
theorem aqo (x0 x1):exec cl N zd [(0,.v U1 x0),(1,.v .str x1)] K=(Sw N (fun y0=>K .ret (GQ y0)) x0 x1):=by
 simp only [bJ,bL,bK,bM,aqn,zc,OJ,aqj,OI,aP,b6,aql,bZ,b5,bY,acA,aqm]
 rfl
theorem aiK (y0):af d99 .ret (GQ y0)=some [.v .str y0]:=by kernel_rfl
def H3 (N:Nat) (x0:aC) (x1:V3) (k:V3→Option R):Option R:=
(Sw N k x0 x1)
theorem X8 (x0 x1) (k:List E→Option R):exec cl N Fl [(0,.v U1 x0),(1,.v .str x1)] (fun e env=>(af d99 e env).bind k)=H3 N x0 x1 (fun r0=>k [.v .str r0]):=by
 simp only [Fl,aqo,aiK,al]
 rfl
def zB (S:aC→V3→Option V6):aJ:=c4 99 U1 .str S fun b=> [.v .str b]
def fF (N:Nat) (x0:aC) (x1:V3):Option V6:=H3 N x0 x1 (fun (r0:V3)=>some (r0))
def RK (k0:aC→Option R) (x0:aC):Option R:=
k0 x0
theorem api (x0):exec cl N NP [(0,.v U1 x0)] K=(RK (fun y0=>K .normal [(0,.v U1 y0)]) x0):=by
 kernel_rfl
def RL (k0:aC→aC→Int→Int→Option R) (x0:aC):Option R:=
k0 x0 x0 (x0.length:Int) (0:Int)
theorem apj (x0):exec cl N NQ [(0,.v U1 x0)] K=(RL (fun y0 y1 y2 y3=>K .normal (ln y0 y1 y2 y3)) x0):=by
 kernel_rfl
theorem TK (x0 x1 x2 x3):ah [0,7,8,9] (ln x0 x1 x2 x3)=(ln x0 x1 x2 x3):=by kernel_rfl
def RM (dv:V0→bW→Option (Bool)) (dw:Int→Option (Bool)) (k0:V3→Int→Option R) (k1:aC→aC→Int→Int→Option R) (k2:aC→aC→Int→Int→Option R) (x0 x1:aC) (x2 x3:Int):Option R:=
ae (decide (x3 < x2)) (if 0≤x3∧x3 < (x1.length:Int) then
ae ((x1.getD x3.toNat [])==([]:List UInt8)) (k0 ([]:List UInt8) (7:Int)) ((dv ((x1.getD x3.toNat []).map fun b=>(b.toNat:Int)) (fun (x1125:V4)=>((dw x1125.1).bind fun b1126=>some [.v .bool b1126]).bind (lN .bool))).bind fun r1127=>
ae r1127 (k0 ([]:List UInt8) (2:Int)) (k1 x0 x1 x2 (IntKind.i64.wrap (x3+(1:Int)))))
else none) (k2 x0 x1 x2 x3)
theorem apk (dv) (dw) (h96:(qb dv).holds cl) (h97:(qc dw).holds cl) (x0 x1 x2 x3):exec cl N EJ (ln x0 x1 x2 x3) K=(RM dv dw (fun y0 y1=>K .ret (GR y0 y1)) (fun y0 y1 y2 y3=>K .normal (ln y0 y1 y2 y3)) (fun y0 y1 y2 y3=>K (.exit 0) (ln y0 y1 y2 y3)) x0 x1 x2 x3):=by
 rw [←aI h96]
 rw [←aI h97]
 kernel_rfl
def IJ {R:Type} (dv:V0→bW→Option (Bool)) (dw:Int→Option (Bool)) (k0:V3→Int→Option R) (k1:aC→aC→Int→Int→Option R):Nat→aC→aC→Int→Int→Option R
 | 0,_,_,_,_=>none
 | m+1,x0,x1,x2,x3=>(RM dv dw k0 (IJ dv dw k0 k1 m) k1 x0 x1 x2 x3)
theorem ad0 (dv) (dw) (h96:(qb dv).holds cl) (h97:(qc dw).holds cl):∀ (m) (x0 x1 x2 x3),iter [0,7,8,9] (fun env K=>exec cl N EJ env K) K m (ln x0 x1 x2 x3)=IJ dv dw (fun y0 y1=>K .ret (GR y0 y1)) (fun y0 y1 y2 y3=>K (.exit 0) (ln y0 y1 y2 y3)) m x0 x1 x2 x3:=by
 intro m
 induction m with
 | zero=>intros; rfl
 | succ m ih=>
   intro x0 x1 x2 x3
   simp only [bS,apk dv dw h96 h97,bU,bT,bV,TK,ih]
   rfl
theorem ab4 (x0 x1):ah [0,2,3] (GR x0 x1)=(qq x0 x1):=by kernel_rfl
theorem ab5 (x0 x1 x2 x3):ah [0,2,3] (ln x0 x1 x2 x3)=(sY x0):=by kernel_rfl
def RN (N:Nat) (dv:V0→bW→Option (Bool)) (dw:Int→Option (Bool)) (k0:V3→Int→Option R) (k1:aC→Option R) (x0 x1:aC) (x2 x3:Int):Option R:=
IJ dv dw k0 (fun y0 y1 y2 y3=>k1 y0) N x0 x1 x2 x3
theorem apl (dv) (dw) (h96:(qb dv).holds cl) (h97:(qc dw).holds cl) (x0 x1 x2 x3):exec cl N EK (ln x0 x1 x2 x3) K=(RN N dv dw (fun y0 y1=>K .ret (qq y0 y1)) (fun y0=>K (.exit 0) (sY y0)) x0 x1 x2 x3):=by
 simp only [EK,aP,bR,TK,ad0 dv dw h96 h97,ab4,ab5]
 rfl
theorem ab6 (x0 x1):ah [0,2,3] (qq x0 x1)=(qq x0 x1):=by kernel_rfl
theorem ab7 (x0):ah [0,2,3] (sY x0)=(sY x0):=by kernel_rfl
def RO (fF:aC→V3→Option V6) (k0:V3→Int→Option R) (k1:V3→Int→Option R) (x0:aC):Option R:=
(fF x0 ([32]:List UInt8)).bind fun r1129=>
ae (decide ((r1129.length:Int) > (120:Int))) (k0 ([]:List UInt8) (3:Int)) (k1 r1129 (0:Int))
theorem apm (fF) (h99:(zB fF).holds cl) (x0):exec cl N NT (sY x0) K=(RO fF (fun y0 y1=>K .ret (Ga y0 y1)) (fun y0 y1=>K .ret [(2,.v .str y0),(3,.v U2 y1)]) x0):=by
 rw [←aI h99]
 kernel_rfl
def RP (N:Nat) (dv:V0→bW→Option (Bool)) (dw:Int→Option (Bool)) (fF:aC→V3→Option V6) (k0:V3→Int→Option R) (k1:V3→Int→Option R) (k2:V3→Int→Option R) (x0:aC):Option R:=
(RK (RL (RN N dv dw k0 ((RO fF k1 k2)))) x0)
theorem apn (dv) (dw) (fF) (h96:(qb dv).holds cl) (h97:(qc dw).holds cl) (h99:(zB fF).holds cl) (x0):exec cl N EL [(0,.v U1 x0)] K=(RP N dv dw fF (fun y0 y1=>K .ret (qq y0 y1)) (fun y0 y1=>K .ret (Ga y0 y1)) (fun y0 y1=>K .ret [(2,.v .str y0),(3,.v U2 y1)]) x0):=by
 simp only [EL,bJ,bL,bK,bM,api,NU,NS,apj,NR,aP,b6,apl dv dw h96 h97,bZ,b5,bY,ab6,ab7,apm fF h99]
 rfl
theorem aih (y0 y1):af d71 .ret (qq y0 y1)=some [.v .str y0,.v U2 y1]:=by kernel_rfl
theorem aii (y0 y1):af d71 .ret (Ga y0 y1)=some [.v .str y0,.v U2 y1]:=by kernel_rfl
theorem aij (y0 y1):af d71 .ret [(2,.v .str y0),(3,.v U2 y1)]=some [.v .str y0,.v U2 y1]:=by kernel_rfl
def HQ (N:Nat) (dv:V0→bW→Option (Bool)) (dw:Int→Option (Bool)) (fF:aC→V3→Option V6) (x0:aC) (k:V3→Int→Option R):Option R:=
(RP N dv dw fF k k k x0)
theorem XV (dv) (dw) (fF) (h96:(qb dv).holds cl) (h97:(qc dw).holds cl) (h99:(zB fF).holds cl) (x0) (k:List E→Option R):exec cl N EI [(0,.v U1 x0)] (fun e env=>(af d71 e env).bind k)=HQ N dv dw fF x0 (fun r0 r1=>k [.v .str r0,.v U2 r1]):=by
 simp only [EI,apn dv dw fF h96 h97 h99,aih,aii,aij,al]
 rfl
def F2 (S:aC→Option jv):aJ:=cA 71 U1 S fun b=> [.v .str b.1,.v U2 b.2]
def iF (N:Nat) (x0:aC):Option jv:=HQ N (dv N) (dw N) (fF N) x0 (fun (r0:V3) (r1:Int)=>some (r0,r1))
def QP (dU:ad→Option (Int)) (iF:aC→Option jv) (dV:V3→Option V6) (k0:Int→Option R) (k1:Int→Option R) (x0:ad) (x1:V3):Option R:=
(dU x0).bind fun r1134=>
ae (r1134 != (0:Int)) (k0 r1134) (ae (x1==([]:List UInt8)) (k0 (7:Int)) (ae (decide ((x1.length:Int) > (16:Int))) (k0 (3:Int)) ((iF [x1]).bind fun r1138=>
ae (r1138.2 != (0:Int)) (k1 (2:Int)) ((dV x1).bind fun r1140=>
ae (r1140 != x1) (k1 (2:Int)) (k1 (0:Int))))))
theorem anM (dU) (iF) (dV) (h70:(sV dU).holds cl) (h71:(F2 iF).holds cl) (h72:(sW dV).holds cl) (x0 x1):exec cl N MB (me x0 x1) K=(QP dU iF dV (fun y0=>K .ret [(1,.dead),(4,.v U2 y0)]) (fun y0=>K .ret [(4,.v U2 y0)]) x0 x1):=by
 rw [←aI h70]
 rw [←aI h71]
 rw [←aI h72]
 kernel_rfl
theorem ahE (y0):af d40 .ret [(1,.dead),(4,.v U2 y0)]=some [.v U2 y0]:=by kernel_rfl
theorem ahF (y0):af d40 .ret [(4,.v U2 y0)]=some [.v U2 y0]:=by kernel_rfl
def HD (dU:ad→Option (Int)) (iF:aC→Option jv) (dV:V3→Option V6) (x0:ad) (x1:V3) (k:Int→Option R):Option R:=
(QP dU iF dV k k x0 x1)
theorem XC (dU) (iF) (dV) (h70:(sV dU).holds cl) (h71:(F2 iF).holds cl) (h72:(sW dV).holds cl) (x0 x1) (k:List E→Option R):exec cl N DT (me x0 x1) (fun e env=>(af d40 e env).bind k)=HD dU iF dV x0 x1 (fun r0=>k [.v U2 r0]):=by
 simp only [DT,anM dU iF dV h70 h71 h72,ahE,ahF,al]
 rfl
def p6 (S:ad→V3→Option (Int)):aJ:=c4 40 ak .str S fun b=> [.v U2 b]
def dt (N:Nat) (x0:ad) (x1:V3):Option (Int):=HD (dU N) (iF N) (dV N) x0 x1 (fun (r0:Int)=>some (r0))
def RQ (k0:ar→Option R) (k1:ar→Option R) (x0:aF) (x1:Int):Option R:=
ae (decide (x1 < (0:Int))) (k0 []) (if 0≤x1∧x1 < (x0.1.2.1.length:Int) then
k1 ((x0.1.2.1.getD x1.toNat ([],([],((0:Int),((0:Int),()))))).2.1)
else none)
theorem apv (x0 x1):exec cl N NZ [(0,.at bw x0),(1,.v U2 x1)] K=(RQ (fun y0=>K .ret (O2 y0)) (fun y0=>K .ret [(4,.v bh y0)]) x0 x1):=by
 kernel_rfl
theorem ail (y0):af d73 .ret (O2 y0)=some [.v bh y0]:=by kernel_rfl
theorem aim (y0):af d73 .ret [(4,.v bh y0)]=some [.v bh y0]:=by kernel_rfl
def vE (x0:aF) (x1:Int) (k:ar→Option R):Option R:=
(RQ k k x0 x1)
theorem H6 (x0 x1) (k:List E→Option R):exec cl N EP [(0,.at bw x0),(1,.v U2 x1)] (fun e env=>(af d73 e env).bind k)=vE x0 x1 (fun r0=>k [.v bh r0]):=by
 simp only [EP,apv,ail,aim,al]
 rfl
def iH (S:aF→Int→Option kj):aJ:={A:=aF×Int×Unit,B:=ar,f:=73,enc:=fun a=> [.at bw a.1,.v U2 a.2.1],dec:=(a7 (nC bw) (a7 (bC U2) b9)),S:=fun a=>S a.1 a.2.1,aq:=fun b=> [.v bh b],ok:=(zC (T:=bw) (fP (T:=U2) (fun es b h=>iJ h)))}
def bz (N:Nat) (x0:aF) (x1:Int):Option kj:=vE x0 x1 (fun (r0:ar)=>some (r0))
def HU (k0:Bool→Option R) (x0:aN):Option R:=
ae (x0.1==(1:Int)) (k0 true) (k0 (x0.1==(2:Int)))
theorem apG (x0):exec cl N N8 [(0,.v ay x0)] K=(HU (fun y0=>K .ret [(2,.v .bool y0)]) x0):=by
 kernel_rfl
theorem aiu (y0):af d87 .ret [(2,.v .bool y0)]=some [.v .bool y0]:=by kernel_rfl
def qS (x0:aN) (k:Bool→Option R):Option R:=
(HU k x0)
theorem H9 (x0) (k:List E→Option R):exec cl N EX [(0,.v ay x0)] (fun e env=>(af d87 e env).bind k)=qS x0 (fun r0=>k [.v .bool r0]):=by
 simp only [EX,apG,aiu,al]
 rfl
def mb (S:aN→Option (Bool)):aJ:=cA 87 ay S fun b=> [.v .bool b]
def cM (N:Nat) (x0:aN):Option (Bool):=qS x0 (fun (r0:Bool)=>some (r0))
def Rv (k0:Int→ar→ar→ad→Option R) (x0:ad) (x1:Int) (x2 x3:ar):Option R:=
k0 x1 x2 x3 x0
theorem aoF (x0 x1 x2 x3):exec cl N Nf (Gb x0 x1 x2 x3) K=(Rv (fun y0 y1 y2 y3=>K .normal [(1,.v U2 y0),(2,.v bh y1),(3,.v bh y2),(4,.loc ak .no y3)]) x0 x1 x2 x3):=by
 kernel_rfl
def Rw (k0:Bool→Option R) (k1:Int→ar→ar→ad→Option R) (x0:Int) (x1 x2:ar) (x3:ad):Option R:=
ae (decide (x0 < (0:Int))) (k0 false) (ae (decide (x0≥(x3.2.1.length:Int))) (k0 false) (k1 x0 x1 x2 x3))
theorem aoG (x0 x1 x2 x3):exec cl N Ng [(1,.v U2 x0),(2,.v bh x1),(3,.v bh x2),(4,.loc ak .no x3)] K=(Rw (fun y0=>K .ret (Gc y0)) (fun y0 y1 y2 y3=>K .normal (O3 y0 y1 y2 y3)) x0 x1 x2 x3):=by
 kernel_rfl
def Rx (cM:aN→Option (Bool)) (k0:Int→ar→ad→Bool→Option R) (x0:Int) (x1 x2:ar) (x3:ad):Option R:=
ae (decide ((x2.length:Int) > (0:Int))) (if 0≤(0:Int)∧(0:Int) < (x2.length:Int) then
(cM (x2.getD (0:Int).toNat ((0:Int),((0:Int),([],()))))).bind fun r1213=>
k0 x0 x1 x3 r1213
else none) (k0 x0 x1 x3 false)
theorem aoH (cM) (h87:(mb cM).holds cl) (x0 x1 x2 x3):exec cl N Nh (O3 x0 x1 x2 x3) K=(Rx cM (fun y0 y1 y2 y3=>K .normal [(1,.v U2 y0),(2,.v bh y1),(4,.loc ak .no y2),(9,.v .bool y3)]) x0 x1 x2 x3):=by
 rw [←aI h87]
 kernel_rfl
def Ry (cM:aN→Option (Bool)) (k0:Bool→Option R) (x0:Int) (x1:ar) (x2:ad) (x3:Bool):Option R:=
if 0≤x0∧x0 < (x2.2.1.length:Int) then
ae ((x2.2.1.getD x0.toNat ([],([],((0:Int),((0:Int),()))))).2.2.2.1==(0:Int)) (k0 true) (ae ((x2.2.1.getD x0.toNat ([],([],((0:Int),((0:Int),()))))).2.2.2.1==(1:Int)) (k0 x3) (ae ((x2.2.1.getD x0.toNat ([],([],((0:Int),((0:Int),()))))).2.2.2.1==(2:Int)) (ae x3 (k0 ((x1.length:Int)==(0:Int))) (k0 false)) (ae ((x2.2.1.getD x0.toNat ([],([],((0:Int),((0:Int),()))))).2.2.2.1==(3:Int)) (ae x3 (ae (decide ((x1.length:Int) > (0:Int))) (let v1220:Int:=(IntKind.i64.wrap ((x1.length:Int) - (1:Int)))
if 0≤v1220∧v1220 < (x1.length:Int) then
(cM (x1.getD v1220.toNat ((0:Int),((0:Int),([],()))))).bind fun r1221=>
k0 r1221
else none) (k0 false)) (k0 false)) (ae ((x2.2.1.getD x0.toNat ([],([],((0:Int),((0:Int),()))))).2.2.2.1==(4:Int)) (k0 (!x3)) (k0 false)))))
else none
theorem aoI (cM) (h87:(mb cM).holds cl) (x0 x1 x2 x3):exec cl N Ni [(1,.v U2 x0),(2,.v bh x1),(4,.loc ak .no x2),(9,.v .bool x3)] K=(Ry cM (fun y0=>K .ret [(8,.v .bool y0)]) x0 x1 x2 x3):=by
 rw [←aI h87]
 kernel_rfl
def Rz (cM:aN→Option (Bool)) (k0:Bool→Option R) (k1:Bool→Option R) (x0:ad) (x1:Int) (x2 x3:ar):Option R:=
(Rv (Rw k0 (Rx cM (Ry cM k1))) x0 x1 x2 x3)
theorem aoJ (cM) (h87:(mb cM).holds cl) (x0 x1 x2 x3):exec cl N Er (Gb x0 x1 x2 x3) K=(Rz cM (fun y0=>K .ret (Gc y0)) (fun y0=>K .ret [(8,.v .bool y0)]) x0 x1 x2 x3):=by
 simp only [Er,bJ,bL,bK,bM,aoF,Nk,aoG,Nj,aoH cM h87,aoI cM h87]
 rfl
theorem ah4 (y0):af d60 .ret (Gc y0)=some [.v .bool y0]:=by kernel_rfl
theorem ah5 (y0):af d60 .ret [(8,.v .bool y0)]=some [.v .bool y0]:=by kernel_rfl
def vp (cM:aN→Option (Bool)) (x0:ad) (x1:Int) (x2 x3:ar) (k:Bool→Option R):Option R:=
(Rz cM k k x0 x1 x2 x3)
theorem H5 (cM) (h87:(mb cM).holds cl) (x0 x1 x2 x3) (k:List E→Option R):exec cl N Ep (Gb x0 x1 x2 x3) (fun e env=>(af d60 e env).bind k)=vp cM x0 x1 x2 x3 (fun r0=>k [.v .bool r0]):=by
 simp only [Ep,aoJ cM h87,ah4,ah5,al]
 rfl
def iG (S:ad→Int→ar→ar→Option (Bool)):aJ:=Wm 60 ak U2 bh bh S fun b=> [.v .bool b]
def bx (N:Nat) (x0:ad) (x1:Int) (x2:ar) (x3:ar):Option (Bool):=vp (cM N) x0 x1 x2 x3 (fun (r0:Bool)=>some (r0))
def RZ (k0:Bool→Option R) (x0 x1:V3):Option R:=
ae (decide ((x0.length:Int)≥(x1.length:Int))) (if 0≤(0:Int)∧(0:Int)≤(x1.length:Int)∧(x1.length:Int)≤(x0.length:Int) then
k0 (((x0.drop (0:Int).toNat).take ((x1.length:Int).toNat - (0:Int).toNat))==x1)
else none) (k0 false)
theorem apE (x0 x1):exec cl N N6 (zG x0 x1) K=(RZ (fun y0=>K .ret [(4,.v .bool y0)]) x0 x1):=by
 kernel_rfl
theorem air (y0):af d83 .ret [(4,.v .bool y0)]=some [.v .bool y0]:=by kernel_rfl
def vG (x0 x1:V3) (k:Bool→Option R):Option R:=
(RZ k x0 x1)
theorem H8 (x0 x1) (k:List E→Option R):exec cl N EV (zG x0 x1) (fun e env=>(af d83 e env).bind k)=vG x0 x1 (fun r0=>k [.v .bool r0]):=by
 simp only [EV,apE,air,al]
 rfl
def nz (S:V3→V3→Option (Bool)):aJ:=c4 83 .str .str S fun b=> [.v .bool b]
def eK (N:Nat) (x0:V3) (x1:V3):Option (Bool):=vG x0 x1 (fun (r0:Bool)=>some (r0))
def Ru (eK:V3→V3→Option (Bool)) (k0:Bool→Option R) (x0 x1:V3):Option R:=
(eK x0 x1).bind fun r1232=>
k0 r1232
theorem aop (eK) (h83:(nz eK).holds cl) (x0 x1):exec cl N M1 (zG x0 x1) K=(Ru eK (fun y0=>K .ret [(4,.v .bool y0)]) x0 x1):=by
 rw [←aI h83]
 kernel_rfl
theorem ahU (y0):af d54 .ret [(4,.v .bool y0)]=some [.v .bool y0]:=by kernel_rfl
def vc (eK:V3→V3→Option (Bool)) (x0 x1:V3) (k:Bool→Option R):Option R:=
(Ru eK k x0 x1)
theorem H4 (eK) (h83:(nz eK).holds cl) (x0 x1) (k:List E→Option R):exec cl N Ef (zG x0 x1) (fun e env=>(af d54 e env).bind k)=vc eK x0 x1 (fun r0=>k [.v .bool r0]):=by
 simp only [Ef,aop eK h83,ahU,al]
 rfl
def fO (S:V3→V3→Option (Bool)):aJ:=c4 54 .str .str S fun b=> [.v .bool b]
def aR (N:Nat) (x0:V3) (x1:V3):Option (Bool):=vc (eK N) x0 x1 (fun (r0:Bool)=>some (r0))
def RW (k0:aF→aY→bX→Option R) (x0:aF) (x1:aY):Option R:=
k0 x0 x1 []
theorem apA (x0 x1):exec cl N yQ [(0,.at bw x0),(1,.v aU x1)] K=(RW (fun y0 y1 y2=>exec cl N yP [(0,.at bw y0),(3,.loc aU .no y1),(5,.own true 73 aU .no y2)] K) x0 x1):=by
 delta yQ
 generalize yP=q
 revert q
 refine id ?_
 intro q
 kernel_rfl
def RR (k0:aF→aY→bX→cj→Int→Int→Option R) (x0:aF) (x1:aY) (x2:bX):Option R:=
k0 x0 x1 x2 x0.1.2.1 (x0.1.2.1.length:Int) (0:Int)
theorem apw (x0 x1 x2):exec cl N N0 [(0,.at bw x0),(3,.loc aU .no x1),(5,.own true 73 aU .no x2)] K=(RR (fun y0 y1 y2 y3 y4 y5=>K .normal (kr y0 y1 y2 y3 y4 y5)) x0 x1 x2):=by
 kernel_rfl
theorem TM (x0 x1 x2 x3 x4 x5):ah [0,3,5,12,13,14] (kr x0 x1 x2 x3 x4 x5)=(kr x0 x1 x2 x3 x4 x5):=by kernel_rfl
def RS (aR:V3→V3→Option (Bool)) (bx:ad→Int→ar→ar→Option (Bool)) (bz:aF→Int→Option kj) (k0:aF→aY→bX→cj→Int→Int→Option R) (k1:aF→aY→bX→cj→Int→Int→Option R) (x0:aF) (x1:aY) (x2:bX) (x3:cj) (x4 x5:Int):Option R:=
ae (decide (x5 < x4)) (if 0≤x5∧x5 < (x3.length:Int) then
if 0≤x1.2.2.1∧x1.2.2.1≤(x0.2.1.length:Int)∧(x0.2.1.length:Int)≤(x0.2.1.length:Int) then
(aR ((x0.2.1.drop x1.2.2.1.toNat).take ((x0.2.1.length:Int).toNat - x1.2.2.1.toNat)) ((x3.getD x5.toNat ([],([],((0:Int),((0:Int),()))))).1)).bind fun r1247=>
ae r1247 (ae (decide (x1.2.1 < (0:Int))) (let v1250:aY:=(x1.2.1,x5,(IntKind.i64.wrap (x1.2.2.1+(((x3.getD x5.toNat ([],([],((0:Int),((0:Int),()))))).1).length:Int))),())
if x2.length+[v1250].length≤5864062014805 then
k0 x0 x1 (x2++[v1250]) x3 x4 (IntKind.i64.wrap (x5+(1:Int)))
else none) ((bz x0 x1.1).bind fun r1252=>
(bx x0.1 x1.2.1 r1252 ((x3.getD x5.toNat ([],([],((0:Int),((0:Int),()))))).2.1)).bind fun r1253=>
ae r1253 (let v1255:aY:=(x1.2.1,x5,(IntKind.i64.wrap (x1.2.2.1+(((x3.getD x5.toNat ([],([],((0:Int),((0:Int),()))))).1).length:Int))),())
if x2.length+[v1255].length≤5864062014805 then
k0 x0 x1 (x2++[v1255]) x3 x4 (IntKind.i64.wrap (x5+(1:Int)))
else none) (k0 x0 x1 x2 x3 x4 (IntKind.i64.wrap (x5+(1:Int)))))) (k0 x0 x1 x2 x3 x4 (IntKind.i64.wrap (x5+(1:Int))))
else none
else none) (k1 x0 x1 x2 x3 x4 x5)
theorem apx (aR) (bx) (bz) (h54:(fO aR).holds cl) (h60:(iG bx).holds cl) (h73:(iH bz).holds cl) (x0 x1 x2 x3 x4 x5):exec cl N ES (kr x0 x1 x2 x3 x4 x5) K=(RS aR bx bz (fun y0 y1 y2 y3 y4 y5=>K .normal (kr y0 y1 y2 y3 y4 y5)) (fun y0 y1 y2 y3 y4 y5=>K (.exit 0) (kr y0 y1 y2 y3 y4 y5)) x0 x1 x2 x3 x4 x5):=by
 rw [←aI h54]
 rw [←aI h60]
 rw [←aI h73]
 kernel_rfl
def IK {R:Type} (aR:V3→V3→Option (Bool)) (bx:ad→Int→ar→ar→Option (Bool)) (bz:aF→Int→Option kj) (k0:aF→aY→bX→cj→Int→Int→Option R):Nat→aF→aY→bX→cj→Int→Int→Option R
 | 0,_,_,_,_,_,_=>none
 | m+1,x0,x1,x2,x3,x4,x5=>(RS aR bx bz (IK aR bx bz k0 m) k0 x0 x1 x2 x3 x4 x5)
theorem ad2 (aR) (bx) (bz) (h54:(fO aR).holds cl) (h60:(iG bx).holds cl) (h73:(iH bz).holds cl):∀ (m) (x0 x1 x2 x3 x4 x5),iter [0,3,5,12,13,14] (fun env K=>exec cl N ES env K) K m (kr x0 x1 x2 x3 x4 x5)=IK aR bx bz (fun y0 y1 y2 y3 y4 y5=>K (.exit 0) (kr y0 y1 y2 y3 y4 y5)) m x0 x1 x2 x3 x4 x5:=by
 intro m
 induction m with
 | zero=>intros; rfl
 | succ m ih=>
   intro x0 x1 x2 x3 x4 x5
   simp only [bS,apx aR bx bz h54 h60 h73,bU,bT,bV,TM,ih]
   rfl
theorem aca (x0 x1 x2 x3 x4 x5):ah [5] (kr x0 x1 x2 x3 x4 x5)=(sZ x2):=by kernel_rfl
def RT (N:Nat) (aR:V3→V3→Option (Bool)) (bx:ad→Int→ar→ar→Option (Bool)) (bz:aF→Int→Option kj) (k0:bX→Option R) (x0:aF) (x1:aY) (x2:bX) (x3:cj) (x4 x5:Int):Option R:=
IK aR bx bz (fun y0 y1 y2 y3 y4 y5=>k0 y2) N x0 x1 x2 x3 x4 x5
theorem apy (aR) (bx) (bz) (h54:(fO aR).holds cl) (h60:(iG bx).holds cl) (h73:(iH bz).holds cl) (x0 x1 x2 x3 x4 x5):exec cl N ET (kr x0 x1 x2 x3 x4 x5) K=(RT N aR bx bz (fun y0=>K (.exit 0) (sZ y0)) x0 x1 x2 x3 x4 x5):=by
 simp only [ET,aP,bR,TM,ad2 aR bx bz h54 h60 h73,aca]
 rfl
theorem acb (x0):ah [5] (sZ x0)=(sZ x0):=by kernel_rfl
def RU (k0:bX→Option R) (x0:bX):Option R:=
k0 x0
theorem apz (x0):exec cl N N3 (sZ x0) K=(RU (fun y0=>K .ret (Gf y0)) x0):=by
 kernel_rfl
def RX (N:Nat) (aR:V3→V3→Option (Bool)) (bx:ad→Int→ar→ar→Option (Bool)) (bz:aF→Int→Option kj) (k0:bX→Option R) (x0:aF) (x1:aY):Option R:=
(RW (RR (RT N aR bx bz ((RU k0)))) x0 x1)
theorem apB (aR) (bx) (bz) (h54:(fO aR).holds cl) (h60:(iG bx).holds cl) (h73:(iH bz).holds cl) (x0 x1):exec cl N yQ [(0,.at bw x0),(1,.v aU x1)] K=(RX N aR bx bz (fun y0=>K .ret (Gf y0)) x0 x1):=by
 simp only [bJ,bL,bK,bM,apA,yP,N2,apw,N1,aP,b6,apy aR bx bz h54 h60 h73,bZ,b5,bY,acb,apz]
 rfl
theorem ain (y0):af d74 .ret (Gf y0)=some [.own true 73 aU .no y0]:=by kernel_rfl
def vF (N:Nat) (aR:V3→V3→Option (Bool)) (bx:ad→Int→ar→ar→Option (Bool)) (bz:aF→Int→Option kj) (x0:aF) (x1:aY) (k:bX→Option R):Option R:=
(RX N aR bx bz k x0 x1)
theorem H7 (aR) (bx) (bz) (h54:(fO aR).holds cl) (h60:(iG bx).holds cl) (h73:(iH bz).holds cl) (x0 x1) (k:List E→Option R):exec cl N ER [(0,.at bw x0),(1,.v aU x1)] (fun e env=>(af d74 e env).bind k)=vF N aR bx bz x0 x1 (fun r0=>k [.own true 73 aU .no r0]):=by
 simp only [ER,apB aR bx bz h54 h60 h73,ain,al]
 rfl
def jV (S:aF→aY→Option mB):aJ:={A:=aF×aY×Unit,B:=bX,f:=74,enc:=fun a=> [.at bw a.1,.v aU a.2.1],dec:=(a7 (nC bw) (a7 (bC aU) b9)),S:=fun a=>S a.1 a.2.1,aq:=fun b=> [.own true 73 aU .no b],ok:=(zC (T:=bw) (fP (T:=aU) (fun es b h=>iJ h)))}
def cd (N:Nat) (x0:aF) (x1:aY):Option mB:=vF N (aR N) (bx N) (bz N) x0 x1 (fun (r0:bX)=>some (r0))
def QU (bx:ad→Int→ar→ar→Option (Bool)) (bz:aF→Int→Option kj) (k0:aF→Int→Option R) (k1:aF→aY→Int→Option R) (x0:aF) (x1:aY):Option R:=
ae (x1.2.2.1==(x0.2.1.length:Int)) (ae (decide (x1.2.1≥(0:Int))) ((bz x0 x1.1).bind fun r1268=>
(bx x0.1 x1.2.1 r1268 []).bind fun r1269=>
ae r1269 (k0 x0 (1:Int)) (k0 x0 (0:Int))) (k0 x0 (0:Int))) (let v1270:Int×Bool:=mn (fun a b:aY=>((a.1==b.1)&&((a.2.1==b.2.1)&&((a.2.2.1==b.2.2.1)&&true)))) (0:Int) x0.2.2.1 x1
ae v1270.2 (k0 x0 v1270.1) (k1 x0 x1 (0:Int)))
theorem anR (bx) (bz) (h60:(iG bx).holds cl) (h73:(iH bz).holds cl) (x0 x1):exec cl N yn (qd x0 x1) K=(QU bx bz (fun y0 y1=>K .ret (Gg y0 y1)) (fun y0 y1 y2=>exec cl N ym (nD y0 y1 y2) K) x0 x1):=by
 rw [←aI h60]
 rw [←aI h73]
 delta yn
 generalize ym=q
 revert q
 refine id ?_
 intro q
 kernel_rfl
def QQ (cd:aF→aY→Option mB) (k0:aF→aY→Int→bX→Int→Int→Option R) (x0:aF) (x1:aY) (x2:Int):Option R:=
(cd x0 x1).bind fun r1271=>
k0 x0 x1 x2 r1271 (r1271.length:Int) (0:Int)
theorem anN (cd) (h74:(jV cd).holds cl) (x0 x1 x2):exec cl N MC (nD x0 x1 x2) K=(QQ cd (fun y0 y1 y2 y3 y4 y5=>K .normal (kx y0 y1 y2 y3 y4 y5)) x0 x1 x2):=by
 rw [←aI h74]
 kernel_rfl
theorem Tx (x0 x1 x2 x3 x4 x5):ah [0,3,7,47,48,49] (kx x0 x1 x2 x3 x4 x5)=(kx x0 x1 x2 x3 x4 x5):=by kernel_rfl
def QR (aW:aF→aY→Option fZ) (k0:aF→aY→Int→bX→Int→Int→Option R) (k1:aF→aY→Int→bX→Int→Int→Option R) (x0:aF) (x1:aY) (x2:Int) (x3:bX) (x4 x5:Int):Option R:=
ae (decide (x5 < x4)) (if 0≤x5∧x5 < (x3.length:Int) then
if x5.toNat < x3.length then
(aW x0 (x3.getD x5.toNat ((0:Int),((0:Int),((0:Int),()))))).bind fun r1274=>
let v1275:Int:=(IntKind.i64.wrap (x2+r1274.2))
k0 r1274.1 x1 (if (201:Int) < v1275 then (201:Int) else v1275) x3 x4 (IntKind.i64.wrap (x5+(1:Int)))
else none
else none) (k1 x0 x1 x2 x3 x4 x5)
theorem anO (aW) (h41:(fU aW).holds cl) (x0 x1 x2 x3 x4 x5):exec cl N DV (kx x0 x1 x2 x3 x4 x5) K=(QR aW (fun y0 y1 y2 y3 y4 y5=>K .normal (kx y0 y1 y2 y3 y4 y5)) (fun y0 y1 y2 y3 y4 y5=>K (.exit 0) (kx y0 y1 y2 y3 y4 y5)) x0 x1 x2 x3 x4 x5):=by
 rw [←aI h41]
 kernel_rfl
def IC {R:Type} (aW:aF→aY→Option fZ) (k0:aF→aY→Int→bX→Int→Int→Option R):Nat→aF→aY→Int→bX→Int→Int→Option R
 | 0,_,_,_,_,_,_=>none
 | m+1,x0,x1,x2,x3,x4,x5=>(QR aW (IC aW k0 m) k0 x0 x1 x2 x3 x4 x5)
theorem adN (aW) (h41:(fU aW).holds cl):∀ (m) (x0 x1 x2 x3 x4 x5),iter [0,3,7,47,48,49] (fun env K=>exec cl N DV env K) K m (kx x0 x1 x2 x3 x4 x5)=IC aW (fun y0 y1 y2 y3 y4 y5=>K (.exit 0) (kx y0 y1 y2 y3 y4 y5)) m x0 x1 x2 x3 x4 x5:=by
 intro m
 induction m with
 | zero=>intros; rfl
 | succ m ih=>
   intro x0 x1 x2 x3 x4 x5
   simp only [bS,anO aW h41,bU,bT,bV,Tx,ih]
   rfl
theorem abj (x0 x1 x2 x3 x4 x5):ah [0,3,7] (kx x0 x1 x2 x3 x4 x5)=(nD x0 x1 x2):=by kernel_rfl
def QS (N:Nat) (aW:aF→aY→Option fZ) (k0:aF→aY→Int→Option R) (x0:aF) (x1:aY) (x2:Int) (x3:bX) (x4 x5:Int):Option R:=
IC aW (fun y0 y1 y2 y3 y4 y5=>k0 y0 y1 y2) N x0 x1 x2 x3 x4 x5
theorem anP (aW) (h41:(fU aW).holds cl) (x0 x1 x2 x3 x4 x5):exec cl N DW (kx x0 x1 x2 x3 x4 x5) K=(QS N aW (fun y0 y1 y2=>K (.exit 0) (nD y0 y1 y2)) x0 x1 x2 x3 x4 x5):=by
 simp only [DW,aP,bR,Tx,adN aW h41,abj]
 rfl
theorem abk (x0 x1 x2):ah [0,3,7] (nD x0 x1 x2)=(nD x0 x1 x2):=by kernel_rfl
def QT (k0:aF→Int→Option R) (x0:aF) (x1:aY) (x2:Int):Option R:=
k0 (x0.1,(x0.2.1,((ly (fun a b:aY=>((a.1==b.1)&&((a.2.1==b.2.1)&&((a.2.2.1==b.2.2.1)&&true)))) x0.2.2.1 x1 x2),x0.2.2.2))) x2
theorem anQ (x0 x1 x2):exec cl N MF (nD x0 x1 x2) K=(QT (fun y0 y1=>K .ret (Gh y0 y1)) x0 x1 x2):=by
 kernel_rfl
def QV (N:Nat) (aW:aF→aY→Option fZ) (bx:ad→Int→ar→ar→Option (Bool)) (bz:aF→Int→Option kj) (cd:aF→aY→Option mB) (k0:aF→Int→Option R) (k1:aF→Int→Option R) (x0:aF) (x1:aY):Option R:=
(QU bx bz k0 (QQ cd (QS N aW ((QT k1)))) x0 x1)
theorem anS (aW) (bx) (bz) (cd) (h41:(fU aW).holds cl) (h60:(iG bx).holds cl) (h73:(iH bz).holds cl) (h74:(jV cd).holds cl) (x0 x1):exec cl N yn (qd x0 x1) K=(QV N aW bx bz cd (fun y0 y1=>K .ret (Gg y0 y1)) (fun y0 y1=>K .ret (Gh y0 y1)) x0 x1):=by
 simp only [bJ,bL,bK,bM,anR bx bz h60 h73,ym,ME,anN cd h74,MD,aP,b6,anP aW h41,bZ,b5,bY,abk,anQ]
 rfl
theorem ahG (y0 y1):af d41 .ret (Gg y0 y1)=some [.loc bw (.pair .no (.pair .no (.pair .mp .no))) y0,.v U2 y1]:=by kernel_rfl
theorem ahH (y0 y1):af d41 .ret (Gh y0 y1)=some [.loc bw (.pair .no (.pair .no (.pair .mp .no))) y0,.v U2 y1]:=by kernel_rfl
def HE (N:Nat) (aW:aF→aY→Option fZ) (bx:ad→Int→ar→ar→Option (Bool)) (bz:aF→Int→Option kj) (cd:aF→aY→Option mB) (x0:aF) (x1:aY) (k:aF→Int→Option R):Option R:=
(QV N aW bx bz cd k k x0 x1)
theorem XD (aW) (bx) (bz) (cd) (h41:(fU aW).holds cl) (h60:(iG bx).holds cl) (h73:(iH bz).holds cl) (h74:(jV cd).holds cl) (x0 x1) (k:List E→Option R):exec cl N DU (qd x0 x1) (fun e env=>(af d41 e env).bind k)=HE N aW bx bz cd x0 x1 (fun r0 r1=>k [.loc bw (.pair .no (.pair .no (.pair .mp .no))) r0,.v U2 r1]):=by
 simp only [DU,anS aW bx bz cd h41 h60 h73 h74,ahG,ahH,al]
 rfl
def sj (N:Nat):Nat→aF→aY→Option fZ
 | 0,_,_=>none
 | m+1,x0,x1=>HE N (sj N m) (bx N) (bz N) (cd N) x0 x1 (fun (r0:aF) (r1:Int)=>some (r0,r1))
def aW (N:Nat) (x0:aF) (x1:aY):Option fZ:=sj N 250 x0 x1
def QZ (k0:aF→V7→Option R) (k1:aF→aY→V7→Option R) (x0:aF) (x1:aY):Option R:=
ae (x1.2.2.1==(x0.2.1.length:Int)) (k0 x0 [[]]) (k1 x0 x1 [])
theorem anW (x0 x1):exec cl N yq (qd x0 x1) K=(QZ (fun y0 y1=>K .ret (Gi y0 y1)) (fun y0 y1 y2=>exec cl N yp (O4 y0 y1 y2) K) x0 x1):=by
 delta yq
 generalize yp=q
 revert q
 refine id ?_
 intro q
 kernel_rfl
def QW (cd:aF→aY→Option mB) (k0:aF→V7→bX→Int→Int→Option R) (x0:aF) (x1:aY) (x2:V7):Option R:=
(cd x0 x1).bind fun r1293=>
k0 x0 x2 r1293 (r1293.length:Int) (0:Int)
theorem anT (cd) (h74:(jV cd).holds cl) (x0 x1 x2):exec cl N MG (O4 x0 x1 x2) K=(QW cd (fun y0 y1 y2 y3 y4=>K .normal (fq y0 y1 y2 y3 y4)) x0 x1 x2):=by
 rw [←aI h74]
 kernel_rfl
theorem Ip (x0 x1 x2 x3 x4):ah [0,5,21,22,23] (fq x0 x1 x2 x3 x4)=(fq x0 x1 x2 x3 x4):=by kernel_rfl
def Q5 (k0:aF→V7→bX→Int→Int→Option R) (k1:aF→V7→bX→Int→Int→Option R) (x0:aF) (x1:V7) (x2:bX) (x3 x4:Int):Option R:=
ae (decide (x4 < x3)) (k0 x0 x1 x2 x3 x4) (k1 x0 x1 x2 x3 x4)
theorem an2 (x0 x1 x2 x3 x4):exec cl N sH (fq x0 x1 x2 x3 x4) K=(Q5 (fun y0 y1 y2 y3 y4=>exec cl N yu (fq y0 y1 y2 y3 y4) K) (fun y0 y1 y2 y3 y4=>K (.exit 0) (fq y0 y1 y2 y3 y4)) x0 x1 x2 x3 x4):=by
 delta sH
 generalize yu=q
 revert q
 refine id ?_
 intro q
 kernel_rfl
def Q2 (aW:aF→aY→Option fZ) (bI:aF→aY→Option jw) (k0:aF→V7→aY→bX→Int→Int→Option R) (k1:aF→V7→aY→bX→Int→Int→V7→Int→Int→Option R) (x0:aF) (x1:V7) (x2:bX) (x3 x4:Int):Option R:=
if 0≤x4∧x4 < (x2.length:Int) then
if x4.toNat < x2.length then
let v1295:aY:=(x2.getD x4.toNat ((0:Int),((0:Int),((0:Int),()))))
(aW x0 v1295).bind fun r1296=>
ae (r1296.2==(0:Int)) (k0 r1296.1 x1 v1295 x2 x3 x4) ((bI r1296.1 v1295).bind fun r1298=>
k1 r1298.1 x1 v1295 x2 x3 x4 r1298.2 (r1298.2.length:Int) (0:Int))
else none
else none
theorem anZ (aW) (bI) (h41:(fU aW).holds cl) (h42:(jU bI).holds cl) (x0 x1 x2 x3 x4):exec cl N D0 (fq x0 x1 x2 x3 x4) K=(Q2 aW bI (fun y0 y1 y2 y3 y4 y5=>K (.exit 1) (O5 y0 y1 y2 y3 y4 y5)) (fun y0 y1 y2 y3 y4 y5 y6 y7 y8=>exec cl N yr (ky y0 y1 y2 y3 y4 y5 y6 y7 y8) K) x0 x1 x2 x3 x4):=by
 rw [←aI h41]
 rw [←aI h42]
 delta D0
 generalize yr=q
 revert q
 refine id ?_
 intro q
 kernel_rfl
theorem Tz (x0 x1 x2 x3 x4 x5 x6 x7 x8):ah [0,5,7,21,22,23,33,34,35] (ky x0 x1 x2 x3 x4 x5 x6 x7 x8)=(ky x0 x1 x2 x3 x4 x5 x6 x7 x8):=by kernel_rfl
def QX (k0:aF→V7→aY→bX→Int→Int→V7→Int→Int→Option R) (k1:aF→V7→aY→bX→Int→Int→V7→Int→Int→Option R) (x0:aF) (x1:V7) (x2:aY) (x3:bX) (x4 x5:Int) (x6:V7) (x7 x8:Int):Option R:=
ae (decide (x8 < x7)) (if 0≤x8∧x8 < (x6.length:Int) then
if x8.toNat < x6.length then
if [x2.2.1].length+(x6.getD x8.toNat []).length≤17592186044416 then
if x1.length+[([x2.2.1]++(x6.getD x8.toNat []))].length≤5864062014805 then
k0 x0 (x1++[([x2.2.1]++(x6.getD x8.toNat []))]) x2 x3 x4 x5 x6 x7 (IntKind.i64.wrap (x8+(1:Int)))
else none
else none
else none
else none) (k1 x0 x1 x2 x3 x4 x5 x6 x7 x8)
theorem anU (x0 x1 x2 x3 x4 x5 x6 x7 x8):exec cl N DY (ky x0 x1 x2 x3 x4 x5 x6 x7 x8) K=(QX (fun y0 y1 y2 y3 y4 y5 y6 y7 y8=>K .normal (ky y0 y1 y2 y3 y4 y5 y6 y7 y8)) (fun y0 y1 y2 y3 y4 y5 y6 y7 y8=>K (.exit 2) (ky y0 y1 y2 y3 y4 y5 y6 y7 y8)) x0 x1 x2 x3 x4 x5 x6 x7 x8):=by
 kernel_rfl
def ID {R:Type} (k0:aF→V7→aY→bX→Int→Int→V7→Int→Int→Option R):Nat→aF→V7→aY→bX→Int→Int→V7→Int→Int→Option R
 | 0,_,_,_,_,_,_,_,_,_=>none
 | m+1,x0,x1,x2,x3,x4,x5,x6,x7,x8=>(QX (ID k0 m) k0 x0 x1 x2 x3 x4 x5 x6 x7 x8)
theorem adO:∀ (m) (x0 x1 x2 x3 x4 x5 x6 x7 x8),iter [0,5,7,21,22,23,33,34,35] (fun env K=>exec cl N DY env K) K m (ky x0 x1 x2 x3 x4 x5 x6 x7 x8)=ID (fun y0 y1 y2 y3 y4 y5 y6 y7 y8=>K (.exit 2) (ky y0 y1 y2 y3 y4 y5 y6 y7 y8)) m x0 x1 x2 x3 x4 x5 x6 x7 x8:=by
 intro m
 induction m with
 | zero=>intros; rfl
 | succ m ih=>
   intro x0 x1 x2 x3 x4 x5 x6 x7 x8
   simp only [bS,anU,bU,bT,bV,Tz,ih]
   rfl
theorem abl (x0 x1 x2 x3 x4 x5 x6 x7 x8):ah [0,5,21,22,23] (ky x0 x1 x2 x3 x4 x5 x6 x7 x8)=(fq x0 x1 x3 x4 x5):=by kernel_rfl
def Q1 (N:Nat) (k0:aF→V7→bX→Int→Int→Option R) (x0:aF) (x1:V7) (x2:aY) (x3:bX) (x4 x5:Int) (x6:V7) (x7 x8:Int):Option R:=
ID (fun y0 y1 y2 y3 y4 y5 y6 y7 y8=>k0 y0 y1 y3 y4 y5) N x0 x1 x2 x3 x4 x5 x6 x7 x8
theorem anY (x0 x1 x2 x3 x4 x5 x6 x7 x8):exec cl N DZ (ky x0 x1 x2 x3 x4 x5 x6 x7 x8) K=(Q1 N (fun y0 y1 y2 y3 y4=>K (.exit 2) (fq y0 y1 y2 y3 y4)) x0 x1 x2 x3 x4 x5 x6 x7 x8):=by
 simp only [DZ,aP,bR,Tz,adO,abl]
 rfl
theorem abm (x0 x1 x2 x3 x4 x5):ah [0,5,21,22,23] (O5 x0 x1 x2 x3 x4 x5)=(fq x0 x1 x3 x4 x5):=by kernel_rfl
def Q3 (N:Nat) (aW:aF→aY→Option fZ) (bI:aF→aY→Option jw) (k0:aF→V7→bX→Int→Int→Option R) (x0:aF) (x1:V7) (x2:bX) (x3 x4:Int):Option R:=
(Q2 aW bI (fun y0 y1 y2 y3 y4 y5=>(k0 y0 y1 y3 y4 y5)) (Q1 N k0) x0 x1 x2 x3 x4)
theorem an0 (aW) (bI) (h41:(fU aW).holds cl) (h42:(jU bI).holds cl) (x0 x1 x2 x3 x4):exec cl N D1 (fq x0 x1 x2 x3 x4) K=(Q3 N aW bI (fun y0 y1 y2 y3 y4=>K .normal (fq y0 y1 y2 y3 y4)) x0 x1 x2 x3 x4):=by
 simp only [D1,aP,b6,bJ,bL,bK,bM,anZ aW bI h41 h42,yr,anY,bZ,b5,bY,Ip,abm]
 rfl
def Q4 (k0:aF→V7→bX→Int→Int→Option R) (x0:aF) (x1:V7) (x2:bX) (x3 x4:Int):Option R:=
k0 x0 x1 x2 x3 (IntKind.i64.wrap (x4+(1:Int)))
theorem an1 (x0 x1 x2 x3 x4):exec cl N MK (fq x0 x1 x2 x3 x4) K=(Q4 (fun y0 y1 y2 y3 y4=>K .normal (fq y0 y1 y2 y3 y4)) x0 x1 x2 x3 x4):=by
 kernel_rfl
def Q6 (N:Nat) (aW:aF→aY→Option fZ) (bI:aF→aY→Option jw) (k0:aF→V7→bX→Int→Int→Option R) (k1:aF→V7→bX→Int→Int→Option R) (x0:aF) (x1:V7) (x2:bX) (x3 x4:Int):Option R:=
(Q5 (Q3 N aW bI (Q4 k0)) k1 x0 x1 x2 x3 x4)
theorem an3 (aW) (bI) (h41:(fU aW).holds cl) (h42:(jU bI).holds cl) (x0 x1 x2 x3 x4):exec cl N sH (fq x0 x1 x2 x3 x4) K=(Q6 N aW bI (fun y0 y1 y2 y3 y4=>K .normal (fq y0 y1 y2 y3 y4)) (fun y0 y1 y2 y3 y4=>K (.exit 0) (fq y0 y1 y2 y3 y4)) x0 x1 x2 x3 x4):=by
 simp only [bJ,bL,bK,bM,an2,yu,an0 aW bI h41 h42,an1]
 rfl
def IE {R:Type} (N:Nat) (aW:aF→aY→Option fZ) (bI:aF→aY→Option jw) (k0:aF→V7→bX→Int→Int→Option R):Nat→aF→V7→bX→Int→Int→Option R
 | 0,_,_,_,_,_=>none
 | m+1,x0,x1,x2,x3,x4=>(Q6 N aW bI (IE N aW bI k0 m) k0 x0 x1 x2 x3 x4)
theorem adP (aW) (bI) (h41:(fU aW).holds cl) (h42:(jU bI).holds cl):∀ (m) (x0 x1 x2 x3 x4),iter [0,5,21,22,23] (fun env K=>exec cl N sH env K) K m (fq x0 x1 x2 x3 x4)=IE N aW bI (fun y0 y1 y2 y3 y4=>K (.exit 0) (fq y0 y1 y2 y3 y4)) m x0 x1 x2 x3 x4:=by
 intro m
 induction m with
 | zero=>intros; rfl
 | succ m ih=>
   intro x0 x1 x2 x3 x4
   simp only [bS,an3 aW bI h41 h42,bU,bT,bV,Ip,ih]
   rfl
theorem abn (x0 x1 x2 x3 x4):ah [0,5] (fq x0 x1 x2 x3 x4)=(s3 x0 x1):=by kernel_rfl
def Q7 (N:Nat) (aW:aF→aY→Option fZ) (bI:aF→aY→Option jw) (k0:aF→V7→Option R) (x0:aF) (x1:V7) (x2:bX) (x3 x4:Int):Option R:=
IE N aW bI (fun y0 y1 y2 y3 y4=>k0 y0 y1) N x0 x1 x2 x3 x4
theorem an4 (aW) (bI) (h41:(fU aW).holds cl) (h42:(jU bI).holds cl) (x0 x1 x2 x3 x4):exec cl N D2 (fq x0 x1 x2 x3 x4) K=(Q7 N aW bI (fun y0 y1=>K (.exit 0) (s3 y0 y1)) x0 x1 x2 x3 x4):=by
 simp only [D2,aP,bR,Ip,adP aW bI h41 h42,abn]
 rfl
theorem abo (x0 x1):ah [0,5] (s3 x0 x1)=(s3 x0 x1):=by kernel_rfl
def QY (k0:aF→V7→Option R) (x0:aF) (x1:V7):Option R:=
k0 x0 x1
theorem anV (x0 x1):exec cl N MJ (s3 x0 x1) K=(QY (fun y0 y1=>K .ret (Gj y0 y1)) x0 x1):=by
 kernel_rfl
def Q0 (N:Nat) (aW:aF→aY→Option fZ) (bI:aF→aY→Option jw) (cd:aF→aY→Option mB) (k0:aF→V7→Option R) (k1:aF→V7→Option R) (x0:aF) (x1:aY):Option R:=
(QZ k0 (QW cd (Q7 N aW bI ((QY k1)))) x0 x1)
theorem anX (aW) (bI) (cd) (h41:(fU aW).holds cl) (h42:(jU bI).holds cl) (h74:(jV cd).holds cl) (x0 x1):exec cl N yq (qd x0 x1) K=(Q0 N aW bI cd (fun y0 y1=>K .ret (Gi y0 y1)) (fun y0 y1=>K .ret (Gj y0 y1)) x0 x1):=by
 simp only [bJ,bL,bK,bM,anW,yp,MI,anT cd h74,MH,aP,b6,an4 aW bI h41 h42,bZ,b5,bY,abo,anV]
 rfl
theorem ahI (y0 y1):af d42 .ret (Gi y0 y1)=some [.loc bw (.pair .no (.pair .no (.pair .mp .no))) y0,.own true 27 U5 .no y1]:=by kernel_rfl
theorem ahJ (y0 y1):af d42 .ret (Gj y0 y1)=some [.loc bw (.pair .no (.pair .no (.pair .mp .no))) y0,.own true 27 U5 .no y1]:=by kernel_rfl
def HF (N:Nat) (aW:aF→aY→Option fZ) (bI:aF→aY→Option jw) (cd:aF→aY→Option mB) (x0:aF) (x1:aY) (k:aF→V7→Option R):Option R:=
(Q0 N aW bI cd k k x0 x1)
theorem XE (aW) (bI) (cd) (h41:(fU aW).holds cl) (h42:(jU bI).holds cl) (h74:(jV cd).holds cl) (x0 x1) (k:List E→Option R):exec cl N DX (qd x0 x1) (fun e env=>(af d42 e env).bind k)=HF N aW bI cd x0 x1 (fun r0 r1=>k [.loc bw (.pair .no (.pair .no (.pair .mp .no))) r0,.own true 27 U5 .no r1]):=by
 simp only [DX,anX aW bI cd h41 h42 h74,ahI,ahJ,al]
 rfl
def sk (N:Nat):Nat→aF→aY→Option jw
 | 0,_,_=>none
 | m+1,x0,x1=>HF N (aW N) (sk N m) (cd N) x0 x1 (fun (r0:aF) (r1:V7)=>some (r0,r1))
def bI (N:Nat) (x0:aF) (x1:aY):Option jw:=sk N 250 x0 x1
def QN (k0:V0→ad→Int→Option R) (x0:ad) (x1:V0):Option R:=
k0 x1 x0 (0:Int)
theorem anK (x0 x1):exec cl N yl (de x0 x1) K=(QN (fun y0 y1 y2=>exec cl N yk (jC y0 y1 y2) K) x0 x1):=by
 delta yl
 generalize yk=q
 revert q
 refine id ?_
 intro q
 kernel_rfl
def QJ (k0:ad→Int→V0→Int→Int→Option R) (x0:V0) (x1:ad) (x2:Int):Option R:=
k0 x1 x2 x0 (x0.length:Int) (0:Int)
theorem anG (x0 x1 x2):exec cl N Mx (jC x0 x1 x2) K=(QJ (fun y0 y1 y2 y3 y4=>K .normal (kz y0 y1 y2 y3 y4)) x0 x1 x2):=by
 kernel_rfl
theorem Tw (x0 x1 x2 x3 x4):ah [2,5,8,9,10] (kz x0 x1 x2 x3 x4)=(kz x0 x1 x2 x3 x4):=by kernel_rfl
def QK (k0:ad→Int→V0→Int→Int→Option R) (k1:ad→Int→V0→Int→Int→Option R) (x0:ad) (x1:Int) (x2:V0) (x3 x4:Int):Option R:=
ae (decide (x4 < x3)) (if 0≤x4∧x4 < (x2.length:Int) then
if 0≤(x2.getD x4.toNat (0:Int))∧(x2.getD x4.toNat (0:Int)) < (x0.2.1.length:Int) then
k0 x0 (IntKind.i64.wrap (x1+(x0.2.1.getD (x2.getD x4.toNat (0:Int)).toNat ([],([],((0:Int),((0:Int),()))))).2.2.1)) x2 x3 (IntKind.i64.wrap (x4+(1:Int)))
else none
else none) (k1 x0 x1 x2 x3 x4)
theorem anH (x0 x1 x2 x3 x4):exec cl N DR (kz x0 x1 x2 x3 x4) K=(QK (fun y0 y1 y2 y3 y4=>K .normal (kz y0 y1 y2 y3 y4)) (fun y0 y1 y2 y3 y4=>K (.exit 0) (kz y0 y1 y2 y3 y4)) x0 x1 x2 x3 x4):=by
 kernel_rfl
def IB {R:Type} (k0:ad→Int→V0→Int→Int→Option R):Nat→ad→Int→V0→Int→Int→Option R
 | 0,_,_,_,_,_=>none
 | m+1,x0,x1,x2,x3,x4=>(QK (IB k0 m) k0 x0 x1 x2 x3 x4)
theorem adM:∀ (m) (x0 x1 x2 x3 x4),iter [2,5,8,9,10] (fun env K=>exec cl N DR env K) K m (kz x0 x1 x2 x3 x4)=IB (fun y0 y1 y2 y3 y4=>K (.exit 0) (kz y0 y1 y2 y3 y4)) m x0 x1 x2 x3 x4:=by
 intro m
 induction m with
 | zero=>intros; rfl
 | succ m ih=>
   intro x0 x1 x2 x3 x4
   simp only [bS,anH,bU,bT,bV,Tw,ih]
   rfl
theorem abh (x0 x1 x2 x3 x4):ah [5] (kz x0 x1 x2 x3 x4)=[(5,.v U2 x1)]:=by kernel_rfl
def QL (N:Nat) (k0:Int→Option R) (x0:ad) (x1:Int) (x2:V0) (x3 x4:Int):Option R:=
IB (fun y0 y1 y2 y3 y4=>k0 y1) N x0 x1 x2 x3 x4
theorem anI (x0 x1 x2 x3 x4):exec cl N DS (kz x0 x1 x2 x3 x4) K=(QL N (fun y0=>K (.exit 0) [(5,.v U2 y0)]) x0 x1 x2 x3 x4):=by
 simp only [DS,aP,bR,Tw,adM,abh]
 rfl
theorem abi (x0):ah [5] [(5,.v U2 x0)]=[(5,.v U2 x0)]:=by kernel_rfl
def QM (k0:Int→Option R) (x0:Int):Option R:=
k0 x0
theorem anJ (x0):exec cl N MA [(5,.v U2 x0)] K=(QM (fun y0=>K .ret [(4,.v U2 y0)]) x0):=by
 kernel_rfl
def QO (N:Nat) (k0:Int→Option R) (x0:ad) (x1:V0):Option R:=
(QN (QJ (QL N ((QM k0)))) x0 x1)
theorem anL (x0 x1):exec cl N yl (de x0 x1) K=(QO N (fun y0=>K .ret [(4,.v U2 y0)]) x0 x1):=by
 simp only [bJ,bL,bK,bM,anK,yk,Mz,anG,My,aP,b6,anI,bZ,b5,bY,abi,anJ]
 rfl
theorem ahD (y0):af d38 .ret [(4,.v U2 y0)]=some [.v U2 y0]:=by kernel_rfl
def HC (N:Nat) (x0:ad) (x1:V0) (k:Int→Option R):Option R:=
(QO N k x0 x1)
theorem XB (x0 x1) (k:List E→Option R):exec cl N DQ (de x0 x1) (fun e env=>(af d38 e env).bind k)=HC N x0 x1 (fun r0=>k [.v U2 r0]):=by
 simp only [DQ,anL,ahD,al]
 rfl
def sT (S:ad→V0→Option (Int)):aJ:=c4 38 ak U5 S fun b=> [.v U2 b]
def dY (N:Nat) (x0:ad) (x1:V0):Option (Int):=HC N x0 x1 (fun (r0:Int)=>some (r0))
def RY (k0:Bool→Option R) (x0:Int):Option R:=
k0 (x0 != x0)
theorem apC (x0):exec cl N N4 [(0,.v U2 x0)] K=(RY (fun y0=>K .ret [(2,.v .bool y0)]) x0):=by
 kernel_rfl
theorem aio (y0):af d77 .ret [(2,.v .bool y0)]=some [.v .bool y0]:=by kernel_rfl
def HR (x0:Int) (k:Bool→Option R):Option R:=
(RY k x0)
theorem XX (x0) (k:List E→Option R):exec cl N EU [(0,.v U2 x0)] (fun e env=>(af d77 e env).bind k)=HR x0 (fun r0=>k [.v .bool r0]):=by
 simp only [EU,apC,aio,al]
 rfl
def F3 (S:Int→Option (Bool)):aJ:=cA 77 U2 S fun b=> [.v .bool b]
def hQ (N:Nat) (x0:Int):Option (Bool):=HR x0 (fun (r0:Bool)=>some (r0))
def Rg (hQ:Int→Option (Bool)) (k0:Int→Option R) (k1:Int→Option R) (k2:Int→Option R) (x0 x1:Int):Option R:=
(hQ x0).bind fun r1316=>
(hQ x1).bind fun r1317=>
ae r1316 (ae r1317 (k0 (0:Int)) (k0 (-1:Int))) (ae r1317 (k1 (1:Int)) (ae (decide (x0 < x1)) (k1 (-1:Int)) (ae (decide (x0 > x1)) (k2 (1:Int)) (k2 (0:Int)))))
theorem aoc (hQ) (h77:(F3 hQ).holds cl) (x0 x1):exec cl N MQ (zN x0 x1) K=(Rg hQ (fun y0=>K .ret [(0,.dead),(1,.dead),(4,.v U2 y0),(6,.dead)]) (fun y0=>K .ret (kX y0)) (fun y0=>K .ret [(4,.v U2 y0)]) x0 x1):=by
 rw [←aI h77]
 kernel_rfl
theorem ahN (y0):af d46 .ret [(0,.dead),(1,.dead),(4,.v U2 y0),(6,.dead)]=some [.v U2 y0]:=by kernel_rfl
theorem ahO (y0):af d46 .ret (kX y0)=some [.v U2 y0]:=by kernel_rfl
theorem ahP (y0):af d46 .ret [(4,.v U2 y0)]=some [.v U2 y0]:=by kernel_rfl
def HI (hQ:Int→Option (Bool)) (x0 x1:Int) (k:Int→Option R):Option R:=
(Rg hQ k k k x0 x1)
theorem XH (hQ) (h77:(F3 hQ).holds cl) (x0 x1) (k:List E→Option R):exec cl N D7 (zN x0 x1) (fun e env=>(af d46 e env).bind k)=HI hQ x0 x1 (fun r0=>k [.v U2 r0]):=by
 simp only [D7,aoc hQ h77,ahN,ahO,ahP,al]
 rfl
def mK (S:Int→Int→Option (Int)):aJ:=c4 46 U2 U2 S fun b=> [.v U2 b]
def cq (N:Nat) (x0:Int) (x1:Int):Option (Int):=HI (hQ N) x0 x1 (fun (r0:Int)=>some (r0))
def Rh (k0:V0→V0→Option R) (x0 x1:V0):Option R:=
k0 x0 x1
theorem aod (x0 x1):exec cl N MR (jX x0 x1) K=(Rh (fun y0 y1=>K .normal (jX y0 y1)) x0 x1):=by
 kernel_rfl
def Ri (k0:V0→V0→V0→Int→Int→Option R) (x0 x1:V0):Option R:=
k0 x0 x1 x0 (x0.length:Int) (0:Int)
theorem aoe (x0 x1):exec cl N MS (jX x0 x1) K=(Ri (fun y0 y1 y2 y3 y4=>K .normal (kA y0 y1 y2 y3 y4)) x0 x1):=by
 kernel_rfl
theorem TB (x0 x1 x2 x3 x4):ah [0,1,9,10,11] (kA x0 x1 x2 x3 x4)=(kA x0 x1 x2 x3 x4):=by kernel_rfl
def Rj (cq:Int→Int→Option (Int)) (k0:Int→Option R) (k1:V0→V0→V0→Int→Int→Option R) (k2:V0→V0→V0→Int→Int→Option R) (x0 x1 x2:V0) (x3 x4:Int):Option R:=
ae (decide (x4 < x3)) (if 0≤x4∧x4 < (x2.length:Int) then
ae (decide (x4≥(x1.length:Int))) (k0 (1:Int)) (if 0≤x4∧x4 < (x1.length:Int) then
(cq (x2.getD x4.toNat (0:Int)) (x1.getD x4.toNat (0:Int))).bind fun r1329=>
ae (r1329 != (0:Int)) (k0 r1329) (k1 x0 x1 x2 x3 (IntKind.i64.wrap (x4+(1:Int))))
else none)
else none) (k2 x0 x1 x2 x3 x4)
theorem aof (cq) (h46:(mK cq).holds cl) (x0 x1 x2 x3 x4):exec cl N D9 (kA x0 x1 x2 x3 x4) K=(Rj cq (fun y0=>K .ret (Gk y0)) (fun y0 y1 y2 y3 y4=>K .normal (kA y0 y1 y2 y3 y4)) (fun y0 y1 y2 y3 y4=>K (.exit 0) (kA y0 y1 y2 y3 y4)) x0 x1 x2 x3 x4):=by
 rw [←aI h46]
 kernel_rfl
def IG {R:Type} (cq:Int→Int→Option (Int)) (k0:Int→Option R) (k1:V0→V0→V0→Int→Int→Option R):Nat→V0→V0→V0→Int→Int→Option R
 | 0,_,_,_,_,_=>none
 | m+1,x0,x1,x2,x3,x4=>(Rj cq k0 (IG cq k0 k1 m) k1 x0 x1 x2 x3 x4)
theorem adR (cq) (h46:(mK cq).holds cl):∀ (m) (x0 x1 x2 x3 x4),iter [0,1,9,10,11] (fun env K=>exec cl N D9 env K) K m (kA x0 x1 x2 x3 x4)=IG cq (fun y0=>K .ret (Gk y0)) (fun y0 y1 y2 y3 y4=>K (.exit 0) (kA y0 y1 y2 y3 y4)) m x0 x1 x2 x3 x4:=by
 intro m
 induction m with
 | zero=>intros; rfl
 | succ m ih=>
   intro x0 x1 x2 x3 x4
   simp only [bS,aof cq h46,bU,bT,bV,TB,ih]
   rfl
theorem abu (x0):ah [0,1,4] (Gk x0)=(kX x0):=by kernel_rfl
theorem abv (x0 x1 x2 x3 x4):ah [0,1,4] (kA x0 x1 x2 x3 x4)=(mf x0 x1):=by kernel_rfl
def Rk (N:Nat) (cq:Int→Int→Option (Int)) (k0:Int→Option R) (k1:V0→V0→Option R) (x0 x1 x2:V0) (x3 x4:Int):Option R:=
IG cq k0 (fun y0 y1 y2 y3 y4=>k1 y0 y1) N x0 x1 x2 x3 x4
theorem aog (cq) (h46:(mK cq).holds cl) (x0 x1 x2 x3 x4):exec cl N Ea (kA x0 x1 x2 x3 x4) K=(Rk N cq (fun y0=>K .ret (kX y0)) (fun y0 y1=>K (.exit 0) (mf y0 y1)) x0 x1 x2 x3 x4):=by
 simp only [Ea,aP,bR,TB,adR cq h46,abu,abv]
 rfl
theorem abw (x0):ah [0,1,4] (kX x0)=(kX x0):=by kernel_rfl
theorem abx (x0 x1):ah [0,1,4] (mf x0 x1)=(mf x0 x1):=by kernel_rfl
def Rl (k0:Int→Option R) (x0 x1:V0):Option R:=
ae (decide ((x0.length:Int) < (x1.length:Int))) (k0 (-1:Int)) (k0 (0:Int))
theorem aoh (x0 x1):exec cl N MV (mf x0 x1) K=(Rl (fun y0=>K .ret [(4,.v U2 y0)]) x0 x1):=by
 kernel_rfl
def Rm (N:Nat) (cq:Int→Int→Option (Int)) (k0:Int→Option R) (k1:Int→Option R) (x0 x1:V0):Option R:=
(Rh (Ri (Rk N cq k0 ((Rl k1)))) x0 x1)
theorem aoi (cq) (h46:(mK cq).holds cl) (x0 x1):exec cl N Eb (jX x0 x1) K=(Rm N cq (fun y0=>K .ret (kX y0)) (fun y0=>K .ret [(4,.v U2 y0)]) x0 x1):=by
 simp only [Eb,bJ,bL,bK,bM,aod,MW,MU,aoe,MT,aP,b6,aog cq h46,bZ,b5,bY,abw,abx,aoh]
 rfl
theorem ahQ (y0):af d47 .ret (kX y0)=some [.v U2 y0]:=by kernel_rfl
theorem ahR (y0):af d47 .ret [(4,.v U2 y0)]=some [.v U2 y0]:=by kernel_rfl
def HJ (N:Nat) (cq:Int→Int→Option (Int)) (x0 x1:V0) (k:Int→Option R):Option R:=
(Rm N cq k k x0 x1)
theorem XI (cq) (h46:(mK cq).holds cl) (x0 x1) (k:List E→Option R):exec cl N D8 (jX x0 x1) (fun e env=>(af d47 e env).bind k)=HJ N cq x0 x1 (fun r0=>k [.v U2 r0]):=by
 simp only [D8,aoi cq h46,ahQ,ahR,al]
 rfl
def FY (S:V0→V0→Option (Int)):aJ:=c4 47 U5 U5 S fun b=> [.v U2 b]
def iD (N:Nat) (x0:V0) (x1:V0):Option (Int):=HJ N (cq N) x0 x1 (fun (r0:Int)=>some (r0))
def Re (k0:V0→Int→Option R) (x0:V0):Option R:=
k0 x0 (0:Int)
theorem aoa (x0):exec cl N yx [(0,.v U5 x0)] K=(Re (fun y0 y1=>exec cl N yw [(0,.v U5 y0),(3,.v U2 y1)] K) x0):=by
 delta yx
 generalize yw=q
 revert q
 refine id ?_
 intro q
 kernel_rfl
def Q9 (k0:Int→V0→Int→Int→Option R) (x0:V0) (x1:Int):Option R:=
k0 x1 x0 (x0.length:Int) (0:Int)
theorem an6 (x0 x1):exec cl N MM [(0,.v U5 x0),(3,.v U2 x1)] K=(Q9 (fun y0 y1 y2 y3=>K .normal (kC y0 y1 y2 y3)) x0 x1):=by
 kernel_rfl
theorem TA (x0 x1 x2 x3):ah [3,6,7,8] (kC x0 x1 x2 x3)=(kC x0 x1 x2 x3):=by kernel_rfl
def Ra (k0:Int→Option R) (k1:Int→V0→Int→Int→Option R) (k2:Int→V0→Int→Int→Option R) (x0:Int) (x1:V0) (x2 x3:Int):Option R:=
ae (decide (x3 < x2)) (if 0≤x3∧x3 < (x1.length:Int) then
ae ((x1.getD x3.toNat (0:Int)) != x0) (k0 (x1.getD x3.toNat (0:Int))) (k1 x0 x1 x2 (IntKind.i64.wrap (x3+(1:Int))))
else none) (k2 x0 x1 x2 x3)
theorem an7 (x0 x1 x2 x3):exec cl N D5 (kC x0 x1 x2 x3) K=(Ra (fun y0=>K .ret (Gm y0)) (fun y0 y1 y2 y3=>K .normal (kC y0 y1 y2 y3)) (fun y0 y1 y2 y3=>K (.exit 0) (kC y0 y1 y2 y3)) x0 x1 x2 x3):=by
 kernel_rfl
def IF {R:Type} (k0:Int→Option R) (k1:Int→V0→Int→Int→Option R):Nat→Int→V0→Int→Int→Option R
 | 0,_,_,_,_=>none
 | m+1,x0,x1,x2,x3=>(Ra k0 (IF k0 k1 m) k1 x0 x1 x2 x3)
theorem adQ:∀ (m) (x0 x1 x2 x3),iter [3,6,7,8] (fun env K=>exec cl N D5 env K) K m (kC x0 x1 x2 x3)=IF (fun y0=>K .ret (Gm y0)) (fun y0 y1 y2 y3=>K (.exit 0) (kC y0 y1 y2 y3)) m x0 x1 x2 x3:=by
 intro m
 induction m with
 | zero=>intros; rfl
 | succ m ih=>
   intro x0 x1 x2 x3
   simp only [bS,an7,bU,bT,bV,TA,ih]
   rfl
theorem abp (x0):ah [2,3] (Gm x0)=(jD x0):=by kernel_rfl
theorem abq (x0 x1 x2 x3):ah [2,3] (kC x0 x1 x2 x3)=(ia x0):=by kernel_rfl
def Rb (N:Nat) (k0:Int→Option R) (k1:Int→Option R) (x0:Int) (x1:V0) (x2 x3:Int):Option R:=
IF k0 (fun y0 y1 y2 y3=>k1 y0) N x0 x1 x2 x3
theorem an8 (x0 x1 x2 x3):exec cl N D6 (kC x0 x1 x2 x3) K=(Rb N (fun y0=>K .ret (jD y0)) (fun y0=>K (.exit 0) (ia y0)) x0 x1 x2 x3):=by
 simp only [D6,aP,bR,TA,adQ,abp,abq]
 rfl
theorem abr (x0):ah [2,3] (jD x0)=(jD x0):=by kernel_rfl
theorem abt (x0):ah [2,3] (ia x0)=(ia x0):=by kernel_rfl
def Rc (k0:Int→Option R) (x0:Int):Option R:=
k0 x0
theorem an9 (x0):exec cl N MP (ia x0) K=(Rc (fun y0=>K .ret [(2,.v U2 y0)]) x0):=by
 kernel_rfl
def Rf (N:Nat) (k0:Int→Option R) (k1:Int→Option R) (x0:V0):Option R:=
(Re (Q9 (Rb N k0 ((Rc k1)))) x0)
theorem aob (x0):exec cl N yx [(0,.v U5 x0)] K=(Rf N (fun y0=>K .ret (jD y0)) (fun y0=>K .ret [(2,.v U2 y0)]) x0):=by
 simp only [bJ,bL,bK,bM,aoa,yw,MO,an6,MN,aP,b6,an8,bZ,b5,bY,abr,abt,an9]
 rfl
theorem ahL (y0):af d45 .ret (jD y0)=some [.v U2 y0]:=by kernel_rfl
theorem ahM (y0):af d45 .ret [(2,.v U2 y0)]=some [.v U2 y0]:=by kernel_rfl
def HH (N:Nat) (x0:V0) (k:Int→Option R):Option R:=
(Rf N k k x0)
theorem XG (x0) (k:List E→Option R):exec cl N D4 [(0,.v U5 x0)] (fun e env=>(af d45 e env).bind k)=HH N x0 (fun r0=>k [.v U2 r0]):=by
 simp only [D4,aob,ahL,ahM,al]
 rfl
def FX (S:V0→Option (Int)):aJ:=cA 45 U5 S fun b=> [.v U2 b]
def iC (N:Nat) (x0:V0):Option (Int):=HH N x0 (fun (r0:Int)=>some (r0))
def Q8 (dY:ad→V0→Option (Int)) (iC:V0→Option (Int)) (cq:Int→Int→Option (Int)) (iD:V0→V0→Option (Int)) (k0:Int→Option R) (x0 x1:V0) (x2:ad):Option R:=
(dY x2 x0).bind fun r1341=>
(dY x2 x1).bind fun r1342=>
(cq r1341 r1342).bind fun r1343=>
(iD x0 x1).bind fun r1344=>
(iC [r1343,r1344]).bind fun r1345=>
k0 r1345
theorem an5 (dY) (iC) (cq) (iD) (h38:(sT dY).holds cl) (h45:(FX iC).holds cl) (h46:(mK cq).holds cl) (h47:(FY iD).holds cl) (x0 x1 x2):exec cl N ML [(0,.v U5 x0),(1,.v U5 x1),(2,.at ak x2)] K=(Q8 dY iC cq iD (fun y0=>K .ret [(5,.v U2 y0)]) x0 x1 x2):=by
 rw [←aI h38]
 rw [←aI h45]
 rw [←aI h46]
 rw [←aI h47]
 kernel_rfl
theorem ahK (y0):af d44 .ret [(5,.v U2 y0)]=some [.v U2 y0]:=by kernel_rfl
def HG (dY:ad→V0→Option (Int)) (iC:V0→Option (Int)) (cq:Int→Int→Option (Int)) (iD:V0→V0→Option (Int)) (x0 x1:V0) (x2:ad) (k:Int→Option R):Option R:=
(Q8 dY iC cq iD k x0 x1 x2)
theorem XF (dY) (iC) (cq) (iD) (h38:(sT dY).holds cl) (h45:(FX iC).holds cl) (h46:(mK cq).holds cl) (h47:(FY iD).holds cl) (x0 x1 x2) (k:List E→Option R):exec cl N D3 [(0,.v U5 x0),(1,.v U5 x1),(2,.at ak x2)] (fun e env=>(af d44 e env).bind k)=HG dY iC cq iD x0 x1 x2 (fun r0=>k [.v U2 r0]):=by
 simp only [D3,an5 dY iC cq iD h38 h45 h46 h47,ahK,al]
 rfl
def FW (S:V0→V0→ad→Option (Int)):aJ:={A:=V0×V0×ad×Unit,B:=Int,f:=44,enc:=fun a=> [.v U5 a.1,.v U5 a.2.1,.at ak a.2.2.1],dec:=(a7 (bC U5) (a7 (bC U5) (a7 (nC ak) b9))),S:=fun a=>S a.1 a.2.1 a.2.2.1,aq:=fun b=> [.v U2 b],ok:=(fP (T:=U5) (fP (T:=U5) (zC (T:=ak) (fun es b h=>iJ h))))}
def iB (N:Nat) (x0:V0) (x1:V0) (x2:ad):Option (Int):=HG (dY N) (iC N) (cq N) (iD N) x0 x1 x2 (fun (r0:Int)=>some (r0))
def Qp (dt:ad→V3→Option (Int)) (aW:aF→aY→Option fZ) (bI:aF→aY→Option jw) (eJ:wX→V7→Option BD) (iB:V0→V0→ad→Option (Int)) (k0:V7→Int→Option R) (k1:V7→Int→Option R) (k2:Int→V7→Option R) (x0:ad) (x1:V3):Option R:=
(dt x0 x1).bind fun r1349=>
ae (r1349 != (0:Int)) (k0 [] r1349) (let v1351:aY:=((-1:Int),(-1:Int),(0:Int),())
(aW (x0,x1,[],()) v1351).bind fun r1352=>
ae (r1352.2==(0:Int)) (k1 [] (9:Int)) (ae (decide (r1352.2 > (200:Int))) (k1 [] (3:Int)) ((bI r1352.1 v1351).bind fun r1355=>
(eJ (fun (x1356:(V0×V9))=>((iB x1356.1 x1356.2.1 x0).bind fun b1357=>some [.v U2 b1357]).bind (lN U2)) r1355.2).bind fun r1358=>
k2 (0:Int) r1358)))
theorem amt (dt) (aW) (bI) (eJ) (iB) (h40:(p6 dt).holds cl) (h41:(fU aW).holds cl) (h42:(jU bI).holds cl) (h43:(jh eJ).holds cl) (h44:(FW iB).holds cl) (x0 x1):exec cl N LB (me x0 x1) K=(Qp dt aW bI eJ iB (fun y0 y1=>K .ret (O6 y0 y1)) (fun y0 y1=>K .ret (O7 y0 y1)) (fun y0 y1=>K .ret (O8 y0 y1)) x0 x1):=by
 rw [←aI h40]
 rw [←aI h41]
 rw [←aI h42]
 rw [←aI h43]
 rw [←aI h44]
 kernel_rfl
theorem ahd (y0 y1):af d16 .ret (O6 y0 y1)=some [.own true 27 U5 .no y0,.v U2 y1]:=by kernel_rfl
theorem ahe (y0 y1):af d16 .ret (O7 y0 y1)=some [.own true 27 U5 .no y0,.v U2 y1]:=by kernel_rfl
theorem ahf (y0 y1):af d16 .ret (O8 y0 y1)=some [.own true 27 U5 .no y1,.v U2 y0]:=by kernel_rfl
def g16 (dt:ad→V3→Option (Int)) (aW:aF→aY→Option fZ) (bI:aF→aY→Option jw) (eJ:wX→V7→Option BD) (iB:V0→V0→ad→Option (Int)) (x0:ad) (x1:V3) (k:V7→Int→Option R):Option R:=
(Qp dt aW bI eJ iB k k (fun y0 y1=>k y1 y0) x0 x1)
theorem Xn (dt) (aW) (bI) (eJ) (iB) (h40:(p6 dt).holds cl) (h41:(fU aW).holds cl) (h42:(jU bI).holds cl) (h43:(jh eJ).holds cl) (h44:(FW iB).holds cl) (x0 x1) (k:List E→Option R):exec cl N Dc (me x0 x1) (fun e env=>(af d16 e env).bind k)=g16 dt aW bI eJ iB x0 x1 (fun r0 r1=>k [.own true 27 U5 .no r0,.v U2 r1]):=by
 simp only [Dc,amt dt aW bI eJ iB h40 h41 h42 h43 h44,ahd,ahe,ahf,al]
 rfl
def sR (S:ad→V3→Option pJ):aJ:=c4 16 ak .str S fun b=> [.own true 27 U5 .no b.1,.v U2 b.2]
def dP (N:Nat) (x0:ad) (x1:V3):Option pJ:=g16 (dt N) (aW N) (bI N) (eJ N) (iB N) x0 x1 (fun (r0:V7) (r1:Int)=>some (r0,r1))
def Qi (dP:ad→V3→Option pJ) (dY:ad→V0→Option (Int)) (k0:V0→Int→Int→Option R) (k1:V0→Int→Int→Option R) (x0:ad) (x1:V3):Option R:=
(dP x0 x1).bind fun r1366=>
ae (r1366.2 != (0:Int)) (k0 [] (0:Int) r1366.2) (if 0≤(0:Int)∧(0:Int) < (r1366.1.length:Int) then
if ((0:Int).toNat) < r1366.1.length then
if 0≤(0:Int)∧(0:Int) < (r1366.1.length:Int) then
if ((0:Int).toNat) < r1366.1.length then
(dY x0 (r1366.1.getD ((0:Int).toNat) [])).bind fun r1370=>
k1 (r1366.1.getD ((0:Int).toNat) []) r1370 (0:Int)
else none
else none
else none
else none)
theorem alz (dP) (dY) (h16:(sR dP).holds cl) (h38:(sT dY).holds cl) (x0 x1):exec cl N KX (me x0 x1) K=(Qi dP dY (fun y0 y1 y2=>K .ret (O9 y0 y1 y2)) (fun y0 y1 y2=>K .ret [(4,.v U5 y0),(5,.v U2 y1),(6,.v U2 y2)]) x0 x1):=by
 rw [←aI h16]
 rw [←aI h38]
 kernel_rfl
theorem agN (y0 y1 y2):af d13 .ret (O9 y0 y1 y2)=some [.v U5 y0,.v U2 y1,.v U2 y2]:=by kernel_rfl
theorem agO (y0 y1 y2):af d13 .ret [(4,.v U5 y0),(5,.v U2 y1),(6,.v U2 y2)]=some [.v U5 y0,.v U2 y1,.v U2 y2]:=by kernel_rfl
def g13 (dP:ad→V3→Option pJ) (dY:ad→V0→Option (Int)) (x0:ad) (x1:V3) (k:V0→Int→Int→Option R):Option R:=
(Qi dP dY k k x0 x1)
theorem W1 (dP) (dY) (h16:(sR dP).holds cl) (h38:(sT dY).holds cl) (x0 x1) (k:List E→Option R):exec cl N Cw (me x0 x1) (fun e env=>(af d13 e env).bind k)=g13 dP dY x0 x1 (fun r0 r1 r2=>k [.v U5 r0,.v U2 r1,.v U2 r2]):=by
 simp only [Cw,alz dP dY h16 h38,agN,agO,al]
 rfl
def FB (S:ad→V3→Option wV):aJ:=c4 13 ak .str S fun b=> [.v U5 b.1,.v U2 b.2.1,.v U2 b.2.2]
def gY (N:Nat) (x0:ad) (x1:V3):Option wV:=g13 (dP N) (dY N) x0 x1 (fun (r0:V0) (r1:Int) (r2:Int)=>some (r0,r1,r2))
def vh (k0:V0→ad→V3→Option R) (x0:ad) (x1:V0):Option R:=
k0 x1 x0 ([]:List UInt8)
theorem aow (x0 x1):exec cl N yB (de x0 x1) K=(vh (fun y0 y1 y2=>exec cl N yA [(1,.v U5 y0),(2,.loc ak .no y1),(6,.sb 123 5 y2)] K) x0 x1):=by
 delta yB
 generalize yA=q
 revert q
 refine id ?_
 intro q
 kernel_rfl
def vd (k0:ad→V3→V0→Int→Int→Option R) (x0:V0) (x1:ad) (x2:V3):Option R:=
k0 x1 x2 x0 (x0.length:Int) (0:Int)
theorem aos (x0 x1 x2):exec cl N M5 [(1,.v U5 x0),(2,.loc ak .no x1),(6,.sb 123 5 x2)] K=(vd (fun y0 y1 y2 y3 y4=>K .normal (kD y0 y1 y2 y3 y4)) x0 x1 x2):=by
 kernel_rfl
theorem TD (x0 x1 x2 x3 x4):ah [2,6,9,10,11] (kD x0 x1 x2 x3 x4)=(kD x0 x1 x2 x3 x4):=by kernel_rfl
def ve (ct:V3→V3→Option V6) (k0:V3→Bool→Option R) (k1:ad→V3→V0→Int→Int→Option R) (k2:ad→V3→V0→Int→Int→Option R) (x0:ad) (x1:V3) (x2:V0) (x3 x4:Int):Option R:=
ae (decide (x4 < x3)) (if 0≤x4∧x4 < (x2.length:Int) then
ae (decide ((x2.getD x4.toNat (0:Int)) < (0:Int))) (k0 ([]:List UInt8) false) (ae (decide ((x2.getD x4.toNat (0:Int))≥(x0.2.1.length:Int))) (k0 ([]:List UInt8) false) (if 0≤(x2.getD x4.toNat (0:Int))∧(x2.getD x4.toNat (0:Int)) < (x0.2.1.length:Int) then
(ct x1 ((x0.2.1.getD (x2.getD x4.toNat (0:Int)).toNat ([],([],((0:Int),((0:Int),()))))).1)).bind fun r1384=>
k1 x0 r1384 x2 x3 (IntKind.i64.wrap (x4+(1:Int)))
else none))
else none) (k2 x0 x1 x2 x3 x4)
theorem aot (ct) (h84:(gN ct).holds cl) (x0 x1 x2 x3 x4):exec cl N Ej (kD x0 x1 x2 x3 x4) K=(ve ct (fun y0 y1=>K .ret (Gn y0 y1)) (fun y0 y1 y2 y3 y4=>K .normal (kD y0 y1 y2 y3 y4)) (fun y0 y1 y2 y3 y4=>K (.exit 0) (kD y0 y1 y2 y3 y4)) x0 x1 x2 x3 x4):=by
 rw [←aI h84]
 kernel_rfl
def ru {R:Type} (ct:V3→V3→Option V6) (k0:V3→Bool→Option R) (k1:ad→V3→V0→Int→Int→Option R):Nat→ad→V3→V0→Int→Int→Option R
 | 0,_,_,_,_,_=>none
 | m+1,x0,x1,x2,x3,x4=>(ve ct k0 (ru ct k0 k1 m) k1 x0 x1 x2 x3 x4)
theorem adT (ct) (h84:(gN ct).holds cl):∀ (m) (x0 x1 x2 x3 x4),iter [2,6,9,10,11] (fun env K=>exec cl N Ej env K) K m (kD x0 x1 x2 x3 x4)=ru ct (fun y0 y1=>K .ret (Gn y0 y1)) (fun y0 y1 y2 y3 y4=>K (.exit 0) (kD y0 y1 y2 y3 y4)) m x0 x1 x2 x3 x4:=by
 intro m
 induction m with
 | zero=>intros; rfl
 | succ m ih=>
   intro x0 x1 x2 x3 x4
   simp only [bS,aot ct h84,bU,bT,bV,TD,ih]
   rfl
theorem abC (x0 x1):ah [4,5,6] (Gn x0 x1)=(qe x0 x1):=by kernel_rfl
theorem abD (x0 x1 x2 x3 x4):ah [4,5,6] (kD x0 x1 x2 x3 x4)=(s4 x1):=by kernel_rfl
def vf (N:Nat) (ct:V3→V3→Option V6) (k0:V3→Bool→Option R) (k1:V3→Option R) (x0:ad) (x1:V3) (x2:V0) (x3 x4:Int):Option R:=
ru ct k0 (fun y0 y1 y2 y3 y4=>k1 y1) N x0 x1 x2 x3 x4
theorem aou (ct) (h84:(gN ct).holds cl) (x0 x1 x2 x3 x4):exec cl N Ek (kD x0 x1 x2 x3 x4) K=(vf N ct (fun y0 y1=>K .ret (qe y0 y1)) (fun y0=>K (.exit 0) (s4 y0)) x0 x1 x2 x3 x4):=by
 simp only [Ek,aP,bR,TD,adT ct h84,abC,abD]
 rfl
theorem abE (x0 x1):ah [4,5,6] (qe x0 x1)=(qe x0 x1):=by kernel_rfl
theorem abF (x0):ah [4,5,6] (s4 x0)=(s4 x0):=by kernel_rfl
def vg (dH:V3→Option V6) (k0:V3→Bool→Option R) (x0:V3):Option R:=
(dH x0).bind fun r1386=>
k0 r1386 true
theorem aov (dH) (h85:(iI dH).holds cl) (x0):exec cl N M8 (s4 x0) K=(vg dH (fun y0 y1=>K .ret [(4,.v .str y0),(5,.v .bool y1)]) x0):=by
 rw [←aI h85]
 kernel_rfl
def vi (N:Nat) (ct:V3→V3→Option V6) (dH:V3→Option V6) (k0:V3→Bool→Option R) (k1:V3→Bool→Option R) (x0:ad) (x1:V0):Option R:=
(vh (vd (vf N ct k0 ((vg dH k1)))) x0 x1)
theorem aox (ct) (dH) (h84:(gN ct).holds cl) (h85:(iI dH).holds cl) (x0 x1):exec cl N yB (de x0 x1) K=(vi N ct dH (fun y0 y1=>K .ret (qe y0 y1)) (fun y0 y1=>K .ret [(4,.v .str y0),(5,.v .bool y1)]) x0 x1):=by
 simp only [bJ,bL,bK,bM,aow,yA,M7,aos,M6,aP,b6,aou ct h84,bZ,b5,bY,abE,abF,aov dH h85]
 rfl
theorem ahZ (y0 y1):af d57 .ret (qe y0 y1)=some [.v .str y0,.v .bool y1]:=by kernel_rfl
theorem ah0 (y0 y1):af d57 .ret [(4,.v .str y0),(5,.v .bool y1)]=some [.v .str y0,.v .bool y1]:=by kernel_rfl
def qI (N:Nat) (ct:V3→V3→Option V6) (dH:V3→Option V6) (x0:ad) (x1:V0) (k:V3→Bool→Option R):Option R:=
(vi N ct dH k k x0 x1)
theorem XM (ct) (dH) (h84:(gN ct).holds cl) (h85:(iI dH).holds cl) (x0 x1) (k:List E→Option R):exec cl N Ei (de x0 x1) (fun e env=>(af d57 e env).bind k)=qI N ct dH x0 x1 (fun r0 r1=>k [.v .str r0,.v .bool r1]):=by
 simp only [Ei,aox ct dH h84 h85,ahZ,ah0,al]
 rfl
def sU (S:ad→V0→Option pI):aJ:=c4 57 ak U5 S fun b=> [.v .str b.1,.v .bool b.2]
def dT (N:Nat) (x0:ad) (x1:V0):Option pI:=qI N (ct N) (dH N) x0 x1 (fun (r0:V3) (r1:Bool)=>some (r0,r1))
def HL (dT:ad→V0→Option pI) (dU:ad→Option (Int)) (k0:Int→Option R) (k1:Int→Option R) (x0:ad) (x1:V0):Option R:=
(dU x0).bind fun r1388=>
ae (r1388 != (0:Int)) (k0 r1388) (ae (decide ((x1.length:Int) > (16:Int))) (k0 (3:Int)) ((dT x0 x1).bind fun r1391=>
ae (!r1391.2) (k1 (6:Int)) (k1 (0:Int))))
theorem aoq (dT) (dU) (h57:(sU dT).holds cl) (h70:(sV dU).holds cl) (x0 x1):exec cl N M3 (de x0 x1) K=(HL dT dU (fun y0=>K .ret (zH y0)) (fun y0=>K .ret [(4,.v U2 y0)]) x0 x1):=by
 rw [←aI h57]
 rw [←aI h70]
 kernel_rfl
theorem ahV (y0):af d55 .ret (zH y0)=some [.v U2 y0]:=by kernel_rfl
theorem ahW (y0):af d55 .ret [(4,.v U2 y0)]=some [.v U2 y0]:=by kernel_rfl
def Av (dT:ad→V0→Option pI) (dU:ad→Option (Int)) (x0:ad) (x1:V0) (k:Int→Option R):Option R:=
(HL dT dU k k x0 x1)
theorem XK (dT) (dU) (h57:(sU dT).holds cl) (h70:(sV dU).holds cl) (x0 x1) (k:List E→Option R):exec cl N Eg (de x0 x1) (fun e env=>(af d55 e env).bind k)=Av dT dU x0 x1 (fun r0=>k [.v U2 r0]):=by
 simp only [Eg,aoq dT dU h57 h70,ahV,ahW,al]
 rfl
def l9 (S:ad→V0→Option (Int)):aJ:=c4 55 ak U5 S fun b=> [.v U2 b]
def bP (N:Nat) (x0:ad) (x1:V0):Option (Int):=Av (dT N) (dU N) x0 x1 (fun (r0:Int)=>some (r0))
def n8 (bP:ad→V0→Option (Int)) (k0:V0→Int→Option R) (k1:V0→ad→V0→Int→Option R) (x0:ad) (x1:V0):Option R:=
(bP x0 x1).bind fun r1399=>
ae (r1399 != (0:Int)) (k0 [] r1399) (k1 x1 x0 [] (0:Int))
theorem am5 (bP) (h55:(l9 bP).holds cl) (x0 x1):exec cl N yc (de x0 x1) K=(n8 bP (fun y0 y1=>K .ret (qf y0 y1)) (fun y0 y1 y2 y3=>exec cl N yb (zI y0 y1 y2 y3) K) x0 x1):=by
 rw [←aI h55]
 delta yc
 generalize yb=q
 revert q
 refine id ?_
 intro q
 kernel_rfl
def nV (k0:ad→V0→Int→V0→Int→Int→Option R) (x0:V0) (x1:ad) (x2:V0) (x3:Int):Option R:=
k0 x1 x2 x3 x0 (x0.length:Int) (0:Int)
theorem amY (x0 x1 x2 x3):exec cl N LV (zI x0 x1 x2 x3) K=(nV (fun y0 y1 y2 y3 y4 y5=>K .normal (ga y0 y1 y2 y3 y4 y5)) x0 x1 x2 x3):=by
 kernel_rfl
theorem Im (x0 x1 x2 x3 x4 x5):ah [2,7,8,17,18,19] (ga x0 x1 x2 x3 x4 x5)=(ga x0 x1 x2 x3 x4 x5):=by kernel_rfl
def nY (k0:ad→V0→Int→V0→Int→Int→Option R) (k1:ad→V0→Int→V0→Int→Int→Option R) (x0:ad) (x1:V0) (x2:Int) (x3:V0) (x4 x5:Int):Option R:=
ae (decide (x5 < x4)) (k0 x0 x1 x2 x3 x4 x5) (k1 x0 x1 x2 x3 x4 x5)
theorem am1 (x0 x1 x2 x3 x4 x5):exec cl N sF (ga x0 x1 x2 x3 x4 x5) K=(nY (fun y0 y1 y2 y3 y4 y5=>exec cl N ya (ga y0 y1 y2 y3 y4 y5) K) (fun y0 y1 y2 y3 y4 y5=>K (.exit 0) (ga y0 y1 y2 y3 y4 y5)) x0 x1 x2 x3 x4 x5):=by
 delta sF
 generalize ya=q
 revert q
 refine id ?_
 intro q
 kernel_rfl
def nW (k0:ad→V0→Int→Int→V0→Int→Int→Option R) (x0:ad) (x1:V0) (x2:Int) (x3:V0) (x4 x5:Int):Option R:=
if 0≤x5∧x5 < (x3.length:Int) then
k0 x0 x1 x2 (x3.getD x5.toNat (0:Int)) x3 x4 x5
else none
theorem amZ (x0 x1 x2 x3 x4 x5):exec cl N LW (ga x0 x1 x2 x3 x4 x5) K=(nW (fun y0 y1 y2 y3 y4 y5 y6=>K .normal (nF y0 y1 y2 y3 y4 y5 y6)) x0 x1 x2 x3 x4 x5):=by
 kernel_rfl
def oc (k0:ad→V0→Int→Int→V0→Int→Int→Int→Int→Option R) (x0:ad) (x1:V0) (x2 x3:Int) (x4:V0) (x5 x6:Int):Option R:=
if 0≤x3∧x3 < (x0.2.1.length:Int) then
k0 x0 x1 x2 x3 x4 x5 x6 (((x0.2.1.getD x3.toNat ([],([],((0:Int),((0:Int),()))))).2.1).length:Int) (0:Int)
else none
theorem am7 (x0 x1 x2 x3 x4 x5 x6):exec cl N L2 (nF x0 x1 x2 x3 x4 x5 x6) K=(oc (fun y0 y1 y2 y3 y4 y5 y6 y7 y8=>K .normal (kE y0 y1 y2 y3 y4 y5 y6 y7 y8)) x0 x1 x2 x3 x4 x5 x6):=by
 kernel_rfl
theorem Ts (x0 x1 x2 x3 x4 x5 x6 x7 x8):ah [2,7,8,10,17,18,19,29,30] (kE x0 x1 x2 x3 x4 x5 x6 x7 x8)=(kE x0 x1 x2 x3 x4 x5 x6 x7 x8):=by kernel_rfl
def od (k0:ad→V0→Int→Int→V0→Int→Int→Int→Int→Option R) (k1:ad→V0→Int→Int→V0→Int→Int→Int→Int→Option R) (x0:ad) (x1:V0) (x2 x3:Int) (x4:V0) (x5 x6 x7 x8:Int):Option R:=
ae (decide (x8 < x7)) (if x1.length+[x2].length≤17592186044416 then
k0 x0 (x1++[x2]) x2 x3 x4 x5 x6 x7 (IntKind.i64.wrap (x8+(1:Int)))
else none) (k1 x0 x1 x2 x3 x4 x5 x6 x7 x8)
theorem am8 (x0 x1 x2 x3 x4 x5 x6 x7 x8):exec cl N Dz (kE x0 x1 x2 x3 x4 x5 x6 x7 x8) K=(od (fun y0 y1 y2 y3 y4 y5 y6 y7 y8=>K .normal (kE y0 y1 y2 y3 y4 y5 y6 y7 y8)) (fun y0 y1 y2 y3 y4 y5 y6 y7 y8=>K (.exit 2) (kE y0 y1 y2 y3 y4 y5 y6 y7 y8)) x0 x1 x2 x3 x4 x5 x6 x7 x8):=by
 kernel_rfl
def rn {R:Type} (k0:ad→V0→Int→Int→V0→Int→Int→Int→Int→Option R):Nat→ad→V0→Int→Int→V0→Int→Int→Int→Int→Option R
 | 0,_,_,_,_,_,_,_,_,_=>none
 | m+1,x0,x1,x2,x3,x4,x5,x6,x7,x8=>(od (rn k0 m) k0 x0 x1 x2 x3 x4 x5 x6 x7 x8)
theorem adH:∀ (m) (x0 x1 x2 x3 x4 x5 x6 x7 x8),iter [2,7,8,10,17,18,19,29,30] (fun env K=>exec cl N Dz env K) K m (kE x0 x1 x2 x3 x4 x5 x6 x7 x8)=rn (fun y0 y1 y2 y3 y4 y5 y6 y7 y8=>K (.exit 2) (kE y0 y1 y2 y3 y4 y5 y6 y7 y8)) m x0 x1 x2 x3 x4 x5 x6 x7 x8:=by
 intro m
 induction m with
 | zero=>intros; rfl
 | succ m ih=>
   intro x0 x1 x2 x3 x4 x5 x6 x7 x8
   simp only [bS,am8,bU,bT,bV,Ts,ih]
   rfl
theorem aa1 (x0 x1 x2 x3 x4 x5 x6 x7 x8):ah [2,7,8,10,17,18,19] (kE x0 x1 x2 x3 x4 x5 x6 x7 x8)=(nF x0 x1 x2 x3 x4 x5 x6):=by kernel_rfl
def oe (N:Nat) (k0:ad→V0→Int→Int→V0→Int→Int→Option R) (x0:ad) (x1:V0) (x2 x3:Int) (x4:V0) (x5 x6 x7 x8:Int):Option R:=
rn (fun y0 y1 y2 y3 y4 y5 y6 y7 y8=>k0 y0 y1 y2 y3 y4 y5 y6) N x0 x1 x2 x3 x4 x5 x6 x7 x8
theorem am9 (x0 x1 x2 x3 x4 x5 x6 x7 x8):exec cl N DA (kE x0 x1 x2 x3 x4 x5 x6 x7 x8) K=(oe N (fun y0 y1 y2 y3 y4 y5 y6=>K (.exit 2) (nF y0 y1 y2 y3 y4 y5 y6)) x0 x1 x2 x3 x4 x5 x6 x7 x8):=by
 simp only [DA,aP,bR,Ts,adH,aa1]
 rfl
theorem aa2 (x0 x1 x2 x3 x4 x5 x6):ah [2,7,8,10,17,18,19] (nF x0 x1 x2 x3 x4 x5 x6)=(nF x0 x1 x2 x3 x4 x5 x6):=by kernel_rfl
def oi (k0:ad→V0→Int→V0→Int→Int→Option R) (x0:ad) (x1:V0) (x2 x3:Int) (x4:V0) (x5 x6:Int):Option R:=
if 0≤x3∧x3 < (x0.2.1.length:Int) then
k0 x0 x1 (IntKind.i64.wrap (x2+(((x0.2.1.getD x3.toNat ([],([],((0:Int),((0:Int),()))))).1).length:Int))) x4 x5 x6
else none
theorem ana (x0 x1 x2 x3 x4 x5 x6):exec cl N L5 (nF x0 x1 x2 x3 x4 x5 x6) K=(oi (fun y0 y1 y2 y3 y4 y5=>K .normal (ga y0 y1 y2 y3 y4 y5)) x0 x1 x2 x3 x4 x5 x6):=by
 kernel_rfl
def nX (k0:ad→V0→Int→V0→Int→Int→Option R) (x0:ad) (x1:V0) (x2:Int) (x3:V0) (x4 x5:Int):Option R:=
k0 x0 x1 x2 x3 x4 (IntKind.i64.wrap (x5+(1:Int)))
theorem am0 (x0 x1 x2 x3 x4 x5):exec cl N LY (ga x0 x1 x2 x3 x4 x5) K=(nX (fun y0 y1 y2 y3 y4 y5=>K .normal (ga y0 y1 y2 y3 y4 y5)) x0 x1 x2 x3 x4 x5):=by
 kernel_rfl
def nZ (N:Nat) (k0:ad→V0→Int→V0→Int→Int→Option R) (k1:ad→V0→Int→V0→Int→Int→Option R) (x0:ad) (x1:V0) (x2:Int) (x3:V0) (x4 x5:Int):Option R:=
(nY (nW (oc (oe N ((oi ((nX k0))))))) k1 x0 x1 x2 x3 x4 x5)
theorem am2 (x0 x1 x2 x3 x4 x5):exec cl N sF (ga x0 x1 x2 x3 x4 x5) K=(nZ N (fun y0 y1 y2 y3 y4 y5=>K .normal (ga y0 y1 y2 y3 y4 y5)) (fun y0 y1 y2 y3 y4 y5=>K (.exit 0) (ga y0 y1 y2 y3 y4 y5)) x0 x1 x2 x3 x4 x5):=by
 simp only [bJ,bL,bK,bM,am1,ya,LX,aP,b6,L7,amZ,L6,L4,am7,L3,am9,bZ,b5,bY,aa2,ana,Im,am0]
 rfl
def oY {R:Type} (N:Nat) (k0:ad→V0→Int→V0→Int→Int→Option R):Nat→ad→V0→Int→V0→Int→Int→Option R
 | 0,_,_,_,_,_,_=>none
 | m+1,x0,x1,x2,x3,x4,x5=>(nZ N (oY N k0 m) k0 x0 x1 x2 x3 x4 x5)
theorem adG:∀ (m) (x0 x1 x2 x3 x4 x5),iter [2,7,8,17,18,19] (fun env K=>exec cl N sF env K) K m (ga x0 x1 x2 x3 x4 x5)=oY N (fun y0 y1 y2 y3 y4 y5=>K (.exit 0) (ga y0 y1 y2 y3 y4 y5)) m x0 x1 x2 x3 x4 x5:=by
 intro m
 induction m with
 | zero=>intros; rfl
 | succ m ih=>
   intro x0 x1 x2 x3 x4 x5
   simp only [bS,am2,bU,bT,bV,Im,ih]
   rfl
theorem aa3 (x0 x1 x2 x3 x4 x5):ah [7] (ga x0 x1 x2 x3 x4 x5)=(kF x1):=by kernel_rfl
def n0 (N:Nat) (k0:V0→Option R) (x0:ad) (x1:V0) (x2:Int) (x3:V0) (x4 x5:Int):Option R:=
oY N (fun y0 y1 y2 y3 y4 y5=>k0 y1) N x0 x1 x2 x3 x4 x5
theorem am3 (x0 x1 x2 x3 x4 x5):exec cl N Dy (ga x0 x1 x2 x3 x4 x5) K=(n0 N (fun y0=>K (.exit 0) (kF y0)) x0 x1 x2 x3 x4 x5):=by
 simp only [Dy,aP,bR,Im,adG,aa3]
 rfl
theorem aa4 (x0):ah [7] (kF x0)=(kF x0):=by kernel_rfl
def n7 (k0:Int→V0→Option R) (x0:V0):Option R:=
k0 (0:Int) x0
theorem am4 (x0):exec cl N L1 (kF x0) K=(n7 (fun y0 y1=>K .ret (qg y0 y1)) x0):=by
 kernel_rfl
def n9 (N:Nat) (bP:ad→V0→Option (Int)) (k0:V0→Int→Option R) (k1:Int→V0→Option R) (x0:ad) (x1:V0):Option R:=
(n8 bP k0 (nV (n0 N ((n7 k1)))) x0 x1)
theorem am6 (bP) (h55:(l9 bP).holds cl) (x0 x1):exec cl N yc (de x0 x1) K=(n9 N bP (fun y0 y1=>K .ret (qf y0 y1)) (fun y0 y1=>K .ret (qg y0 y1)) x0 x1):=by
 simp only [bJ,bL,bK,bM,am5 bP h55,yb,L0,amY,LZ,aP,b6,am3,bZ,b5,bY,aa4,am4]
 rfl
theorem aho (y0 y1):af d24 .ret (qf y0 y1)=some [.own true 3 U2 .no y0,.v U2 y1]:=by kernel_rfl
theorem ahp (y0 y1):af d24 .ret (qg y0 y1)=some [.own true 3 U2 .no y1,.v U2 y0]:=by kernel_rfl
def g24 (N:Nat) (bP:ad→V0→Option (Int)) (x0:ad) (x1:V0) (k:V0→Int→Option R):Option R:=
(n9 N bP k (fun y0 y1=>k y1 y0) x0 x1)
theorem Xt (bP) (h55:(l9 bP).holds cl) (x0 x1) (k:List E→Option R):exec cl N Dx (de x0 x1) (fun e env=>(af d24 e env).bind k)=g24 N bP x0 x1 (fun r0 r1=>k [.own true 3 U2 .no r0,.v U2 r1]):=by
 simp only [Dx,am6 bP h55,aho,ahp,al]
 rfl
def sS (S:ad→V0→Option V8):aJ:=c4 24 ak U5 S fun b=> [.own true 3 U2 .no b.1,.v U2 b.2]
def dQ (N:Nat) (x0:ad) (x1:V0):Option V8:=g24 N (bP N) x0 x1 (fun (r0:V0) (r1:Int)=>some (r0,r1))
def Qz (dt:ad→V3→Option (Int)) (k0:Int→Int→Option R) (k1:V3→ad→V2→Int→Option R) (x0:ad) (x1:V3):Option R:=
(dt x0 x1).bind fun r1419=>
ae (r1419 != (0:Int)) (k0 (0:Int) r1419) (let v1421:Int:=(IntKind.i64.wrap ((x1.length:Int)+(1:Int)))
if 0≤v1421∧v1421≤v1421∧v1421≤((140737488355328:Nat):Int) then
if 0≤(0:Int)∧(0:Int) < ((iv v1421.toNat false).length:Int) then
if ((0:Int).toNat) < (iv v1421.toNat false).length then
k1 x1 x0 ((iv v1421.toNat false).set ((0:Int).toNat) true) (0:Int)
else none
else none
else none)
theorem amD (dt) (h40:(p6 dt).holds cl) (x0 x1):exec cl N xT (me x0 x1) K=(Qz dt (fun y0 y1=>K .ret (Gq y0 y1)) (fun y0 y1 y2 y3=>exec cl N xS (Pa y0 y1 y2 y3) K) x0 x1):=by
 rw [←aI h40]
 delta xT
 generalize xS=q
 revert q
 refine id ?_
 intro q
 kernel_rfl
def Qw (k0:V3→ad→V2→Int→Int→Int→Option R) (x0:V3) (x1:ad) (x2:V2) (x3:Int):Option R:=
k0 x0 x1 x2 x3 (x2.length:Int) (0:Int)
theorem amA (x0 x1 x2 x3):exec cl N LH (Pa x0 x1 x2 x3) K=(Qw (fun y0 y1 y2 y3 y4 y5=>K .normal (fr y0 y1 y2 y3 y4 y5)) x0 x1 x2 x3):=by
 kernel_rfl
theorem Il (x0 x1 x2 x3 x4 x5):ah [1,2,7,8,25,26,27] (fr x0 x1 x2 x3 x4 x5)=(fr x0 x1 x2 x3 x4 x5):=by kernel_rfl
def QF (k0:V3→ad→V2→Int→Int→Int→Option R) (k1:V3→ad→V2→Int→Int→Int→Option R) (x0:V3) (x1:ad) (x2:V2) (x3 x4 x5:Int):Option R:=
ae (decide (x5 < x4)) (k0 x0 x1 x2 x3 x4 x5) (k1 x0 x1 x2 x3 x4 x5)
theorem amJ (x0 x1 x2 x3 x4 x5):exec cl N sE (fr x0 x1 x2 x3 x4 x5) K=(QF (fun y0 y1 y2 y3 y4 y5=>exec cl N xV (fr y0 y1 y2 y3 y4 y5) K) (fun y0 y1 y2 y3 y4 y5=>K (.exit 0) (fr y0 y1 y2 y3 y4 y5)) x0 x1 x2 x3 x4 x5):=by
 delta sE
 generalize xV=q
 revert q
 refine id ?_
 intro q
 kernel_rfl
def QC (k0:V3→ad→V2→Int→Int→Int→Int→Option R) (k1:V3→ad→V2→Int→Int→Int→Int→cj→Int→Int→Option R) (x0:V3) (x1:ad) (x2:V2) (x3 x4 x5:Int):Option R:=
if 0≤x5∧x5 < (x2.length:Int) then
if x5.toNat < x2.length then
ae (!(x2.getD x5.toNat false)) (k0 x0 x1 x2 x3 x5 x4 x5) (k1 x0 x1 x2 x5 x5 x4 x5 x1.2.1 (x1.2.1.length:Int) (0:Int))
else none
else none
theorem amG (x0 x1 x2 x3 x4 x5):exec cl N Dn (fr x0 x1 x2 x3 x4 x5) K=(QC (fun y0 y1 y2 y3 y4 y5 y6=>K (.exit 1) (Pb y0 y1 y2 y3 y4 y5 y6)) (fun y0 y1 y2 y3 y4 y5 y6 y7 y8 y9=>exec cl N xU (kG y0 y1 y2 y3 y4 y5 y6 y7 y8 y9) K) x0 x1 x2 x3 x4 x5):=by
 delta Dn
 generalize xU=q
 revert q
 refine id ?_
 intro q
 kernel_rfl
theorem To (x0 x1 x2 x3 x4 x5 x6 x7 x8 x9):ah [1,2,7,8,9,25,26,27,36,37,38] (kG x0 x1 x2 x3 x4 x5 x6 x7 x8 x9)=(kG x0 x1 x2 x3 x4 x5 x6 x7 x8 x9):=by kernel_rfl
def Qx (aR:V3→V3→Option (Bool)) (k0:V3→ad→V2→Int→Int→Int→Int→cj→Int→Int→Option R) (k1:V3→ad→V2→Int→Int→Int→Int→cj→Int→Int→Option R) (x0:V3) (x1:ad) (x2:V2) (x3 x4 x5 x6:Int) (x7:cj) (x8 x9:Int):Option R:=
ae (decide (x9 < x8)) (if 0≤x9∧x9 < (x7.length:Int) then
if 0≤x4∧x4≤(x0.length:Int)∧(x0.length:Int)≤(x0.length:Int) then
(aR ((x0.drop x4.toNat).take ((x0.length:Int).toNat - x4.toNat)) ((x7.getD x9.toNat ([],([],((0:Int),((0:Int),()))))).1)).bind fun r1426=>
ae r1426 (let v1427:Int:=(IntKind.i64.wrap (x4+(((x7.getD x9.toNat ([],([],((0:Int),((0:Int),()))))).1).length:Int)))
if 0≤v1427∧v1427 < (x2.length:Int) then
if v1427.toNat < x2.length then
k0 x0 x1 (x2.set v1427.toNat true) x3 x4 x5 x6 x7 x8 (IntKind.i64.wrap (x9+(1:Int)))
else none
else none) (k0 x0 x1 x2 x3 x4 x5 x6 x7 x8 (IntKind.i64.wrap (x9+(1:Int))))
else none
else none) (k1 x0 x1 x2 x3 x4 x5 x6 x7 x8 x9)
theorem amB (aR) (h54:(fO aR).holds cl) (x0 x1 x2 x3 x4 x5 x6 x7 x8 x9):exec cl N Dl (kG x0 x1 x2 x3 x4 x5 x6 x7 x8 x9) K=(Qx aR (fun y0 y1 y2 y3 y4 y5 y6 y7 y8 y9=>K .normal (kG y0 y1 y2 y3 y4 y5 y6 y7 y8 y9)) (fun y0 y1 y2 y3 y4 y5 y6 y7 y8 y9=>K (.exit 2) (kG y0 y1 y2 y3 y4 y5 y6 y7 y8 y9)) x0 x1 x2 x3 x4 x5 x6 x7 x8 x9):=by
 rw [←aI h54]
 kernel_rfl
def Iz {R:Type} (aR:V3→V3→Option (Bool)) (k0:V3→ad→V2→Int→Int→Int→Int→cj→Int→Int→Option R):Nat→V3→ad→V2→Int→Int→Int→Int→cj→Int→Int→Option R
 | 0,_,_,_,_,_,_,_,_,_,_=>none
 | m+1,x0,x1,x2,x3,x4,x5,x6,x7,x8,x9=>(Qx aR (Iz aR k0 m) k0 x0 x1 x2 x3 x4 x5 x6 x7 x8 x9)
theorem adC (aR) (h54:(fO aR).holds cl):∀ (m) (x0 x1 x2 x3 x4 x5 x6 x7 x8 x9),iter [1,2,7,8,9,25,26,27,36,37,38] (fun env K=>exec cl N Dl env K) K m (kG x0 x1 x2 x3 x4 x5 x6 x7 x8 x9)=Iz aR (fun y0 y1 y2 y3 y4 y5 y6 y7 y8 y9=>K (.exit 2) (kG y0 y1 y2 y3 y4 y5 y6 y7 y8 y9)) m x0 x1 x2 x3 x4 x5 x6 x7 x8 x9:=by
 intro m
 induction m with
 | zero=>intros; rfl
 | succ m ih=>
   intro x0 x1 x2 x3 x4 x5 x6 x7 x8 x9
   simp only [bS,amB aR h54,bU,bT,bV,To,ih]
   rfl
theorem aaT (x0 x1 x2 x3 x4 x5 x6 x7 x8 x9):ah [1,2,7,8,25,26,27] (kG x0 x1 x2 x3 x4 x5 x6 x7 x8 x9)=(fr x0 x1 x2 x3 x5 x6):=by kernel_rfl
def QB (N:Nat) (aR:V3→V3→Option (Bool)) (k0:V3→ad→V2→Int→Int→Int→Option R) (x0:V3) (x1:ad) (x2:V2) (x3 x4 x5 x6:Int) (x7:cj) (x8 x9:Int):Option R:=
Iz aR (fun y0 y1 y2 y3 y4 y5 y6 y7 y8 y9=>k0 y0 y1 y2 y3 y5 y6) N x0 x1 x2 x3 x4 x5 x6 x7 x8 x9
theorem amF (aR) (h54:(fO aR).holds cl) (x0 x1 x2 x3 x4 x5 x6 x7 x8 x9):exec cl N Dm (kG x0 x1 x2 x3 x4 x5 x6 x7 x8 x9) K=(QB N aR (fun y0 y1 y2 y3 y4 y5=>K (.exit 2) (fr y0 y1 y2 y3 y4 y5)) x0 x1 x2 x3 x4 x5 x6 x7 x8 x9):=by
 simp only [Dm,aP,bR,To,adC aR h54,aaT]
 rfl
theorem aaU (x0 x1 x2 x3 x4 x5 x6):ah [1,2,7,8,25,26,27] (Pb x0 x1 x2 x3 x4 x5 x6)=(fr x0 x1 x2 x3 x5 x6):=by kernel_rfl
def QD (N:Nat) (aR:V3→V3→Option (Bool)) (k0:V3→ad→V2→Int→Int→Int→Option R) (x0:V3) (x1:ad) (x2:V2) (x3 x4 x5:Int):Option R:=
(QC (fun y0 y1 y2 y3 y4 y5 y6=>(k0 y0 y1 y2 y3 y5 y6)) (QB N aR k0) x0 x1 x2 x3 x4 x5)
theorem amH (aR) (h54:(fO aR).holds cl) (x0 x1 x2 x3 x4 x5):exec cl N Dp (fr x0 x1 x2 x3 x4 x5) K=(QD N aR (fun y0 y1 y2 y3 y4 y5=>K .normal (fr y0 y1 y2 y3 y4 y5)) x0 x1 x2 x3 x4 x5):=by
 simp only [Dp,aP,b6,bJ,bL,bK,bM,amG,xU,amF aR h54,bZ,b5,bY,Il,aaU]
 rfl
def QE (k0:V3→ad→V2→Int→Int→Int→Option R) (x0:V3) (x1:ad) (x2:V2) (x3 x4 x5:Int):Option R:=
k0 x0 x1 x2 x3 x4 (IntKind.i64.wrap (x5+(1:Int)))
theorem amI (x0 x1 x2 x3 x4 x5):exec cl N LL (fr x0 x1 x2 x3 x4 x5) K=(QE (fun y0 y1 y2 y3 y4 y5=>K .normal (fr y0 y1 y2 y3 y4 y5)) x0 x1 x2 x3 x4 x5):=by
 kernel_rfl
def QG (N:Nat) (aR:V3→V3→Option (Bool)) (k0:V3→ad→V2→Int→Int→Int→Option R) (k1:V3→ad→V2→Int→Int→Int→Option R) (x0:V3) (x1:ad) (x2:V2) (x3 x4 x5:Int):Option R:=
(QF (QD N aR (QE k0)) k1 x0 x1 x2 x3 x4 x5)
theorem amK (aR) (h54:(fO aR).holds cl) (x0 x1 x2 x3 x4 x5):exec cl N sE (fr x0 x1 x2 x3 x4 x5) K=(QG N aR (fun y0 y1 y2 y3 y4 y5=>K .normal (fr y0 y1 y2 y3 y4 y5)) (fun y0 y1 y2 y3 y4 y5=>K (.exit 0) (fr y0 y1 y2 y3 y4 y5)) x0 x1 x2 x3 x4 x5):=by
 simp only [bJ,bL,bK,bM,amJ,xV,amH aR h54,amI]
 rfl
def IA {R:Type} (N:Nat) (aR:V3→V3→Option (Bool)) (k0:V3→ad→V2→Int→Int→Int→Option R):Nat→V3→ad→V2→Int→Int→Int→Option R
 | 0,_,_,_,_,_,_=>none
 | m+1,x0,x1,x2,x3,x4,x5=>(QG N aR (IA N aR k0 m) k0 x0 x1 x2 x3 x4 x5)
theorem adD (aR) (h54:(fO aR).holds cl):∀ (m) (x0 x1 x2 x3 x4 x5),iter [1,2,7,8,25,26,27] (fun env K=>exec cl N sE env K) K m (fr x0 x1 x2 x3 x4 x5)=IA N aR (fun y0 y1 y2 y3 y4 y5=>K (.exit 0) (fr y0 y1 y2 y3 y4 y5)) m x0 x1 x2 x3 x4 x5:=by
 intro m
 induction m with
 | zero=>intros; rfl
 | succ m ih=>
   intro x0 x1 x2 x3 x4 x5
   simp only [bS,amK aR h54,bU,bT,bV,Il,ih]
   rfl
theorem aaV (x0 x1 x2 x3 x4 x5):ah [8] (fr x0 x1 x2 x3 x4 x5)=[(8,.v U2 x3)]:=by kernel_rfl
def QH (N:Nat) (aR:V3→V3→Option (Bool)) (k0:Int→Option R) (x0:V3) (x1:ad) (x2:V2) (x3 x4 x5:Int):Option R:=
IA N aR (fun y0 y1 y2 y3 y4 y5=>k0 y3) N x0 x1 x2 x3 x4 x5
theorem amL (aR) (h54:(fO aR).holds cl) (x0 x1 x2 x3 x4 x5):exec cl N Dq (fr x0 x1 x2 x3 x4 x5) K=(QH N aR (fun y0=>K (.exit 0) [(8,.v U2 y0)]) x0 x1 x2 x3 x4 x5):=by
 simp only [Dq,aP,bR,Il,adD aR h54,aaV]
 rfl
theorem aaW (x0):ah [8] [(8,.v U2 x0)]=[(8,.v U2 x0)]:=by kernel_rfl
def Qy (k0:Int→Int→Option R) (x0:Int):Option R:=
k0 x0 (0:Int)
theorem amC (x0):exec cl N LK [(8,.v U2 x0)] K=(Qy (fun y0 y1=>K .ret [(4,.v U2 y0),(5,.v U2 y1)]) x0):=by
 kernel_rfl
def QA (N:Nat) (dt:ad→V3→Option (Int)) (aR:V3→V3→Option (Bool)) (k0:Int→Int→Option R) (k1:Int→Int→Option R) (x0:ad) (x1:V3):Option R:=
(Qz dt k0 (Qw (QH N aR ((Qy k1)))) x0 x1)
theorem amE (dt) (aR) (h40:(p6 dt).holds cl) (h54:(fO aR).holds cl) (x0 x1):exec cl N xT (me x0 x1) K=(QA N dt aR (fun y0 y1=>K .ret (Gq y0 y1)) (fun y0 y1=>K .ret [(4,.v U2 y0),(5,.v U2 y1)]) x0 x1):=by
 simp only [bJ,bL,bK,bM,amD dt h40,xS,LJ,amA,LI,aP,b6,amL aR h54,bZ,b5,bY,aaW,amC]
 rfl
theorem ahi (y0 y1):af d20 .ret (Gq y0 y1)=some [.v U2 y0,.v U2 y1]:=by kernel_rfl
theorem ahj (y0 y1):af d20 .ret [(4,.v U2 y0),(5,.v U2 y1)]=some [.v U2 y0,.v U2 y1]:=by kernel_rfl
def g20 (N:Nat) (dt:ad→V3→Option (Int)) (aR:V3→V3→Option (Bool)) (x0:ad) (x1:V3) (k:Int→Int→Option R):Option R:=
(QA N dt aR k k x0 x1)
theorem Xq (dt) (aR) (h40:(p6 dt).holds cl) (h54:(fO aR).holds cl) (x0 x1) (k:List E→Option R):exec cl N Dk (me x0 x1) (fun e env=>(af d20 e env).bind k)=g20 N dt aR x0 x1 (fun r0 r1=>k [.v U2 r0,.v U2 r1]):=by
 simp only [Dk,amE dt aR h40 h54,ahi,ahj,al]
 rfl
def FN (S:ad→V3→Option V1):aJ:=c4 20 ak .str S fun b=> [.v U2 b.1,.v U2 b.2]
def hP (N:Nat) (x0:ad) (x1:V3):Option V1:=g20 N (dt N) (aR N) x0 x1 (fun (r0:Int) (r1:Int)=>some (r0,r1))
def Rs (k0:Bool→Option R) (k1:V0→V0→Option R) (x0 x1:V0):Option R:=
ae ((x0.length:Int) != (x1.length:Int)) (k0 false) (k1 x0 x1)
theorem aon (x0 x1):exec cl N yz (jX x0 x1) K=(Rs (fun y0=>K .ret (hY y0)) (fun y0 y1=>exec cl N yy (mf y0 y1) K) x0 x1):=by
 delta yz
 generalize yy=q
 revert q
 refine id ?_
 intro q
 kernel_rfl
def Rn (k0:V0→V0→Int→Option R) (x0 x1:V0):Option R:=
k0 x0 x1 (0:Int)
theorem aoj (x0 x1):exec cl N MX (mf x0 x1) K=(Rn (fun y0 y1 y2=>K .normal (kH y0 y1 y2)) x0 x1):=by
 kernel_rfl
theorem TC (x0 x1 x2):ah [0,1,5] (kH x0 x1 x2)=(kH x0 x1 x2):=by kernel_rfl
def Ro (k0:Bool→Option R) (k1:V0→V0→Int→Option R) (k2:V0→V0→Int→Option R) (x0 x1:V0) (x2:Int):Option R:=
ae (decide (x2 < (x0.length:Int))) (if 0≤x2∧x2 < (x0.length:Int) then
if 0≤x2∧x2 < (x1.length:Int) then
ae ((x0.getD x2.toNat (0:Int)) != (x1.getD x2.toNat (0:Int))) (k0 false) (k1 x0 x1 (IntKind.i64.wrap (x2+(1:Int))))
else none
else none) (k2 x0 x1 x2)
theorem aok (x0 x1 x2):exec cl N Ed (kH x0 x1 x2) K=(Ro (fun y0=>K .ret (mg y0)) (fun y0 y1 y2=>K .normal (kH y0 y1 y2)) (fun y0 y1 y2=>K (.exit 0) (kH y0 y1 y2)) x0 x1 x2):=by
 kernel_rfl
def IH {R:Type} (k0:Bool→Option R) (k1:V0→V0→Int→Option R):Nat→V0→V0→Int→Option R
 | 0,_,_,_=>none
 | m+1,x0,x1,x2=>(Ro k0 (IH k0 k1 m) k1 x0 x1 x2)
theorem adS:∀ (m) (x0 x1 x2),iter [0,1,5] (fun env K=>exec cl N Ed env K) K m (kH x0 x1 x2)=IH (fun y0=>K .ret (mg y0)) (fun y0 y1 y2=>K (.exit 0) (kH y0 y1 y2)) m x0 x1 x2:=by
 intro m
 induction m with
 | zero=>intros; rfl
 | succ m ih=>
   intro x0 x1 x2
   simp only [bS,aok,bU,bT,bV,TC,ih]
   rfl
theorem aby (x0):ah [4] (mg x0)=[(4,.v .bool x0)]:=by kernel_rfl
theorem abz (x0 x1 x2):ah [4] (kH x0 x1 x2)=[(4,.dead)]:=by kernel_rfl
def Rp (N:Nat) (k0:Bool→Option R) (k1:Option R) (x0 x1:V0) (x2:Int):Option R:=
IH k0 (fun y0 y1 y2=>k1) N x0 x1 x2
theorem aol (x0 x1 x2):exec cl N Ee (kH x0 x1 x2) K=(Rp N (fun y0=>K .ret [(4,.v .bool y0)]) (K (.exit 0) [(4,.dead)]) x0 x1 x2):=by
 simp only [Ee,aP,bR,TC,adS,aby,abz]
 rfl
theorem abA (x0):ah [4] [(4,.v .bool x0)]=[(4,.v .bool x0)]:=by kernel_rfl
theorem abB:ah [4] [(4,.dead)]=[(4,.dead)]:=by kernel_rfl
def Rq (k0:Bool→Option R):Option R:=
k0 true
theorem aom:exec cl N M0 [(4,.dead)] K=(Rq (fun y0=>K .ret [(4,.v .bool y0)])):=by
 kernel_rfl
def Rt (N:Nat) (k0:Bool→Option R) (k1:Bool→Option R) (x0 x1:V0):Option R:=
(Rs k0 (Rn (Rp N k1 (Rq k1))) x0 x1)
theorem aoo (x0 x1):exec cl N yz (jX x0 x1) K=(Rt N (fun y0=>K .ret (hY y0)) (fun y0=>K .ret [(4,.v .bool y0)]) x0 x1):=by
 simp only [bJ,bL,bK,bM,aon,yy,MZ,aoj,MY,aP,b6,aol,bZ,b5,bY,abA,abB,aom]
 rfl
theorem ahS (y0):af d53 .ret (hY y0)=some [.v .bool y0]:=by kernel_rfl
theorem ahT (y0):af d53 .ret [(4,.v .bool y0)]=some [.v .bool y0]:=by kernel_rfl
def HK (N:Nat) (x0 x1:V0) (k:Bool→Option R):Option R:=
(Rt N k k x0 x1)
theorem XJ (x0 x1) (k:List E→Option R):exec cl N Ec (jX x0 x1) (fun e env=>(af d53 e env).bind k)=HK N x0 x1 (fun r0=>k [.v .bool r0]):=by
 simp only [Ec,aoo,ahS,ahT,al]
 rfl
def p7 (S:V0→V0→Option (Bool)):aJ:=c4 53 U5 U5 S fun b=> [.v .bool b]
def du (N:Nat) (x0:V0) (x1:V0):Option (Bool):=HK N x0 x1 (fun (r0:Bool)=>some (r0))
def Qu (k0:Bool→Option R) (k1:V7→V7→Option R) (x0 x1:V7):Option R:=
ae ((x0.length:Int) != (x1.length:Int)) (k0 false) (k1 x0 x1)
theorem amy (x0 x1):exec cl N xR [(0,.v U7 x0),(1,.v U7 x1)] K=(Qu (fun y0=>K .ret (hY y0)) (fun y0 y1=>exec cl N xQ [(0,.v U7 y0),(1,.v U7 y1),(4,.dead)] K) x0 x1):=by
 delta xR
 generalize xQ=q
 revert q
 refine id ?_
 intro q
 kernel_rfl
def Qq (k0:V7→V7→Int→Option R) (x0 x1:V7):Option R:=
k0 x0 x1 (0:Int)
theorem amu (x0 x1):exec cl N LC [(0,.v U7 x0),(1,.v U7 x1),(4,.dead)] K=(Qq (fun y0 y1 y2=>K .normal (kI y0 y1 y2)) x0 x1):=by
 kernel_rfl
theorem Tn (x0 x1 x2):ah [0,1,5] (kI x0 x1 x2)=(kI x0 x1 x2):=by kernel_rfl
def Qr (du:V0→V0→Option (Bool)) (k0:Bool→Option R) (k1:V7→V7→Int→Option R) (k2:V7→V7→Int→Option R) (x0 x1:V7) (x2:Int):Option R:=
ae (decide (x2 < (x0.length:Int))) (if 0≤x2∧x2 < (x0.length:Int) then
if 0≤x2∧x2 < (x1.length:Int) then
(du (x0.getD x2.toNat []) (x1.getD x2.toNat [])).bind fun r1453=>
ae (!r1453) (k0 false) (k1 x0 x1 (IntKind.i64.wrap (x2+(1:Int))))
else none
else none) (k2 x0 x1 x2)
theorem amv (du) (h53:(p7 du).holds cl) (x0 x1 x2):exec cl N Di (kI x0 x1 x2) K=(Qr du (fun y0=>K .ret (mg y0)) (fun y0 y1 y2=>K .normal (kI y0 y1 y2)) (fun y0 y1 y2=>K (.exit 0) (kI y0 y1 y2)) x0 x1 x2):=by
 rw [←aI h53]
 kernel_rfl
def Iy {R:Type} (du:V0→V0→Option (Bool)) (k0:Bool→Option R) (k1:V7→V7→Int→Option R):Nat→V7→V7→Int→Option R
 | 0,_,_,_=>none
 | m+1,x0,x1,x2=>(Qr du k0 (Iy du k0 k1 m) k1 x0 x1 x2)
theorem adB (du) (h53:(p7 du).holds cl):∀ (m) (x0 x1 x2),iter [0,1,5] (fun env K=>exec cl N Di env K) K m (kI x0 x1 x2)=Iy du (fun y0=>K .ret (mg y0)) (fun y0 y1 y2=>K (.exit 0) (kI y0 y1 y2)) m x0 x1 x2:=by
 intro m
 induction m with
 | zero=>intros; rfl
 | succ m ih=>
   intro x0 x1 x2
   simp only [bS,amv du h53,bU,bT,bV,Tn,ih]
   rfl
theorem aaP (x0):ah [4] (mg x0)=[(4,.v .bool x0)]:=by kernel_rfl
theorem aaQ (x0 x1 x2):ah [4] (kI x0 x1 x2)=[(4,.dead)]:=by kernel_rfl
def Qs (N:Nat) (du:V0→V0→Option (Bool)) (k0:Bool→Option R) (k1:Option R) (x0 x1:V7) (x2:Int):Option R:=
Iy du k0 (fun y0 y1 y2=>k1) N x0 x1 x2
theorem amw (du) (h53:(p7 du).holds cl) (x0 x1 x2):exec cl N Dj (kI x0 x1 x2) K=(Qs N du (fun y0=>K .ret [(4,.v .bool y0)]) (K (.exit 0) [(4,.dead)]) x0 x1 x2):=by
 simp only [Dj,aP,bR,Tn,adB du h53,aaP,aaQ]
 rfl
theorem aaR (x0):ah [4] [(4,.v .bool x0)]=[(4,.v .bool x0)]:=by kernel_rfl
theorem aaS:ah [4] [(4,.dead)]=[(4,.dead)]:=by kernel_rfl
def Qt (k0:Bool→Option R):Option R:=
k0 true
theorem amx:exec cl N LG [(4,.dead)] K=(Qt (fun y0=>K .ret [(4,.v .bool y0)])):=by
 kernel_rfl
def Qv (N:Nat) (du:V0→V0→Option (Bool)) (k0:Bool→Option R) (k1:Bool→Option R) (x0 x1:V7):Option R:=
(Qu k0 (Qq (Qs N du k1 (Qt k1))) x0 x1)
theorem amz (du) (h53:(p7 du).holds cl) (x0 x1):exec cl N xR [(0,.v U7 x0),(1,.v U7 x1)] K=(Qv N du (fun y0=>K .ret (hY y0)) (fun y0=>K .ret [(4,.v .bool y0)]) x0 x1):=by
 simp only [bJ,bL,bK,bM,amy,xQ,LF,amu,LD,aP,b6,amw du h53,bZ,b5,bY,aaR,aaS,amx]
 rfl
theorem ahg (y0):af d19 .ret (hY y0)=some [.v .bool y0]:=by kernel_rfl
theorem ahh (y0):af d19 .ret [(4,.v .bool y0)]=some [.v .bool y0]:=by kernel_rfl
def g19 (N:Nat) (du:V0→V0→Option (Bool)) (x0 x1:V7) (k:Bool→Option R):Option R:=
(Qv N du k k x0 x1)
theorem Xp (du) (h53:(p7 du).holds cl) (x0 x1) (k:List E→Option R):exec cl N Dh [(0,.v U7 x0),(1,.v U7 x1)] (fun e env=>(af d19 e env).bind k)=g19 N du x0 x1 (fun r0=>k [.v .bool r0]):=by
 simp only [Dh,amz du h53,ahg,ahh,al]
 rfl
def FM (S:V7→V7→Option (Bool)):aJ:=c4 19 U7 U7 S fun b=> [.v .bool b]
def hN (N:Nat) (x0:V7) (x1:V7):Option (Bool):=g19 N (du N) x0 x1 (fun (r0:Bool)=>some (r0))
def uz (k0:Bool→Option R) (k1:V0→V0→Option R) (x0 x1:V0):Option R:=
ae ((x0.length:Int) != (x1.length:Int)) (k0 false) (k1 x0 x1)
theorem aml (x0 x1):exec cl N xP (jX x0 x1) K=(uz (fun y0=>K .ret (hY y0)) (fun y0 y1=>exec cl N xO (mf y0 y1) K) x0 x1):=by
 delta xP
 generalize xO=q
 revert q
 refine id ?_
 intro q
 kernel_rfl
def uv (k0:V0→V0→Int→Int→Option R) (x0 x1:V0):Option R:=
k0 x0 x1 (x0.length:Int) (0:Int)
theorem amh (x0 x1):exec cl N Lr (mf x0 x1) K=(uv (fun y0 y1 y2 y3=>K .normal (kJ y0 y1 y2 y3)) x0 x1):=by
 kernel_rfl
theorem Tm (x0 x1 x2 x3):ah [0,1,12,13] (kJ x0 x1 x2 x3)=(kJ x0 x1 x2 x3):=by kernel_rfl
def uw (k0:Bool→Option R) (k1:V0→V0→Int→Int→Option R) (k2:V0→V0→Int→Int→Option R) (x0 x1:V0) (x2 x3:Int):Option R:=
ae (decide (x3 < x2)) (if 0≤x3∧x3 < (x0.length:Int) then
if 0≤x3∧x3 < (x1.length:Int) then
ae ((x0.getD x3.toNat (0:Int)) != (x1.getD x3.toNat (0:Int))) (k0 false) (k1 x0 x1 x2 (IntKind.i64.wrap (x3+(1:Int))))
else none
else none) (k2 x0 x1 x2 x3)
theorem ami (x0 x1 x2 x3):exec cl N Da (kJ x0 x1 x2 x3) K=(uw (fun y0=>K .ret (qo y0)) (fun y0 y1 y2 y3=>K .normal (kJ y0 y1 y2 y3)) (fun y0 y1 y2 y3=>K (.exit 0) (kJ y0 y1 y2 y3)) x0 x1 x2 x3):=by
 kernel_rfl
def rj {R:Type} (k0:Bool→Option R) (k1:V0→V0→Int→Int→Option R):Nat→V0→V0→Int→Int→Option R
 | 0,_,_,_,_=>none
 | m+1,x0,x1,x2,x3=>(uw k0 (rj k0 k1 m) k1 x0 x1 x2 x3)
theorem adz:∀ (m) (x0 x1 x2 x3),iter [0,1,12,13] (fun env K=>exec cl N Da env K) K m (kJ x0 x1 x2 x3)=rj (fun y0=>K .ret (qo y0)) (fun y0 y1 y2 y3=>K (.exit 0) (kJ y0 y1 y2 y3)) m x0 x1 x2 x3:=by
 intro m
 induction m with
 | zero=>intros; rfl
 | succ m ih=>
   intro x0 x1 x2 x3
   simp only [bS,ami,bU,bT,bV,Tm,ih]
   rfl
theorem aaF (x0):ah [4] (qo x0)=[(4,.v .bool x0)]:=by kernel_rfl
theorem aaG (x0 x1 x2 x3):ah [4] (kJ x0 x1 x2 x3)=[(4,.dead)]:=by kernel_rfl
def ux (N:Nat) (k0:Bool→Option R) (k1:Option R) (x0 x1:V0) (x2 x3:Int):Option R:=
rj k0 (fun y0 y1 y2 y3=>k1) N x0 x1 x2 x3
theorem amj (x0 x1 x2 x3):exec cl N Db (kJ x0 x1 x2 x3) K=(ux N (fun y0=>K .ret [(4,.v .bool y0)]) (K (.exit 0) [(4,.dead)]) x0 x1 x2 x3):=by
 simp only [Db,aP,bR,Tm,adz,aaF,aaG]
 rfl
theorem aaH (x0):ah [4] [(4,.v .bool x0)]=[(4,.v .bool x0)]:=by kernel_rfl
theorem aaI:ah [4] [(4,.dead)]=[(4,.dead)]:=by kernel_rfl
def uy (k0:Bool→Option R):Option R:=
k0 true
theorem amk:exec cl N Lu [(4,.dead)] K=(uy (fun y0=>K .ret [(4,.v .bool y0)])):=by
 kernel_rfl
def uA (N:Nat) (k0:Bool→Option R) (k1:Bool→Option R) (x0 x1:V0):Option R:=
(uz k0 (uv (ux N k1 (uy k1))) x0 x1)
theorem amm (x0 x1):exec cl N xP (jX x0 x1) K=(uA N (fun y0=>K .ret (hY y0)) (fun y0=>K .ret [(4,.v .bool y0)]) x0 x1):=by
 simp only [bJ,bL,bK,bM,aml,xO,Lt,amh,Ls,aP,b6,amj,bZ,b5,bY,aaH,aaI,amk]
 rfl
theorem aha (y0):af d15 .ret (hY y0)=some [.v .bool y0]:=by kernel_rfl
theorem ahb (y0):af d15 .ret [(4,.v .bool y0)]=some [.v .bool y0]:=by kernel_rfl
def g15 (N:Nat) (x0 x1:V0) (k:Bool→Option R):Option R:=
(uA N k k x0 x1)
theorem Xe (x0 x1) (k:List E→Option R):exec cl N CX (jX x0 x1) (fun e env=>(af d15 e env).bind k)=g15 N x0 x1 (fun r0=>k [.v .bool r0]):=by
 simp only [CX,amm,aha,ahb,al]
 rfl
def sQ (S:V0→V0→Option (Bool)):aJ:=c4 15 U5 U5 S fun b=> [.v .bool b]
def dO (N:Nat) (x0:V0) (x1:V0):Option (Bool):=g15 N x0 x1 (fun (r0:Bool)=>some (r0))
def Ha (gY:ad→V3→Option wV) (dO:V0→V0→Option (Bool)) (dP:ad→V3→Option pJ) (hN:V7→V7→Option (Bool)) (hP:ad→V3→Option V1) (dQ:ad→V0→Option V8) (gI:Option sq) (k0:Bool→Option R) (k1:Bool→Option R):Option R:=
(gI).bind fun r1467=>
(dP r1467 ([97,114,109,97]:List UInt8)).bind fun r1468=>
(dP r1467 ([116,114,111,105,97,101]:List UInt8)).bind fun r1469=>
(gY r1467 ([105,97,109]:List UInt8)).bind fun r1470=>
(dQ r1467 [(38:Int),(40:Int),(3:Int),(23:Int),(18:Int)]).bind fun r1471=>
(hP r1467 ([97,114,109,113]:List UInt8)).bind fun r1472=>
ae (r1468.2 != (0:Int)) (k0 false) (ae (r1469.2 != (0:Int)) (k0 false) (ae (r1470.2.2 != (0:Int)) (k0 false) (ae (r1471.2 != (0:Int)) (k0 false) (ae (r1472.2 != (0:Int)) (k0 false) (ae (r1472.1 != (3:Int)) (k0 false) (ae (r1470.2.1 != (1:Int)) (k0 false) ((hN r1468.1 [[(0:Int),(40:Int),(41:Int),(0:Int)]]).bind fun r1480=>
ae r1480 ((hN r1469.1 [[(38:Int),(40:Int),(3:Int),(23:Int),(18:Int)],[(38:Int),(40:Int),(3:Int),(2:Int),(18:Int)],[(38:Int),(40:Int),(3:Int),(23:Int),(0:Int),(1:Int)],[(38:Int),(40:Int),(3:Int),(2:Int),(0:Int),(1:Int)]]).bind fun r1481=>
ae r1481 ((dO r1470.1 [(22:Int),(0:Int),(41:Int)]).bind fun r1482=>
ae r1482 ((dO r1471.1 [(0:Int),(1:Int),(2:Int),(3:Int),(3:Int),(4:Int)]).bind fun r1483=>
k1 r1483) (k1 false)) (k1 false)) (k1 false))))))))
theorem akQ (gY) (dO) (dP) (hN) (hP) (dQ) (gI) (h13:(FB gY).holds cl) (h15:(sQ dO).holds cl) (h16:(sR dP).holds cl) (h19:(FM hN).holds cl) (h20:(FN hP).holds cl) (h24:(sS dQ).holds cl) (h37:(zx gI).holds cl):exec cl N Kp [] K=(Ha gY dO dP hN hP dQ gI (fun y0=>K .ret (Pc y0)) (fun y0=>K .ret [(0,.v .bool y0)])):=by
 rw [←aI h13]
 rw [←aI h15]
 rw [←aI h16]
 rw [←aI h19]
 rw [←aI h20]
 rw [←aI h24]
 rw [←aI h37]
 kernel_rfl
theorem agu (y0):af d11 .ret (Pc y0)=some [.v .bool y0]:=by kernel_rfl
theorem agv (y0):af d11 .ret [(0,.v .bool y0)]=some [.v .bool y0]:=by kernel_rfl
def g11 (gY:ad→V3→Option wV) (dO:V0→V0→Option (Bool)) (dP:ad→V3→Option pJ) (hN:V7→V7→Option (Bool)) (hP:ad→V3→Option V1) (dQ:ad→V0→Option V8) (gI:Option sq) (k:Bool→Option R):Option R:=
(Ha gY dO dP hN hP dQ gI k k)
theorem WI (gY) (dO) (dP) (hN) (hP) (dQ) (gI) (h13:(FB gY).holds cl) (h15:(sQ dO).holds cl) (h16:(sR dP).holds cl) (h19:(FM hN).holds cl) (h20:(FN hP).holds cl) (h24:(sS dQ).holds cl) (h37:(zx gI).holds cl) (k:List E→Option R):exec cl N BT [] (fun e env=>(af d11 e env).bind k)=g11 gY dO dP hN hP dQ gI (fun r0=>k [.v .bool r0]):=by
 simp only [BT,akQ gY dO dP hN hP dQ gI h13 h15 h16 h19 h20 h24 h37,agu,agv,al]
 rfl
def zj (S:Option (Bool)):aJ:={A:=Unit,B:=Bool,f:=11,enc:=fun a=> [],dec:=b9,S:=fun a=>S,aq:=fun b=> [.v .bool b],ok:=(fun es b h=>iJ h)}
def fL (N:Nat):Option (Bool):=g11 (gY N) (dO N) (dP N) (hN N) (hP N) (dQ N) (gI N) (fun (r0:Bool)=>some (r0))
def qP (k0:Bool→Option R) (k1:ar→Option R) (x0:ar) (x1:Int):Option R:=
ae (decide ((x0.length:Int) > x1)) (k0 false) (k1 x0)
theorem aoU (x0 x1):exec cl N yF [(0,.v bh x0),(1,.v U2 x1)] K=(qP (fun y0=>K .ret [(0,.dead),(4,.v .bool y0)]) (fun y0=>exec cl N yE [(0,.v bh y0),(4,.dead)] K) x0 x1):=by
 delta yF
 generalize yE=q
 revert q
 refine id ?_
 intro q
 kernel_rfl
def qL (k0:ar→Int→Option R) (x0:ar):Option R:=
k0 x0 (0:Int)
theorem aoQ (x0):exec cl N Ns [(0,.v bh x0),(4,.dead)] K=(qL (fun y0 y1=>K .normal (kK y0 y1)) x0):=by
 kernel_rfl
theorem TG (x0 x1):ah [0,5] (kK x0 x1)=(kK x0 x1):=by kernel_rfl
def qM (k0:Bool→Option R) (k1:ar→Int→Option R) (k2:ar→Int→Option R) (x0:ar) (x1:Int):Option R:=
ae (decide (x1 < (x0.length:Int))) (if 0≤x1∧x1 < (x0.length:Int) then
ae (decide ((((x0.getD x1.toNat ((0:Int),((0:Int),([],())))).2.2.1).length:Int) > (40:Int))) (k0 false) (k1 x0 (IntKind.i64.wrap (x1+(1:Int))))
else none) (k2 x0 x1)
theorem aoR (x0 x1):exec cl N Ey (kK x0 x1) K=(qM (fun y0=>K .ret (Gt y0)) (fun y0 y1=>K .normal (kK y0 y1)) (fun y0 y1=>K (.exit 0) (kK y0 y1)) x0 x1):=by
 kernel_rfl
def rA {R:Type} (k0:Bool→Option R) (k1:ar→Int→Option R):Nat→ar→Int→Option R
 | 0,_,_=>none
 | m+1,x0,x1=>(qM k0 (rA k0 k1 m) k1 x0 x1)
theorem adW:∀ (m) (x0 x1),iter [0,5] (fun env K=>exec cl N Ey env K) K m (kK x0 x1)=rA (fun y0=>K .ret (Gt y0)) (fun y0 y1=>K (.exit 0) (kK y0 y1)) m x0 x1:=by
 intro m
 induction m with
 | zero=>intros; rfl
 | succ m ih=>
   intro x0 x1
   simp only [bS,aoR,bU,bT,bV,TG,ih]
   rfl
theorem abM (x0):ah [4] (Gt x0)=[(4,.v .bool x0)]:=by kernel_rfl
theorem abN (x0 x1):ah [4] (kK x0 x1)=[(4,.dead)]:=by kernel_rfl
def qN (N:Nat) (k0:Bool→Option R) (k1:Option R) (x0:ar) (x1:Int):Option R:=
rA k0 (fun y0 y1=>k1) N x0 x1
theorem aoS (x0 x1):exec cl N Ez (kK x0 x1) K=(qN N (fun y0=>K .ret [(4,.v .bool y0)]) (K (.exit 0) [(4,.dead)]) x0 x1):=by
 simp only [Ez,aP,bR,TG,adW,abM,abN]
 rfl
theorem abO (x0):ah [4] [(4,.v .bool x0)]=[(4,.v .bool x0)]:=by kernel_rfl
theorem abP:ah [4] [(4,.dead)]=[(4,.dead)]:=by kernel_rfl
def qO (k0:Bool→Option R):Option R:=
k0 true
theorem aoT:exec cl N Nv [(4,.dead)] K=(qO (fun y0=>K .ret [(4,.v .bool y0)])):=by
 kernel_rfl
def qQ (N:Nat) (k0:Bool→Option R) (k1:Bool→Option R) (x0:ar) (x1:Int):Option R:=
(qP k0 (qL (qN N k1 (qO k1))) x0 x1)
theorem aoV (x0 x1):exec cl N yF [(0,.v bh x0),(1,.v U2 x1)] K=(qQ N (fun y0=>K .ret [(0,.dead),(4,.v .bool y0)]) (fun y0=>K .ret [(4,.v .bool y0)]) x0 x1):=by
 simp only [bJ,bL,bK,bM,aoU,yE,Nu,aoQ,Nt,aP,b6,aoS,bZ,b5,bY,abO,abP,aoT]
 rfl
theorem ah7 (y0):af d66 .ret [(0,.dead),(4,.v .bool y0)]=some [.v .bool y0]:=by kernel_rfl
theorem ah8 (y0):af d66 .ret [(4,.v .bool y0)]=some [.v .bool y0]:=by kernel_rfl
def oF (N:Nat) (x0:ar) (x1:Int) (k:Bool→Option R):Option R:=
(qQ N k k x0 x1)
theorem XQ (x0 x1) (k:List E→Option R):exec cl N Ew [(0,.v bh x0),(1,.v U2 x1)] (fun e env=>(af d66 e env).bind k)=oF N x0 x1 (fun r0=>k [.v .bool r0]):=by
 simp only [Ew,aoV,ah7,ah8,al]
 rfl
def p9 (S:ar→Int→Option (Bool)):aJ:=c4 66 bh U2 S fun b=> [.v .bool b]
def cZ (N:Nat) (x0:ar) (x1:Int):Option (Bool):=oF N x0 x1 (fun (r0:Bool)=>some (r0))
def va (k0:Bool→Option R) (k1:ad→Int→Option R) (x0:ad):Option R:=
ae (decide ((x0.1.length:Int) > (60:Int))) (k0 false) (ae (decide ((x0.2.1.length:Int) > (130:Int))) (k0 false) (k1 x0 (0:Int)))
theorem anC (x0):exec cl N yj [(0,.v ak x0)] K=(va (fun y0=>K .ret (ta y0)) (fun y0 y1=>exec cl N yi [(1,.loc ak .no y0),(3,.v U2 y1)] K) x0):=by
 delta yj
 generalize yi=q
 revert q
 refine id ?_
 intro q
 kernel_rfl
def uZ (k0:ad→Int→Int→Option R) (x0:ad) (x1:Int):Option R:=
k0 x0 x1 (0:Int)
theorem anx (x0 x1):exec cl N Mr [(1,.loc ak .no x0),(3,.v U2 x1)] K=(uZ (fun y0 y1 y2=>K .normal (kL y0 y1 y2)) x0 x1):=by
 kernel_rfl
theorem Tv (x0 x1 x2):ah [1,3,4] (kL x0 x1 x2)=(kL x0 x1 x2):=by kernel_rfl
def u0 (cZ:ar→Int→Option (Bool)) (k0:Bool→Option R) (k1:ad→Int→Int→Option R) (k2:ad→Int→Int→Option R) (x0:ad) (x1 x2:Int):Option R:=
ae (decide (x2 < (x0.2.1.length:Int))) (if 0≤x2∧x2 < (x0.2.1.length:Int) then
if 0≤x2∧x2 < (x0.2.1.length:Int) then
(cZ ((x0.2.1.getD x2.toNat ([],([],((0:Int),((0:Int),()))))).2.1) (6:Int)).bind fun r1505=>
ae (!r1505) (k0 false) (k1 x0 (IntKind.i64.wrap (x1+(((x0.2.1.getD x2.toNat ([],([],((0:Int),((0:Int),()))))).1).length:Int))) (IntKind.i64.wrap (x2+(1:Int))))
else none
else none) (k2 x0 x1 x2)
theorem anz (cZ) (h66:(p9 cZ).holds cl) (x0 x1 x2):exec cl N DM (kL x0 x1 x2) K=(u0 cZ (fun y0=>K .ret (Gu y0)) (fun y0 y1 y2=>K .normal (kL y0 y1 y2)) (fun y0 y1 y2=>K (.exit 0) (kL y0 y1 y2)) x0 x1 x2):=by
 rw [←aI h66]
 kernel_rfl
def o4 {R:Type} (cZ:ar→Int→Option (Bool)) (k0:Bool→Option R) (k1:ad→Int→Int→Option R):Nat→ad→Int→Int→Option R
 | 0,_,_,_=>none
 | m+1,x0,x1,x2=>(u0 cZ k0 (o4 cZ k0 k1 m) k1 x0 x1 x2)
theorem adL (cZ) (h66:(p9 cZ).holds cl):∀ (m) (x0 x1 x2),iter [1,3,4] (fun env K=>exec cl N DM env K) K m (kL x0 x1 x2)=o4 cZ (fun y0=>K .ret (Gu y0)) (fun y0 y1 y2=>K (.exit 0) (kL y0 y1 y2)) m x0 x1 x2:=by
 intro m
 induction m with
 | zero=>intros; rfl
 | succ m ih=>
   intro x0 x1 x2
   simp only [bS,anz cZ h66,bU,bT,bV,Tv,ih]
   rfl
theorem abd (x0):ah [2,3] (Gu x0)=(qh x0):=by kernel_rfl
theorem abe (x0 x1 x2):ah [2,3] (kL x0 x1 x2)=(ia x1):=by kernel_rfl
def u6 (N:Nat) (cZ:ar→Int→Option (Bool)) (k0:Bool→Option R) (k1:Int→Option R) (x0:ad) (x1 x2:Int):Option R:=
o4 cZ k0 (fun y0 y1 y2=>k1 y1) N x0 x1 x2
theorem anA (cZ) (h66:(p9 cZ).holds cl) (x0 x1 x2):exec cl N DN (kL x0 x1 x2) K=(u6 N cZ (fun y0=>K .ret (qh y0)) (fun y0=>K (.exit 0) (ia y0)) x0 x1 x2):=by
 simp only [DN,aP,bR,Tv,adL cZ h66,abd,abe]
 rfl
theorem abf (x0):ah [2,3] (qh x0)=(qh x0):=by kernel_rfl
theorem abg (x0):ah [2,3] (ia x0)=(ia x0):=by kernel_rfl
def u7 (k0:Bool→Option R) (x0:Int):Option R:=
k0 (decide (x0≤(1500:Int)))
theorem anB (x0):exec cl N Mu (ia x0) K=(u7 (fun y0=>K .ret [(2,.v .bool y0)]) x0):=by
 kernel_rfl
def vb (N:Nat) (cZ:ar→Int→Option (Bool)) (k0:Bool→Option R) (k1:Bool→Option R) (k2:Bool→Option R) (x0:ad):Option R:=
(va k0 (uZ (u6 N cZ k1 ((u7 k2)))) x0)
theorem anD (cZ) (h66:(p9 cZ).holds cl) (x0):exec cl N yj [(0,.v ak x0)] K=(vb N cZ (fun y0=>K .ret (ta y0)) (fun y0=>K .ret (qh y0)) (fun y0=>K .ret [(2,.v .bool y0)]) x0):=by
 simp only [bJ,bL,bK,bM,anC,yi,Mt,anx,Ms,aP,b6,anA cZ h66,bZ,b5,bY,abf,abg,anB]
 rfl
theorem ahy (y0):af d34 .ret (ta y0)=some [.v .bool y0]:=by kernel_rfl
theorem ahz (y0):af d34 .ret (qh y0)=some [.v .bool y0]:=by kernel_rfl
theorem ahA (y0):af d34 .ret [(2,.v .bool y0)]=some [.v .bool y0]:=by kernel_rfl
def qH (N:Nat) (cZ:ar→Int→Option (Bool)) (x0:ad) (k:Bool→Option R):Option R:=
(vb N cZ k k k x0)
theorem Xy (cZ) (h66:(p9 cZ).holds cl) (x0) (k:List E→Option R):exec cl N DL [(0,.v ak x0)] (fun e env=>(af d34 e env).bind k)=qH N cZ x0 (fun r0=>k [.v .bool r0]):=by
 simp only [DL,anD cZ h66,ahy,ahz,ahA,al]
 rfl
def FU (S:ad→Option (Bool)):aJ:=cA 34 ak S fun b=> [.v .bool b]
def gG (N:Nat) (x0:ad):Option (Bool):=qH N (cZ N) x0 (fun (r0:Bool)=>some (r0))
def Hh (gG:ad→Option (Bool)) (k0:Bool→Option R) (x0:ad) (x1:V3) (x2:V0):Option R:=
(gG x0).bind fun r1511=>
ae r1511 (ae (decide ((x1.length:Int)≤(40:Int))) (k0 (decide ((x2.length:Int)≤(40:Int)))) (k0 false)) (k0 false)
theorem ale (gG) (h34:(FU gG).holds cl) (x0 x1 x2):exec cl N KK [(0,.v ak x0),(1,.v .str x1),(2,.v U5 x2)] K=(Hh gG (fun y0=>K .ret [(6,.v .bool y0)]) x0 x1 x2):=by
 rw [←aI h34]
 kernel_rfl
theorem agG (y0):af d12 .ret [(6,.v .bool y0)]=some [.v .bool y0]:=by kernel_rfl
def g12 (gG:ad→Option (Bool)) (x0:ad) (x1:V3) (x2:V0) (k:Bool→Option R):Option R:=
(Hh gG k x0 x1 x2)
theorem WR (gG) (h34:(FU gG).holds cl) (x0 x1 x2) (k:List E→Option R):exec cl N Cf [(0,.v ak x0),(1,.v .str x1),(2,.v U5 x2)] (fun e env=>(af d12 e env).bind k)=g12 gG x0 x1 x2 (fun r0=>k [.v .bool r0]):=by
 simp only [Cf,ale gG h34,agG,al]
 rfl
def Fv (S:ad→V3→V0→Option (Bool)):aJ:=OW 12 ak .str U5 S fun b=> [.v .bool b]
def gn (N:Nat) (x0:ad) (x1:V3) (x2:V0):Option (Bool):=g12 (gG N) x0 x1 x2 (fun (r0:Bool)=>some (r0))
def uL (bP:ad→V0→Option (Int)) (k0:ar→Int→Option R) (k1:V0→ad→ar→Option R) (x0:ad) (x1:V0):Option R:=
(bP x0 x1).bind fun r1520=>
ae (r1520 != (0:Int)) (k0 [] r1520) (k1 x1 x0 [])
theorem amQ (bP) (h55:(l9 bP).holds cl) (x0 x1):exec cl N xX (de x0 x1) K=(uL bP (fun y0 y1=>K .ret (qi y0 y1)) (fun y0 y1 y2=>exec cl N xW (zJ y0 y1 y2) K) x0 x1):=by
 rw [←aI h55]
 delta xX
 generalize xW=q
 revert q
 refine id ?_
 intro q
 kernel_rfl
def uH (k0:ad→ar→V0→Int→Int→Option R) (x0:V0) (x1:ad) (x2:ar):Option R:=
k0 x1 x2 x0 (x0.length:Int) (0:Int)
theorem amM (x0 x1 x2):exec cl N LM (zJ x0 x1 x2) K=(uH (fun y0 y1 y2 y3 y4=>K .normal (kN y0 y1 y2 y3 y4)) x0 x1 x2):=by
 kernel_rfl
theorem Tp (x0 x1 x2 x3 x4):ah [2,7,16,17,18] (kN x0 x1 x2 x3 x4)=(kN x0 x1 x2 x3 x4):=by kernel_rfl
def uI (k0:ad→ar→V0→Int→Int→Option R) (k1:ad→ar→V0→Int→Int→Option R) (x0:ad) (x1:ar) (x2:V0) (x3 x4:Int):Option R:=
ae (decide (x4 < x3)) (if 0≤x4∧x4 < (x2.length:Int) then
if 0≤(x2.getD x4.toNat (0:Int))∧(x2.getD x4.toNat (0:Int)) < (x0.2.1.length:Int) then
if x1.length+((x0.2.1.getD (x2.getD x4.toNat (0:Int)).toNat ([],([],((0:Int),((0:Int),()))))).2.1).length≤4398046511104 then
k0 x0 (x1++(x0.2.1.getD (x2.getD x4.toNat (0:Int)).toNat ([],([],((0:Int),((0:Int),()))))).2.1) x2 x3 (IntKind.i64.wrap (x4+(1:Int)))
else none
else none
else none) (k1 x0 x1 x2 x3 x4)
theorem amN (x0 x1 x2 x3 x4):exec cl N Ds (kN x0 x1 x2 x3 x4) K=(uI (fun y0 y1 y2 y3 y4=>K .normal (kN y0 y1 y2 y3 y4)) (fun y0 y1 y2 y3 y4=>K (.exit 0) (kN y0 y1 y2 y3 y4)) x0 x1 x2 x3 x4):=by
 kernel_rfl
def rl {R:Type} (k0:ad→ar→V0→Int→Int→Option R):Nat→ad→ar→V0→Int→Int→Option R
 | 0,_,_,_,_,_=>none
 | m+1,x0,x1,x2,x3,x4=>(uI (rl k0 m) k0 x0 x1 x2 x3 x4)
theorem adE:∀ (m) (x0 x1 x2 x3 x4),iter [2,7,16,17,18] (fun env K=>exec cl N Ds env K) K m (kN x0 x1 x2 x3 x4)=rl (fun y0 y1 y2 y3 y4=>K (.exit 0) (kN y0 y1 y2 y3 y4)) m x0 x1 x2 x3 x4:=by
 intro m
 induction m with
 | zero=>intros; rfl
 | succ m ih=>
   intro x0 x1 x2 x3 x4
   simp only [bS,amN,bU,bT,bV,Tp,ih]
   rfl
theorem aaX (x0 x1 x2 x3 x4):ah [7] (kN x0 x1 x2 x3 x4)=(kO x1):=by kernel_rfl
def uJ (N:Nat) (k0:ar→Option R) (x0:ad) (x1:ar) (x2:V0) (x3 x4:Int):Option R:=
rl (fun y0 y1 y2 y3 y4=>k0 y1) N x0 x1 x2 x3 x4
theorem amO (x0 x1 x2 x3 x4):exec cl N Dt (kN x0 x1 x2 x3 x4) K=(uJ N (fun y0=>K (.exit 0) (kO y0)) x0 x1 x2 x3 x4):=by
 simp only [Dt,aP,bR,Tp,adE,aaX]
 rfl
theorem aaY (x0):ah [7] (kO x0)=(kO x0):=by kernel_rfl
def uK (k0:Int→ar→Option R) (x0:ar):Option R:=
k0 (0:Int) x0
theorem amP (x0):exec cl N LP (kO x0) K=(uK (fun y0 y1=>K .ret (qj y0 y1)) x0):=by
 kernel_rfl
def uM (N:Nat) (bP:ad→V0→Option (Int)) (k0:ar→Int→Option R) (k1:Int→ar→Option R) (x0:ad) (x1:V0):Option R:=
(uL bP k0 (uH (uJ N ((uK k1)))) x0 x1)
theorem amR (bP) (h55:(l9 bP).holds cl) (x0 x1):exec cl N xX (de x0 x1) K=(uM N bP (fun y0 y1=>K .ret (qi y0 y1)) (fun y0 y1=>K .ret (qj y0 y1)) x0 x1):=by
 simp only [bJ,bL,bK,bM,amQ bP h55,xW,LO,amM,LN,aP,b6,amO,bZ,b5,bY,aaY,amP]
 rfl
theorem ahk (y0 y1):af d22 .ret (qi y0 y1)=some [.own true 40 ay .no y0,.v U2 y1]:=by kernel_rfl
theorem ahl (y0 y1):af d22 .ret (qj y0 y1)=some [.own true 40 ay .no y1,.v U2 y0]:=by kernel_rfl
def g22 (N:Nat) (bP:ad→V0→Option (Int)) (x0:ad) (x1:V0) (k:ar→Int→Option R):Option R:=
(uM N bP k (fun y0 y1=>k y1 y0) x0 x1)
theorem Xr (bP) (h55:(l9 bP).holds cl) (x0 x1) (k:List E→Option R):exec cl N Dr (de x0 x1) (fun e env=>(af d22 e env).bind k)=g22 N bP x0 x1 (fun r0 r1=>k [.own true 40 ay .no r0,.v U2 r1]):=by
 simp only [Dr,amR bP h55,ahk,ahl,al]
 rfl
def FO (S:ad→V0→Option je):aJ:=c4 22 ak U5 S fun b=> [.own true 40 ay .no b.1,.v U2 b.2]
def gA (N:Nat) (x0:ad) (x1:V0):Option je:=g22 N (bP N) x0 x1 (fun (r0:ar) (r1:Int)=>some (r0,r1))
def HA (dd:ad→Option V1) (k0:Int→Option R) (x0:ad):Option R:=
(dd x0).bind fun r1526=>
k0 r1526.2
theorem anE (dd) (h67:(qa dd).holds cl) (x0):exec cl N Mv [(0,.v ak x0)] K=(HA dd (fun y0=>K .ret [(2,.v U2 y0)]) x0):=by
 rw [←aI h67]
 kernel_rfl
theorem ahB (y0):af d35 .ret [(2,.v U2 y0)]=some [.v U2 y0]:=by kernel_rfl
def Au (dd:ad→Option V1) (x0:ad) (k:Int→Option R):Option R:=
(HA dd k x0)
theorem Xz (dd) (h67:(qa dd).holds cl) (x0) (k:List E→Option R):exec cl N DO [(0,.v ak x0)] (fun e env=>(af d35 e env).bind k)=Au dd x0 (fun r0=>k [.v U2 r0]):=by
 simp only [DO,anE dd h67,ahB,al]
 rfl
def FV (S:ad→Option (Int)):aJ:=cA 35 ak S fun b=> [.v U2 b]
def gH (N:Nat) (x0:ad):Option (Int):=Au (dd N) x0 (fun (r0:Int)=>some (r0))
def vq (k0:V0→ad→Option R) (x0:ad) (x1:V0):Option R:=
k0 x1 x0
theorem aoK (x0 x1):exec cl N Nl (de x0 x1) K=(vq (fun y0 y1=>K .normal [(1,.v U5 y0),(2,.loc ak .no y1)]) x0 x1):=by
 kernel_rfl
def vr (k0:V0→ad→Int→Option R) (x0:V0) (x1:ad):Option R:=
k0 x0 x1 (0:Int)
theorem aoL (x0 x1):exec cl N Nn [(1,.v U5 x0),(2,.loc ak .no x1)] K=(vr (fun y0 y1 y2=>K .normal (jC y0 y1 y2)) x0 x1):=by
 kernel_rfl
theorem TF (x0 x1 x2):ah [1,2,5] (jC x0 x1 x2)=(jC x0 x1 x2):=by kernel_rfl
def vt (k0:Int→Option R) (k1:V0→ad→Int→Option R) (k2:V0→ad→Int→Option R) (x0:V0) (x1:ad) (x2:Int):Option R:=
ae (decide (x2 < (x0.length:Int))) (if 0≤x2∧x2 < (x0.length:Int) then
ae (decide ((x0.getD x2.toNat (0:Int)) < (0:Int))) (k0 (6:Int)) (if 0≤x2∧x2 < (x0.length:Int) then
ae (decide ((x0.getD x2.toNat (0:Int))≥(x1.2.1.length:Int))) (k0 (6:Int)) (k1 x0 x1 (IntKind.i64.wrap (x2+(1:Int))))
else none)
else none) (k2 x0 x1 x2)
theorem aoM (x0 x1 x2):exec cl N Et (jC x0 x1 x2) K=(vt (fun y0=>K .ret (Gv y0)) (fun y0 y1 y2=>K .normal (jC y0 y1 y2)) (fun y0 y1 y2=>K (.exit 0) (jC y0 y1 y2)) x0 x1 x2):=by
 kernel_rfl
def rz {R:Type} (k0:Int→Option R) (k1:V0→ad→Int→Option R):Nat→V0→ad→Int→Option R
 | 0,_,_,_=>none
 | m+1,x0,x1,x2=>(vt k0 (rz k0 k1 m) k1 x0 x1 x2)
theorem adV:∀ (m) (x0 x1 x2),iter [1,2,5] (fun env K=>exec cl N Et env K) K m (jC x0 x1 x2)=rz (fun y0=>K .ret (Gv y0)) (fun y0 y1 y2=>K (.exit 0) (jC y0 y1 y2)) m x0 x1 x2:=by
 intro m
 induction m with
 | zero=>intros; rfl
 | succ m ih=>
   intro x0 x1 x2
   simp only [bS,aoM,bU,bT,bV,TF,ih]
   rfl
theorem abI (x0):ah [4] (Gv x0)=[(4,.v U2 x0)]:=by kernel_rfl
theorem abJ (x0 x1 x2):ah [4] (jC x0 x1 x2)=[(4,.dead)]:=by kernel_rfl
def vu (N:Nat) (k0:Int→Option R) (k1:Option R) (x0:V0) (x1:ad) (x2:Int):Option R:=
rz k0 (fun y0 y1 y2=>k1) N x0 x1 x2
theorem aoN (x0 x1 x2):exec cl N Eu (jC x0 x1 x2) K=(vu N (fun y0=>K .ret [(4,.v U2 y0)]) (K (.exit 0) [(4,.dead)]) x0 x1 x2):=by
 simp only [Eu,aP,bR,TF,adV,abI,abJ]
 rfl
theorem abK (x0):ah [4] [(4,.v U2 x0)]=[(4,.v U2 x0)]:=by kernel_rfl
theorem abL:ah [4] [(4,.dead)]=[(4,.dead)]:=by kernel_rfl
def vw (k0:Int→Option R):Option R:=
k0 (0:Int)
theorem aoO:exec cl N Nq [(4,.dead)] K=(vw (fun y0=>K .ret [(4,.v U2 y0)])):=by
 kernel_rfl
def vx (N:Nat) (k0:Int→Option R) (x0:ad) (x1:V0):Option R:=
(vq (vr (vu N k0 (vw k0))) x0 x1)
theorem aoP (x0 x1):exec cl N Ev (de x0 x1) K=(vx N (fun y0=>K .ret [(4,.v U2 y0)]) x0 x1):=by
 simp only [Ev,bJ,bL,bK,bM,aoK,Nr,Np,aoL,No,aP,b6,aoN,bZ,b5,bY,abK,abL,aoO]
 rfl
theorem ah6 (y0):af d61 .ret [(4,.v U2 y0)]=some [.v U2 y0]:=by kernel_rfl
def qK (N:Nat) (x0:ad) (x1:V0) (k:Int→Option R):Option R:=
(vx N k x0 x1)
theorem XP (x0 x1) (k:List E→Option R):exec cl N Es (de x0 x1) (fun e env=>(af d61 e env).bind k)=qK N x0 x1 (fun r0=>k [.v U2 r0]):=by
 simp only [Es,aoP,ah6,al]
 rfl
def F0 (S:ad→V0→Option (Int)):aJ:=c4 61 ak U5 S fun b=> [.v U2 b]
def gK (N:Nat) (x0:ad) (x1:V0):Option (Int):=qK N x0 x1 (fun (r0:Int)=>some (r0))
def HM (gH:ad→Option (Int)) (gK:ad→V0→Option (Int)) (k0:Int→Option R) (k1:Int→Option R) (x0:ad) (x1:V0):Option R:=
(gH x0).bind fun r1539=>
ae (r1539 != (0:Int)) (k0 r1539) (ae (decide ((x1.length:Int) > (16:Int))) (k0 (3:Int)) ((gK x0 x1).bind fun r1542=>
k1 r1542))
theorem aor (gH) (gK) (h35:(FV gH).holds cl) (h61:(F0 gK).holds cl) (x0 x1):exec cl N M4 (de x0 x1) K=(HM gH gK (fun y0=>K .ret (zH y0)) (fun y0=>K .ret [(4,.v U2 y0)]) x0 x1):=by
 rw [←aI h35]
 rw [←aI h61]
 kernel_rfl
theorem ahX (y0):af d56 .ret (zH y0)=some [.v U2 y0]:=by kernel_rfl
theorem ahY (y0):af d56 .ret [(4,.v U2 y0)]=some [.v U2 y0]:=by kernel_rfl
def Aw (gH:ad→Option (Int)) (gK:ad→V0→Option (Int)) (x0:ad) (x1:V0) (k:Int→Option R):Option R:=
(HM gH gK k k x0 x1)
theorem XL (gH) (gK) (h35:(FV gH).holds cl) (h61:(F0 gK).holds cl) (x0 x1) (k:List E→Option R):exec cl N Eh (de x0 x1) (fun e env=>(af d56 e env).bind k)=Aw gH gK x0 x1 (fun r0=>k [.v U2 r0]):=by
 simp only [Eh,aor gH gK h35 h61,ahX,ahY,al]
 rfl
def ma (S:ad→V0→Option (Int)):aJ:=c4 56 ak U5 S fun b=> [.v U2 b]
def bQ (N:Nat) (x0:ad) (x1:V0):Option (Int):=Aw (gH N) (gK N) x0 x1 (fun (r0:Int)=>some (r0))
def uR (bQ:ad→V0→Option (Int)) (k0:ar→Int→Option R) (k1:V0→ad→ar→Option R) (x0:ad) (x1:V0):Option R:=
(bQ x0 x1).bind fun r1547=>
ae (r1547 != (0:Int)) (k0 [] r1547) (k1 x1 x0 [])
theorem amW (bQ) (h56:(ma bQ).holds cl) (x0 x1):exec cl N xZ (de x0 x1) K=(uR bQ (fun y0 y1=>K .ret (qi y0 y1)) (fun y0 y1 y2=>exec cl N xY (zJ y0 y1 y2) K) x0 x1):=by
 rw [←aI h56]
 delta xZ
 generalize xY=q
 revert q
 refine id ?_
 intro q
 kernel_rfl
def uN (k0:V0→ad→ar→Int→Option R) (x0:V0) (x1:ad) (x2:ar):Option R:=
k0 x0 x1 x2 (0:Int)
theorem amS (x0 x1 x2):exec cl N LQ (zJ x0 x1 x2) K=(uN (fun y0 y1 y2 y3=>K .normal (kP y0 y1 y2 y3)) x0 x1 x2):=by
 kernel_rfl
theorem Tr (x0 x1 x2 x3):ah [1,2,7,8] (kP x0 x1 x2 x3)=(kP x0 x1 x2 x3):=by kernel_rfl
def uO (k0:V0→ad→ar→Int→Option R) (k1:V0→ad→ar→Int→Option R) (x0:V0) (x1:ad) (x2:ar) (x3:Int):Option R:=
ae (decide (x3 < (x0.length:Int))) (if 0≤x3∧x3 < (x0.length:Int) then
if 0≤(x0.getD x3.toNat (0:Int))∧(x0.getD x3.toNat (0:Int)) < (x1.2.1.length:Int) then
if x2.length+((x1.2.1.getD (x0.getD x3.toNat (0:Int)).toNat ([],([],((0:Int),((0:Int),()))))).2.1).length≤4398046511104 then
k0 x0 x1 (x2++(x1.2.1.getD (x0.getD x3.toNat (0:Int)).toNat ([],([],((0:Int),((0:Int),()))))).2.1) (IntKind.i64.wrap (x3+(1:Int)))
else none
else none
else none) (k1 x0 x1 x2 x3)
theorem amT (x0 x1 x2 x3):exec cl N Dv (kP x0 x1 x2 x3) K=(uO (fun y0 y1 y2 y3=>K .normal (kP y0 y1 y2 y3)) (fun y0 y1 y2 y3=>K (.exit 0) (kP y0 y1 y2 y3)) x0 x1 x2 x3):=by
 kernel_rfl
def rm {R:Type} (k0:V0→ad→ar→Int→Option R):Nat→V0→ad→ar→Int→Option R
 | 0,_,_,_,_=>none
 | m+1,x0,x1,x2,x3=>(uO (rm k0 m) k0 x0 x1 x2 x3)
theorem adF:∀ (m) (x0 x1 x2 x3),iter [1,2,7,8] (fun env K=>exec cl N Dv env K) K m (kP x0 x1 x2 x3)=rm (fun y0 y1 y2 y3=>K (.exit 0) (kP y0 y1 y2 y3)) m x0 x1 x2 x3:=by
 intro m
 induction m with
 | zero=>intros; rfl
 | succ m ih=>
   intro x0 x1 x2 x3
   simp only [bS,amT,bU,bT,bV,Tr,ih]
   rfl
theorem aaZ (x0 x1 x2 x3):ah [7] (kP x0 x1 x2 x3)=(kO x2):=by kernel_rfl
def uP (N:Nat) (k0:ar→Option R) (x0:V0) (x1:ad) (x2:ar) (x3:Int):Option R:=
rm (fun y0 y1 y2 y3=>k0 y2) N x0 x1 x2 x3
theorem amU (x0 x1 x2 x3):exec cl N Dw (kP x0 x1 x2 x3) K=(uP N (fun y0=>K (.exit 0) (kO y0)) x0 x1 x2 x3):=by
 simp only [Dw,aP,bR,Tr,adF,aaZ]
 rfl
theorem aa0 (x0):ah [7] (kO x0)=(kO x0):=by kernel_rfl
def uQ (k0:Int→ar→Option R) (x0:ar):Option R:=
k0 (0:Int) x0
theorem amV (x0):exec cl N LU (kO x0) K=(uQ (fun y0 y1=>K .ret (qj y0 y1)) x0):=by
 kernel_rfl
def uS (N:Nat) (bQ:ad→V0→Option (Int)) (k0:ar→Int→Option R) (k1:Int→ar→Option R) (x0:ad) (x1:V0):Option R:=
(uR bQ k0 (uN (uP N ((uQ k1)))) x0 x1)
theorem amX (bQ) (h56:(ma bQ).holds cl) (x0 x1):exec cl N xZ (de x0 x1) K=(uS N bQ (fun y0 y1=>K .ret (qi y0 y1)) (fun y0 y1=>K .ret (qj y0 y1)) x0 x1):=by
 simp only [bJ,bL,bK,bM,amW bQ h56,xY,LS,amS,LR,aP,b6,amU,bZ,b5,bY,aa0,amV]
 rfl
theorem ahm (y0 y1):af d23 .ret (qi y0 y1)=some [.own true 40 ay .no y0,.v U2 y1]:=by kernel_rfl
theorem ahn (y0 y1):af d23 .ret (qj y0 y1)=some [.own true 40 ay .no y1,.v U2 y0]:=by kernel_rfl
def g23 (N:Nat) (bQ:ad→V0→Option (Int)) (x0:ad) (x1:V0) (k:ar→Int→Option R):Option R:=
(uS N bQ k (fun y0 y1=>k y1 y0) x0 x1)
theorem Xs (bQ) (h56:(ma bQ).holds cl) (x0 x1) (k:List E→Option R):exec cl N Du (de x0 x1) (fun e env=>(af d23 e env).bind k)=g23 N bQ x0 x1 (fun r0 r1=>k [.own true 40 ay .no r0,.v U2 r1]):=by
 simp only [Du,amX bQ h56,ahm,ahn,al]
 rfl
def FP (S:ad→V0→Option je):aJ:=c4 23 ak U5 S fun b=> [.own true 40 ay .no b.1,.v U2 b.2]
def gB (N:Nat) (x0:ad) (x1:V0):Option je:=g23 N (bQ N) x0 x1 (fun (r0:ar) (r1:Int)=>some (r0,r1))
def oy (bQ:ad→V0→Option (Int)) (k0:V0→Int→Option R) (k1:V0→ad→V0→Int→Option R) (x0:ad) (x1:V0):Option R:=
(bQ x0 x1).bind fun r1560=>
ae (r1560 != (0:Int)) (k0 [] r1560) (k1 x1 x0 [] (0:Int))
theorem anj (bQ) (h56:(ma bQ).holds cl) (x0 x1):exec cl N yf (de x0 x1) K=(oy bQ (fun y0 y1=>K .ret (qf y0 y1)) (fun y0 y1 y2 y3=>exec cl N ye (zI y0 y1 y2 y3) K) x0 x1):=by
 rw [←aI h56]
 delta yf
 generalize ye=q
 revert q
 refine id ?_
 intro q
 kernel_rfl
def oj (k0:V0→ad→V0→Int→Int→Option R) (x0:V0) (x1:ad) (x2:V0) (x3:Int):Option R:=
k0 x0 x1 x2 x3 (0:Int)
theorem anb (x0 x1 x2 x3):exec cl N L8 (zI x0 x1 x2 x3) K=(oj (fun y0 y1 y2 y3 y4=>K .normal (gd y0 y1 y2 y3 y4)) x0 x1 x2 x3):=by
 kernel_rfl
theorem Io (x0 x1 x2 x3 x4):ah [1,2,7,8,9] (gd x0 x1 x2 x3 x4)=(gd x0 x1 x2 x3 x4):=by kernel_rfl
def ou (k0:V0→ad→V0→Int→Int→Option R) (k1:V0→ad→V0→Int→Int→Option R) (x0:V0) (x1:ad) (x2:V0) (x3 x4:Int):Option R:=
ae (decide (x4 < (x0.length:Int))) (k0 x0 x1 x2 x3 x4) (k1 x0 x1 x2 x3 x4)
theorem anf (x0 x1 x2 x3 x4):exec cl N sG (gd x0 x1 x2 x3 x4) K=(ou (fun y0 y1 y2 y3 y4=>exec cl N yd (gd y0 y1 y2 y3 y4) K) (fun y0 y1 y2 y3 y4=>K (.exit 0) (gd y0 y1 y2 y3 y4)) x0 x1 x2 x3 x4):=by
 delta sG
 generalize yd=q
 revert q
 refine id ?_
 intro q
 kernel_rfl
def om (k0:V0→ad→V0→Int→Int→aO→Option R) (x0:V0) (x1:ad) (x2:V0) (x3 x4:Int):Option R:=
if 0≤x4∧x4 < (x0.length:Int) then
if 0≤(x0.getD x4.toNat (0:Int))∧(x0.getD x4.toNat (0:Int)) < (x1.2.1.length:Int) then
k0 x0 x1 x2 x3 x4 (x1.2.1.getD (x0.getD x4.toNat (0:Int)).toNat ([],([],((0:Int),((0:Int),())))))
else none
else none
theorem anc (x0 x1 x2 x3 x4):exec cl N L9 (gd x0 x1 x2 x3 x4) K=(om (fun y0 y1 y2 y3 y4 y5=>K .normal (nG y0 y1 y2 y3 y4 y5)) x0 x1 x2 x3 x4):=by
 kernel_rfl
def oA (k0:V0→ad→V0→Int→Int→aO→Int→Option R) (x0:V0) (x1:ad) (x2:V0) (x3 x4:Int) (x5:aO):Option R:=
k0 x0 x1 x2 x3 x4 x5 (0:Int)
theorem anl (x0 x1 x2 x3 x4 x5):exec cl N Mf (nG x0 x1 x2 x3 x4 x5) K=(oA (fun y0 y1 y2 y3 y4 y5 y6=>K .normal (kQ y0 y1 y2 y3 y4 y5 y6)) x0 x1 x2 x3 x4 x5):=by
 kernel_rfl
theorem Tt (x0 x1 x2 x3 x4 x5 x6):ah [1,2,7,8,9,10,11] (kQ x0 x1 x2 x3 x4 x5 x6)=(kQ x0 x1 x2 x3 x4 x5 x6):=by kernel_rfl
def oB (k0:V0→ad→V0→Int→Int→aO→Int→Option R) (k1:V0→ad→V0→Int→Int→aO→Int→Option R) (x0:V0) (x1:ad) (x2:V0) (x3 x4:Int) (x5:aO) (x6:Int):Option R:=
ae (decide (x6 < (x5.2.1.length:Int))) (if x2.length+[x3].length≤17592186044416 then
k0 x0 x1 (x2++[x3]) x3 x4 x5 (IntKind.i64.wrap (x6+(1:Int)))
else none) (k1 x0 x1 x2 x3 x4 x5 x6)
theorem anm (x0 x1 x2 x3 x4 x5 x6):exec cl N DD (kQ x0 x1 x2 x3 x4 x5 x6) K=(oB (fun y0 y1 y2 y3 y4 y5 y6=>K .normal (kQ y0 y1 y2 y3 y4 y5 y6)) (fun y0 y1 y2 y3 y4 y5 y6=>K (.exit 2) (kQ y0 y1 y2 y3 y4 y5 y6)) x0 x1 x2 x3 x4 x5 x6):=by
 kernel_rfl
def rp {R:Type} (k0:V0→ad→V0→Int→Int→aO→Int→Option R):Nat→V0→ad→V0→Int→Int→aO→Int→Option R
 | 0,_,_,_,_,_,_,_=>none
 | m+1,x0,x1,x2,x3,x4,x5,x6=>(oB (rp k0 m) k0 x0 x1 x2 x3 x4 x5 x6)
theorem adJ:∀ (m) (x0 x1 x2 x3 x4 x5 x6),iter [1,2,7,8,9,10,11] (fun env K=>exec cl N DD env K) K m (kQ x0 x1 x2 x3 x4 x5 x6)=rp (fun y0 y1 y2 y3 y4 y5 y6=>K (.exit 2) (kQ y0 y1 y2 y3 y4 y5 y6)) m x0 x1 x2 x3 x4 x5 x6:=by
 intro m
 induction m with
 | zero=>intros; rfl
 | succ m ih=>
   intro x0 x1 x2 x3 x4 x5 x6
   simp only [bS,anm,bU,bT,bV,Tt,ih]
   rfl
theorem aa5 (x0 x1 x2 x3 x4 x5 x6):ah [1,2,7,8,9,10] (kQ x0 x1 x2 x3 x4 x5 x6)=(nG x0 x1 x2 x3 x4 x5):=by kernel_rfl
def oC (N:Nat) (k0:V0→ad→V0→Int→Int→aO→Option R) (x0:V0) (x1:ad) (x2:V0) (x3 x4:Int) (x5:aO) (x6:Int):Option R:=
rp (fun y0 y1 y2 y3 y4 y5 y6=>k0 y0 y1 y2 y3 y4 y5) N x0 x1 x2 x3 x4 x5 x6
theorem ann (x0 x1 x2 x3 x4 x5 x6):exec cl N DE (kQ x0 x1 x2 x3 x4 x5 x6) K=(oC N (fun y0 y1 y2 y3 y4 y5=>K (.exit 2) (nG y0 y1 y2 y3 y4 y5)) x0 x1 x2 x3 x4 x5 x6):=by
 simp only [DE,aP,bR,Tt,adJ,aa5]
 rfl
theorem aa6 (x0 x1 x2 x3 x4 x5):ah [1,2,7,8,9,10] (nG x0 x1 x2 x3 x4 x5)=(nG x0 x1 x2 x3 x4 x5):=by kernel_rfl
def oD (k0:V0→ad→V0→Int→Int→Option R) (x0:V0) (x1:ad) (x2:V0) (x3 x4:Int) (x5:aO):Option R:=
k0 x0 x1 x2 (IntKind.i64.wrap (x3+(x5.1.length:Int))) x4
theorem ano (x0 x1 x2 x3 x4 x5):exec cl N Mi (nG x0 x1 x2 x3 x4 x5) K=(oD (fun y0 y1 y2 y3 y4=>K .normal (gd y0 y1 y2 y3 y4)) x0 x1 x2 x3 x4 x5):=by
 kernel_rfl
def ot (k0:V0→ad→V0→Int→Int→Option R) (x0:V0) (x1:ad) (x2:V0) (x3 x4:Int):Option R:=
k0 x0 x1 x2 x3 (IntKind.i64.wrap (x4+(1:Int)))
theorem ane (x0 x1 x2 x3 x4):exec cl N Mb (gd x0 x1 x2 x3 x4) K=(ot (fun y0 y1 y2 y3 y4=>K .normal (gd y0 y1 y2 y3 y4)) x0 x1 x2 x3 x4):=by
 kernel_rfl
def ov (N:Nat) (k0:V0→ad→V0→Int→Int→Option R) (k1:V0→ad→V0→Int→Int→Option R) (x0:V0) (x1:ad) (x2:V0) (x3 x4:Int):Option R:=
(ou (om (oA (oC N ((oD ((ot k0))))))) k1 x0 x1 x2 x3 x4)
theorem ang (x0 x1 x2 x3 x4):exec cl N sG (gd x0 x1 x2 x3 x4) K=(ov N (fun y0 y1 y2 y3 y4=>K .normal (gd y0 y1 y2 y3 y4)) (fun y0 y1 y2 y3 y4=>K (.exit 0) (gd y0 y1 y2 y3 y4)) x0 x1 x2 x3 x4):=by
 simp only [bJ,bL,bK,bM,anf,yd,Ma,aP,b6,Mk,anc,Mj,Mh,anl,Mg,ann,bZ,b5,bY,aa6,ano,Io,ane]
 rfl
def oZ {R:Type} (N:Nat) (k0:V0→ad→V0→Int→Int→Option R):Nat→V0→ad→V0→Int→Int→Option R
 | 0,_,_,_,_,_=>none
 | m+1,x0,x1,x2,x3,x4=>(ov N (oZ N k0 m) k0 x0 x1 x2 x3 x4)
theorem adI:∀ (m) (x0 x1 x2 x3 x4),iter [1,2,7,8,9] (fun env K=>exec cl N sG env K) K m (gd x0 x1 x2 x3 x4)=oZ N (fun y0 y1 y2 y3 y4=>K (.exit 0) (gd y0 y1 y2 y3 y4)) m x0 x1 x2 x3 x4:=by
 intro m
 induction m with
 | zero=>intros; rfl
 | succ m ih=>
   intro x0 x1 x2 x3 x4
   simp only [bS,ang,bU,bT,bV,Io,ih]
   rfl
theorem aa7 (x0 x1 x2 x3 x4):ah [7] (gd x0 x1 x2 x3 x4)=(kF x2):=by kernel_rfl
def ow (N:Nat) (k0:V0→Option R) (x0:V0) (x1:ad) (x2:V0) (x3 x4:Int):Option R:=
oZ N (fun y0 y1 y2 y3 y4=>k0 y2) N x0 x1 x2 x3 x4
theorem anh (x0 x1 x2 x3 x4):exec cl N DC (gd x0 x1 x2 x3 x4) K=(ow N (fun y0=>K (.exit 0) (kF y0)) x0 x1 x2 x3 x4):=by
 simp only [DC,aP,bR,Io,adI,aa7]
 rfl
theorem aa8 (x0):ah [7] (kF x0)=(kF x0):=by kernel_rfl
def ox (k0:Int→V0→Option R) (x0:V0):Option R:=
k0 (0:Int) x0
theorem ani (x0):exec cl N Me (kF x0) K=(ox (fun y0 y1=>K .ret (qg y0 y1)) x0):=by
 kernel_rfl
def oz (N:Nat) (bQ:ad→V0→Option (Int)) (k0:V0→Int→Option R) (k1:Int→V0→Option R) (x0:ad) (x1:V0):Option R:=
(oy bQ k0 (oj (ow N ((ox k1)))) x0 x1)
theorem ank (bQ) (h56:(ma bQ).holds cl) (x0 x1):exec cl N yf (de x0 x1) K=(oz N bQ (fun y0 y1=>K .ret (qf y0 y1)) (fun y0 y1=>K .ret (qg y0 y1)) x0 x1):=by
 simp only [bJ,bL,bK,bM,anj bQ h56,ye,Md,anb,Mc,aP,b6,anh,bZ,b5,bY,aa8,ani]
 rfl
theorem ahq (y0 y1):af d25 .ret (qf y0 y1)=some [.own true 3 U2 .no y0,.v U2 y1]:=by kernel_rfl
theorem ahr (y0 y1):af d25 .ret (qg y0 y1)=some [.own true 3 U2 .no y1,.v U2 y0]:=by kernel_rfl
def mO (N:Nat) (bQ:ad→V0→Option (Int)) (x0:ad) (x1:V0) (k:V0→Int→Option R):Option R:=
(oz N bQ k (fun y0 y1=>k y1 y0) x0 x1)
theorem Xu (bQ) (h56:(ma bQ).holds cl) (x0 x1) (k:List E→Option R):exec cl N DB (de x0 x1) (fun e env=>(af d25 e env).bind k)=mO N bQ x0 x1 (fun r0 r1=>k [.own true 3 U2 .no r0,.v U2 r1]):=by
 simp only [DB,ank bQ h56,ahq,ahr,al]
 rfl
def FQ (S:ad→V0→Option V8):aJ:=c4 25 ak U5 S fun b=> [.own true 3 U2 .no b.1,.v U2 b.2]
def gC (N:Nat) (x0:ad) (x1:V0):Option V8:=mO N (bQ N) x0 x1 (fun (r0:V0) (r1:Int)=>some (r0,r1))
def Hy (bP:ad→V0→Option (Int)) (dT:ad→V0→Option pI) (k0:V3→Int→Option R) (k1:V3→Int→Option R) (x0:ad) (x1:V0):Option R:=
(bP x0 x1).bind fun r1571=>
ae (r1571 != (0:Int)) (k0 ([]:List UInt8) r1571) ((dT x0 x1).bind fun r1573=>
k1 r1573.1 (0:Int))
theorem anp (bP) (dT) (h55:(l9 bP).holds cl) (h57:(sU dT).holds cl) (x0 x1):exec cl N Ml (de x0 x1) K=(Hy bP dT (fun y0 y1=>K .ret (zK y0 y1)) (fun y0 y1=>K .ret (zL y0 y1)) x0 x1):=by
 rw [←aI h55]
 rw [←aI h57]
 kernel_rfl
theorem ahs (y0 y1):af d26 .ret (zK y0 y1)=some [.v .str y0,.v U2 y1]:=by kernel_rfl
theorem aht (y0 y1):af d26 .ret (zL y0 y1)=some [.v .str y0,.v U2 y1]:=by kernel_rfl
def Ar (bP:ad→V0→Option (Int)) (dT:ad→V0→Option pI) (x0:ad) (x1:V0) (k:V3→Int→Option R):Option R:=
(Hy bP dT k k x0 x1)
theorem Xv (bP) (dT) (h55:(l9 bP).holds cl) (h57:(sU dT).holds cl) (x0 x1) (k:List E→Option R):exec cl N DF (de x0 x1) (fun e env=>(af d26 e env).bind k)=Ar bP dT x0 x1 (fun r0 r1=>k [.v .str r0,.v U2 r1]):=by
 simp only [DF,anp bP dT h55 h57,ahs,aht,al]
 rfl
def FR (S:ad→V0→Option jv):aJ:=c4 26 ak U5 S fun b=> [.v .str b.1,.v U2 b.2]
def gD (N:Nat) (x0:ad) (x1:V0):Option jv:=Ar (bP N) (dT N) x0 x1 (fun (r0:V3) (r1:Int)=>some (r0,r1))
def vn (k0:V0→ad→V3→Option R) (x0:ad) (x1:V0):Option R:=
k0 x1 x0 ([]:List UInt8)
theorem aoC (x0 x1):exec cl N yD (de x0 x1) K=(vn (fun y0 y1 y2=>exec cl N yC [(1,.v U5 y0),(2,.loc ak .no y1),(5,.v .str y2)] K) x0 x1):=by
 delta yD
 generalize yC=q
 revert q
 refine id ?_
 intro q
 kernel_rfl
def vj (k0:V0→ad→V3→Int→Option R) (x0:V0) (x1:ad) (x2:V3):Option R:=
k0 x0 x1 x2 (0:Int)
theorem aoy (x0 x1 x2):exec cl N M9 [(1,.v U5 x0),(2,.loc ak .no x1),(5,.v .str x2)] K=(vj (fun y0 y1 y2 y3=>K .normal (kR y0 y1 y2 y3)) x0 x1 x2):=by
 kernel_rfl
theorem TE (x0 x1 x2 x3):ah [1,2,5,6] (kR x0 x1 x2 x3)=(kR x0 x1 x2 x3):=by kernel_rfl
def vk (k0:V0→ad→V3→Int→Option R) (k1:V0→ad→V3→Int→Option R) (x0:V0) (x1:ad) (x2:V3) (x3:Int):Option R:=
ae (decide (x3 < (x0.length:Int))) (if 0≤x3∧x3 < (x0.length:Int) then
if 0≤(x0.getD x3.toNat (0:Int))∧(x0.getD x3.toNat (0:Int)) < (x1.2.1.length:Int) then
if x2.length+((x1.2.1.getD (x0.getD x3.toNat (0:Int)).toNat ([],([],((0:Int),((0:Int),()))))).1).length≤140737488355328 then
k0 x0 x1 (x2++(x1.2.1.getD (x0.getD x3.toNat (0:Int)).toNat ([],([],((0:Int),((0:Int),()))))).1) (IntKind.i64.wrap (x3+(1:Int)))
else none
else none
else none) (k1 x0 x1 x2 x3)
theorem aoz (x0 x1 x2 x3):exec cl N Em (kR x0 x1 x2 x3) K=(vk (fun y0 y1 y2 y3=>K .normal (kR y0 y1 y2 y3)) (fun y0 y1 y2 y3=>K (.exit 0) (kR y0 y1 y2 y3)) x0 x1 x2 x3):=by
 kernel_rfl
def ry {R:Type} (k0:V0→ad→V3→Int→Option R):Nat→V0→ad→V3→Int→Option R
 | 0,_,_,_,_=>none
 | m+1,x0,x1,x2,x3=>(vk (ry k0 m) k0 x0 x1 x2 x3)
theorem adU:∀ (m) (x0 x1 x2 x3),iter [1,2,5,6] (fun env K=>exec cl N Em env K) K m (kR x0 x1 x2 x3)=ry (fun y0 y1 y2 y3=>K (.exit 0) (kR y0 y1 y2 y3)) m x0 x1 x2 x3:=by
 intro m
 induction m with
 | zero=>intros; rfl
 | succ m ih=>
   intro x0 x1 x2 x3
   simp only [bS,aoz,bU,bT,bV,TE,ih]
   rfl
theorem abG (x0 x1 x2 x3):ah [5] (kR x0 x1 x2 x3)=[(5,.v .str x2)]:=by kernel_rfl
def vl (N:Nat) (k0:V3→Option R) (x0:V0) (x1:ad) (x2:V3) (x3:Int):Option R:=
ry (fun y0 y1 y2 y3=>k0 y2) N x0 x1 x2 x3
theorem aoA (x0 x1 x2 x3):exec cl N En (kR x0 x1 x2 x3) K=(vl N (fun y0=>K (.exit 0) [(5,.v .str y0)]) x0 x1 x2 x3):=by
 simp only [En,aP,bR,TE,adU,abG]
 rfl
theorem abH (x0):ah [5] [(5,.v .str x0)]=[(5,.v .str x0)]:=by kernel_rfl
def vm (k0:V3→Option R) (x0:V3):Option R:=
k0 x0
theorem aoB (x0):exec cl N Nc [(5,.v .str x0)] K=(vm (fun y0=>K .ret [(4,.v .str y0)]) x0):=by
 kernel_rfl
def vo (N:Nat) (k0:V3→Option R) (x0:ad) (x1:V0):Option R:=
(vn (vj (vl N ((vm k0)))) x0 x1)
theorem aoD (x0 x1):exec cl N yD (de x0 x1) K=(vo N (fun y0=>K .ret [(4,.v .str y0)]) x0 x1):=by
 simp only [bJ,bL,bK,bM,aoC,yC,Nb,aoy,Na,aP,b6,aoA,bZ,b5,bY,abH,aoB]
 rfl
theorem ah1 (y0):af d58 .ret [(4,.v .str y0)]=some [.v .str y0]:=by kernel_rfl
def qJ (N:Nat) (x0:ad) (x1:V0) (k:V3→Option R):Option R:=
(vo N k x0 x1)
theorem XN (x0 x1) (k:List E→Option R):exec cl N El (de x0 x1) (fun e env=>(af d58 e env).bind k)=qJ N x0 x1 (fun r0=>k [.v .str r0]):=by
 simp only [El,aoD,ah1,al]
 rfl
def FZ (S:ad→V0→Option V6):aJ:=c4 58 ak U5 S fun b=> [.v .str b]
def gJ (N:Nat) (x0:ad) (x1:V0):Option V6:=qJ N x0 x1 (fun (r0:V3)=>some (r0))
def Hz (bQ:ad→V0→Option (Int)) (gJ:ad→V0→Option V6) (k0:V3→Int→Option R) (k1:V3→Int→Option R) (x0:ad) (x1:V0):Option R:=
(bQ x0 x1).bind fun r1584=>
ae (r1584 != (0:Int)) (k0 ([]:List UInt8) r1584) ((gJ x0 x1).bind fun r1586=>
k1 r1586 (0:Int))
theorem anq (bQ) (gJ) (h56:(ma bQ).holds cl) (h58:(FZ gJ).holds cl) (x0 x1):exec cl N Mm (de x0 x1) K=(Hz bQ gJ (fun y0 y1=>K .ret (zK y0 y1)) (fun y0 y1=>K .ret (zL y0 y1)) x0 x1):=by
 rw [←aI h56]
 rw [←aI h58]
 kernel_rfl
theorem ahu (y0 y1):af d27 .ret (zK y0 y1)=some [.v .str y0,.v U2 y1]:=by kernel_rfl
theorem ahv (y0 y1):af d27 .ret (zL y0 y1)=some [.v .str y0,.v U2 y1]:=by kernel_rfl
def As (bQ:ad→V0→Option (Int)) (gJ:ad→V0→Option V6) (x0:ad) (x1:V0) (k:V3→Int→Option R):Option R:=
(Hz bQ gJ k k x0 x1)
theorem Xw (bQ) (gJ) (h56:(ma bQ).holds cl) (h58:(FZ gJ).holds cl) (x0 x1) (k:List E→Option R):exec cl N DG (de x0 x1) (fun e env=>(af d27 e env).bind k)=As bQ gJ x0 x1 (fun r0 r1=>k [.v .str r0,.v U2 r1]):=by
 simp only [DG,anq bQ gJ h56 h58,ahu,ahv,al]
 rfl
def FT (S:ad→V0→Option jv):aJ:=c4 27 ak U5 S fun b=> [.v .str b.1,.v U2 b.2]
def gF (N:Nat) (x0:ad) (x1:V0):Option jv:=As (bQ N) (gJ N) x0 x1 (fun (r0:V3) (r1:Int)=>some (r0,r1))
def HS (fL:Option (Bool)) (gn:ad→V3→V0→Option (Bool)) (dO:V0→V0→Option (Bool)) (gA:ad→V0→Option je) (gB:ad→V0→Option je) (dQ:ad→V0→Option V8) (gC:ad→V0→Option V8) (gD:ad→V0→Option jv) (gF:ad→V0→Option jv) (bl:ar→ar→Option (Bool)) (k0:Bool→Option R) (k1:Bool→Option R) (x0:ad) (x1:V0):Option R:=
(fL).bind fun r1594=>
ae (!r1594) ((fL).bind fun r1595=>
k0 r1595) ((gn x0 ([]:List UInt8) x1).bind fun r1596=>
ae (!r1596) ((fL).bind fun r1597=>
k0 r1597) ((gA x0 x1).bind fun r1598=>
(gB x0 x1).bind fun r1599=>
(dQ x0 x1).bind fun r1600=>
(gC x0 x1).bind fun r1601=>
(gD x0 x1).bind fun r1602=>
(gF x0 x1).bind fun r1603=>
ae (r1598.2==r1599.2) (ae (r1600.2==r1599.2) (ae (r1602.2==r1599.2) ((bl r1598.1 r1599.1).bind fun r1607=>
ae r1607 ((dO r1600.1 r1601.1).bind fun r1608=>
ae r1608 (k1 (r1602.1==r1603.1)) (k1 false)) (k1 false)) (k1 false)) (k1 false)) (k1 false)))
theorem apD (fL) (gn) (dO) (gA) (gB) (dQ) (gC) (gD) (gF) (bl) (h11:(zj fL).holds cl) (h12:(Fv gn).holds cl) (h15:(sQ dO).holds cl) (h22:(FO gA).holds cl) (h23:(FP gB).holds cl) (h24:(sS dQ).holds cl) (h25:(FQ gC).holds cl) (h26:(FR gD).holds cl) (h27:(FT gF).holds cl) (h28:(jT bl).holds cl) (x0 x1):exec cl N N5 (de x0 x1) K=(HS fL gn dO gA gB dQ gC gD gF bl (fun y0=>K .ret [(1,.dead),(2,.dead),(4,.v .bool y0)]) (fun y0=>K .ret [(4,.v .bool y0)]) x0 x1):=by
 rw [←aI h11]
 rw [←aI h12]
 rw [←aI h15]
 rw [←aI h22]
 rw [←aI h23]
 rw [←aI h24]
 rw [←aI h25]
 rw [←aI h26]
 rw [←aI h27]
 rw [←aI h28]
 kernel_rfl
theorem aip (y0):af d7 .ret [(1,.dead),(2,.dead),(4,.v .bool y0)]=some [.v .bool y0]:=by kernel_rfl
theorem aiq (y0):af d7 .ret [(4,.v .bool y0)]=some [.v .bool y0]:=by kernel_rfl
def g7 (fL:Option (Bool)) (gn:ad→V3→V0→Option (Bool)) (dO:V0→V0→Option (Bool)) (gA:ad→V0→Option je) (gB:ad→V0→Option je) (dQ:ad→V0→Option V8) (gC:ad→V0→Option V8) (gD:ad→V0→Option jv) (gF:ad→V0→Option jv) (bl:ar→ar→Option (Bool)) (x0:ad) (x1:V0) (k:Bool→Option R):Option R:=
(HS fL gn dO gA gB dQ gC gD gF bl k k x0 x1)
theorem XT (fL) (gn) (dO) (gA) (gB) (dQ) (gC) (gD) (gF) (bl) (h11:(zj fL).holds cl) (h12:(Fv gn).holds cl) (h15:(sQ dO).holds cl) (h22:(FO gA).holds cl) (h23:(FP gB).holds cl) (h24:(sS dQ).holds cl) (h25:(FQ gC).holds cl) (h26:(FR gD).holds cl) (h27:(FT gF).holds cl) (h28:(jT bl).holds cl) (x0 x1) (k:List E→Option R):exec cl N c7 (de x0 x1) (fun e env=>(af d7 e env).bind k)=g7 fL gn dO gA gB dQ gC gD gF bl x0 x1 (fun r0=>k [.v .bool r0]):=by
 simp only [c7,apD fL gn dO gA gB dQ gC gD gF bl h11 h12 h15 h22 h23 h24 h25 h26 h27 h28,aip,aiq,al]
 rfl
def ark (S:ad→V0→Option (Bool)):aJ:=c4 7 ak U5 S fun b=> [.v .bool b]
def S7 (N:Nat) (x0:ad) (x1:V0):Option (Bool):=g7 (fL N) (gn N) (dO N) (gA N) (gB N) (dQ N) (gC N) (gD N) (gF N) (bl N) x0 x1 (fun (r0:Bool)=>some (r0))
end Go.Fw.L19
