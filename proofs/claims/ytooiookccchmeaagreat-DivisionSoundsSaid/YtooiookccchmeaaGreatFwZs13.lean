/- Own work. -/
import Derived.Test.YtooiookccchmeaaGreatFwMs13
import Derived.Test.YtooiookccchmeaaGreatFwB6
set_option linter.unusedVariables false
set_option linter.unusedSimpArgs false
namespace Go.Fw.L19
open Go Go.Fw
set_option maxRecDepth 100000
abbrev A (D:Nat):az:=bt table j8 2000 D
theorem q0 {cl:az} {N:Nat} {fd:FD} {env:Env} (g:{R:Type}→(aC→Option R)→Option R) (hg:∀ {R:Type} (k:List E→Option R),exec cl N fd.body env (fun e env=>(af fd e env).bind k)=g (fun b=>k [.own true 9 .str .no b])):exec cl N fd.body env (af fd)=(g some).bind fun b=>some [.own true 9 .str .no b]:=dy (dr:=fun es=>((a7 (mc .str) b9) es).map fun q=>(q.1)) (by intro b; kernel_rfl) g hg
theorem q1 {cl:az} {N:Nat} {fd:FD} {env:Env} (g:{R:Type}→(V3→Option R)→Option R) (hg:∀ {R:Type} (k:List E→Option R),exec cl N fd.body env (fun e env=>(af fd e env).bind k)=g (fun b=>k [.v .str b])):exec cl N fd.body env (af fd)=(g some).bind fun b=>some [.v .str b]:=dy (dr:=fun es=>((a7 (bC .str) b9) es).map fun q=>(q.1)) (by intro b; kernel_rfl) g hg
theorem q2 {cl:az} {N:Nat} {fd:FD} {env:Env} (g:{R:Type}→(Bool→Option R)→Option R) (hg:∀ {R:Type} (k:List E→Option R),exec cl N fd.body env (fun e env=>(af fd e env).bind k)=g (fun b=>k [.v .bool b])):exec cl N fd.body env (af fd)=(g some).bind fun b=>some [.v .bool b]:=dy (dr:=fun es=>((a7 (bC .bool) b9) es).map fun q=>(q.1)) (by intro b; kernel_rfl) g hg
theorem q3 {cl:az} {N:Nat} {fd:FD} {env:Env} (g:{R:Type}→(Int→Option R)→Option R) (hg:∀ {R:Type} (k:List E→Option R),exec cl N fd.body env (fun e env=>(af fd e env).bind k)=g (fun b=>k [.v U2 b])):exec cl N fd.body env (af fd)=(g some).bind fun b=>some [.v U2 b]:=dy (dr:=fun es=>((a7 (bC U2) b9) es).map fun q=>(q.1)) (by intro b; kernel_rfl) g hg
theorem q4 {cl:az} {N:Nat} {fd:FD} {env:Env} (g:{R:Type}→(aN×Bool→Option R)→Option R) (hg:∀ {R:Type} (k:List E→Option R),exec cl N fd.body env (fun e env=>(af fd e env).bind k)=g (fun b=>k [.v ay b.1,.v .bool b.2])):exec cl N fd.body env (af fd)=(g some).bind fun b=>some [.v ay b.1,.v .bool b.2]:=dy (dr:=fun es=>((a7 (bC ay) (a7 (bC .bool) b9)) es).map fun q=>(q.1,q.2.1)) (by intro b; kernel_rfl) g hg
theorem q5 {cl:az} {N:Nat} {fd:FD} {env:Env} (g:{R:Type}→(ar×Int→Option R)→Option R) (hg:∀ {R:Type} (k:List E→Option R),exec cl N fd.body env (fun e env=>(af fd e env).bind k)=g (fun b=>k [.own true 40 ay .no b.1,.v U2 b.2])):exec cl N fd.body env (af fd)=(g some).bind fun b=>some [.own true 40 ay .no b.1,.v U2 b.2]:=dy (dr:=fun es=>((a7 (mc ay) (a7 (bC U2) b9)) es).map fun q=>(q.1,q.2.1)) (by intro b; kernel_rfl) g hg
theorem q6 {cl:az} {N:Nat} {fd:FD} {env:Env} (g:{R:Type}→(Int×Bool→Option R)→Option R) (hg:∀ {R:Type} (k:List E→Option R),exec cl N fd.body env (fun e env=>(af fd e env).bind k)=g (fun b=>k [.v U2 b.1,.v .bool b.2])):exec cl N fd.body env (af fd)=(g some).bind fun b=>some [.v U2 b.1,.v .bool b.2]:=dy (dr:=fun es=>((a7 (bC U2) (a7 (bC .bool) b9)) es).map fun q=>(q.1,q.2.1)) (by intro b; kernel_rfl) g hg
theorem q7 {cl:az} {N:Nat} {fd:FD} {env:Env} (g:{R:Type}→(aO×Bool→Option R)→Option R) (hg:∀ {R:Type} (k:List E→Option R),exec cl N fd.body env (fun e env=>(af fd e env).bind k)=g (fun b=>k [.v aB b.1,.v .bool b.2])):exec cl N fd.body env (af fd)=(g some).bind fun b=>some [.v aB b.1,.v .bool b.2]:=dy (dr:=fun es=>((a7 (bC aB) (a7 (bC .bool) b9)) es).map fun q=>(q.1,q.2.1)) (by intro b; kernel_rfl) g hg
theorem q8 {cl:az} {N:Nat} {fd:FD} {env:Env} (g:{R:Type}→(Int×Int→Option R)→Option R) (hg:∀ {R:Type} (k:List E→Option R),exec cl N fd.body env (fun e env=>(af fd e env).bind k)=g (fun b=>k [.v U2 b.1,.v U2 b.2])):exec cl N fd.body env (af fd)=(g some).bind fun b=>some [.v U2 b.1,.v U2 b.2]:=dy (dr:=fun es=>((a7 (bC U2) (a7 (bC U2) b9)) es).map fun q=>(q.1,q.2.1)) (by intro b; kernel_rfl) g hg
theorem q9 {cl:az} {N:Nat} {fd:FD} {env:Env} (g:{R:Type}→(ad×Int×Int→Option R)→Option R) (hg:∀ {R:Type} (k:List E→Option R),exec cl N fd.body env (fun e env=>(af fd e env).bind k)=g (fun b=>k [.v ak b.1,.v U2 b.2.1,.v U2 b.2.2])):exec cl N fd.body env (af fd)=(g some).bind fun b=>some [.v ak b.1,.v U2 b.2.1,.v U2 b.2.2]:=dy (dr:=fun es=>((a7 (bC ak) (a7 (bC U2) (a7 (bC U2) b9))) es).map fun q=>(q.1,q.2.1,q.2.2.1)) (by intro b; kernel_rfl) g hg
theorem q10 {cl:az} {N:Nat} {fd:FD} {env:Env} (g:{R:Type}→(ad→Option R)→Option R) (hg:∀ {R:Type} (k:List E→Option R),exec cl N fd.body env (fun e env=>(af fd e env).bind k)=g (fun b=>k [.v ak b])):exec cl N fd.body env (af fd)=(g some).bind fun b=>some [.v ak b]:=dy (dr:=fun es=>((a7 (bC ak) b9) es).map fun q=>(q.1)) (by intro b; kernel_rfl) g hg
theorem q11 {cl:az} {N:Nat} {fd:FD} {env:Env} (g:{R:Type}→(fM×Int→Option R)→Option R) (hg:∀ {R:Type} (k:List E→Option R),exec cl N fd.body env (fun e env=>(af fd e env).bind k)=g (fun b=>k [.own true 179 dJ .no b.1,.v U2 b.2])):exec cl N fd.body env (af fd)=(g some).bind fun b=>some [.own true 179 dJ .no b.1,.v U2 b.2]:=dy (dr:=fun es=>((a7 (mc dJ) (a7 (bC U2) b9)) es).map fun q=>(q.1,q.2.1)) (by intro b; kernel_rfl) g hg
theorem I9 {cl:az} {N:Nat} {fd:FD} {env:Env} (g:{R:Type}→(V3×Int→Option R)→Option R) (hg:∀ {R:Type} (k:List E→Option R),exec cl N fd.body env (fun e env=>(af fd e env).bind k)=g (fun b=>k [.v .str b.1,.v U2 b.2])):exec cl N fd.body env (af fd)=(g some).bind fun b=>some [.v .str b.1,.v U2 b.2]:=dy (dr:=fun es=>((a7 (bC .str) (a7 (bC U2) b9)) es).map fun q=>(q.1,q.2.1)) (by intro b; kernel_rfl) g hg
theorem q13 {cl:az} {N:Nat} {fd:FD} {env:Env} (g:{R:Type}→(ar→Option R)→Option R) (hg:∀ {R:Type} (k:List E→Option R),exec cl N fd.body env (fun e env=>(af fd e env).bind k)=g (fun b=>k [.v bh b])):exec cl N fd.body env (af fd)=(g some).bind fun b=>some [.v bh b]:=dy (dr:=fun es=>((a7 (bC bh) b9) es).map fun q=>(q.1)) (by intro b; kernel_rfl) g hg
theorem q14 {cl:az} {N:Nat} {fd:FD} {env:Env} (g:{R:Type}→(bX→Option R)→Option R) (hg:∀ {R:Type} (k:List E→Option R),exec cl N fd.body env (fun e env=>(af fd e env).bind k)=g (fun b=>k [.own true 73 aU .no b])):exec cl N fd.body env (af fd)=(g some).bind fun b=>some [.own true 73 aU .no b]:=dy (dr:=fun es=>((a7 (mc aU) b9) es).map fun q=>(q.1)) (by intro b; kernel_rfl) g hg
theorem q15 {cl:az} {N:Nat} {fd:FD} {env:Env} (g:{R:Type}→(V7×Int→Option R)→Option R) (hg:∀ {R:Type} (k:List E→Option R),exec cl N fd.body env (fun e env=>(af fd e env).bind k)=g (fun b=>k [.own true 27 U5 .no b.1,.v U2 b.2])):exec cl N fd.body env (af fd)=(g some).bind fun b=>some [.own true 27 U5 .no b.1,.v U2 b.2]:=dy (dr:=fun es=>((a7 (mc U5) (a7 (bC U2) b9)) es).map fun q=>(q.1,q.2.1)) (by intro b; kernel_rfl) g hg
theorem q16 {cl:az} {N:Nat} {fd:FD} {env:Env} (g:{R:Type}→(V0×Int×Int→Option R)→Option R) (hg:∀ {R:Type} (k:List E→Option R),exec cl N fd.body env (fun e env=>(af fd e env).bind k)=g (fun b=>k [.v U5 b.1,.v U2 b.2.1,.v U2 b.2.2])):exec cl N fd.body env (af fd)=(g some).bind fun b=>some [.v U5 b.1,.v U2 b.2.1,.v U2 b.2.2]:=dy (dr:=fun es=>((a7 (bC U5) (a7 (bC U2) (a7 (bC U2) b9))) es).map fun q=>(q.1,q.2.1,q.2.2.1)) (by intro b; kernel_rfl) g hg
theorem q17 {cl:az} {N:Nat} {fd:FD} {env:Env} (g:{R:Type}→(V3×Bool→Option R)→Option R) (hg:∀ {R:Type} (k:List E→Option R),exec cl N fd.body env (fun e env=>(af fd e env).bind k)=g (fun b=>k [.v .str b.1,.v .bool b.2])):exec cl N fd.body env (af fd)=(g some).bind fun b=>some [.v .str b.1,.v .bool b.2]:=dy (dr:=fun es=>((a7 (bC .str) (a7 (bC .bool) b9)) es).map fun q=>(q.1,q.2.1)) (by intro b; kernel_rfl) g hg
theorem UC {cl:az} {N:Nat} {fd:FD} {env:Env} (g:{R:Type}→(V0×Int→Option R)→Option R) (hg:∀ {R:Type} (k:List E→Option R),exec cl N fd.body env (fun e env=>(af fd e env).bind k)=g (fun b=>k [.own true 3 U2 .no b.1,.v U2 b.2])):exec cl N fd.body env (af fd)=(g some).bind fun b=>some [.own true 3 U2 .no b.1,.v U2 b.2]:=dy (dr:=fun es=>((a7 (mc U2) (a7 (bC U2) b9)) es).map fun q=>(q.1,q.2.1)) (by intro b; kernel_rfl) g hg
variable (D:Nat)
theorem Y2:(jh (eJ 2000)).holds (A (D+1)):=AZ rfl (by intro a; kernel_rfl)
theorem Zh:(gN (ct 2000)).holds (A (D+1)):=AZ rfl (by intro a; kernel_rfl)
theorem Zi:(iI (dH 2000)).holds (A (D+1)):=AZ rfl (by intro a; kernel_rfl)
theorem YE:(jB (eR 2000)).holds (A (D+1)):=AZ rfl (by intro a; kernel_rfl)
theorem Zn:(zA (fE 2000)).holds (A (D+1)):=fun (x0,_)=>.trans (aQ (fd:=d92) rfl rfl rfl rfl rfl) (q0 (fun {R} k=>HW 2000 x0 k) (fun k=>X1 x0 k))
theorem SO:(kp (bG 2000)).holds (A (D+1)):=fun (x0,_)=>.trans (aQ (fd:=d93) rfl rfl rfl rfl rfl) (q0 (fun {R} k=>HX 2000 x0 k) (fun k=>X2 x0 k))
theorem Yx:(zq (fB 2000)).holds (A (D+1)):=fun (x0,_)=>.trans (aQ (fd:=d138) rfl rfl rfl rfl rfl) (q0 (fun {R} k=>Hl 2000 x0 k) (fun k=>W5 x0 k))
theorem Zu {cl:az} (S:Option V6) (h:cl.run 148 []=S.bind fun b=>some [.v .str b]):(nx S).holds cl:=fun _=>h
theorem YF:(nx (da 2000)).holds (A (D+1)):=Zu (da 2000) ((aQ (fd:=d148) rfl rfl rfl rfl rfl).trans (q1 (fun {R} k=>Hq (fun r0=>k (r0))) (fun k=>Xc k)))
theorem Yg:(zk (eY 2000)).holds (A (D+1)):=fun (x0,_)=>.trans (aQ (fd:=d114) rfl rfl rfl rfl rfl) (q2 (fun {R} k=>zY x0 k) (fun k=>WK x0 k))
theorem Yw:(pX (c5 2000)).holds (A (D+1)):=fun (x0,_)=>.trans (aQ (fd:=d137) rfl rfl rfl rfl rfl) (q2 (fun {R} k=>Ab x0 k) (fun k=>W4 x0 k))
theorem SA:(l8 (bF 2000)).holds (A (D+2)):=fun (x0,_)=>.trans (aQ (fd:=d117) rfl rfl rfl rfl rfl) (q3 (fun {R} k=>qz 2000 (c5 2000) x0 k) (fun k=>WN _ (Yw D) x0 k))
theorem Yy:(pY (dq 2000)).holds (A (D+3)):=fun (x0,_)=>.trans (aQ (fd:=d139) rfl rfl rfl rfl rfl) (q4 (fun {R} k=>Hm 2000 (eY 2000) (bF 2000) (da 2000) x0 (fun r0 r1=>k (r0,r1))) (fun k=>W6 _ _ _ (Yg (D+1)) (SA D) (YF (D+1)) x0 k))
theorem Yj:(zn (fx 2000)).holds (A (D+4)):=fun (x0,_)=>.trans (aQ (fd:=d118) rfl rfl rfl rfl rfl) (q5 (fun {R} k=>G8 2000 (fB 2000) (dq 2000) x0 (fun r0 r1=>k (r0,r1))) (fun k=>WO _ _ (Yx (D+2)) (Yy D) x0 k))
theorem SB:(jS (bo 2000)).holds (A (D+1)):=fun (x0,_)=>.trans (aQ (fd:=d136) rfl rfl rfl rfl rfl) (q2 (fun {R} k=>Aa x0 k) (fun k=>W3 x0 k))
theorem Yz:(zr (fD 2000)).holds (A (D+2)):=fun (x0,_)=>.trans (aQ (fd:=d140) rfl rfl rfl rfl rfl) (q3 (fun {R} k=>Hn 2000 (bo 2000) x0 k) (fun k=>W7 _ (SB D) x0 k))
theorem Yk:(zo (fy 2000)).holds (A (D+3)):=fun (x0,_)=>.trans (aQ (fd:=d119) rfl rfl rfl rfl rfl) (q6 (fun {R} k=>G9 2000 (fD 2000) x0 (fun r0 r1=>k (r0,r1))) (fun k=>WQ _ (Yz D) x0 k))
theorem Ym:(pT (dp 2000)).holds (A (D+1)):=fun (x0,_)=>.trans (aQ (fd:=d120) rfl rfl rfl rfl rfl) (q1 (fun {R} k=>Hb x0 k) (fun k=>WS x0 k))
theorem Zo:(nB (cN 2000)).holds (A (D+5)):=fun (x0,_)=>.trans (aQ (fd:=d94) rfl rfl rfl rfl rfl) (q7 (fun {R} k=>HY 2000 (bG 2000) (fx 2000) (fy 2000) (dp 2000) x0 (fun r0 r1=>k (r0,r1))) (fun k=>X3 _ _ _ _ (SO (D+3)) (Yj D) (Yk (D+1)) (Ym (D+3)) x0 k))
theorem Yv:(nv (cw 2000)).holds (A (D+1)):=fun (x0,_)=>.trans (aQ (fd:=d135) rfl rfl rfl rfl rfl) (q2 (fun {R} k=>z8 x0 k) (fun k=>W2 x0 k))
theorem Yh:(Fu (gm 2000)).holds (A (D+2)):=fun (x0,_)=>.trans (aQ (fd:=d115) rfl rfl rfl rfl rfl) (q3 (fun {R} k=>qx 2000 (cw 2000) (bo 2000) x0 k) (fun k=>WL _ _ (Yv D) (SB D) x0 k))
theorem Zl:(zy (eL 2000)).holds (A (D+3)):=fun (x0,_)=>.trans (aQ (fd:=d90) rfl rfl rfl rfl rfl) (q2 (fun {R} k=>AA (gm 2000) x0 k) (fun k=>XZ _ (Yh D) x0 k))
theorem Yf:(pS (cV 2000)).holds (A (D+1)):=fun (x0,_)=>.trans (aQ (fd:=d111) rfl rfl rfl rfl rfl) (q2 (fun {R} k=>G6 2000 x0 k) (fun k=>WJ x0 k))
theorem Yi:(zl (eZ 2000)).holds (A (D+2)):=fun (x0,_)=>.trans (aQ (fd:=d116) rfl rfl rfl rfl rfl) (q3 (fun {R} k=>qy 2000 (cV 2000) x0 k) (fun k=>WM _ (Yf D) x0 k))
theorem Zm:(nA (cz 2000)).holds (A (D+3)):=fun (x0,_)=>.trans (aQ (fd:=d91) rfl rfl rfl rfl rfl) (q3 (fun {R} k=>qT 2000 (eZ 2000) (bF 2000) x0 k) (fun k=>X0 _ _ (Yi D) (SA D) x0 k))
theorem Zj:(F4 (fY 2000)).holds (A (D+1)):=fun (x0,x1,_)=>.trans (aQ (fd:=d86) rfl rfl rfl rfl rfl) (q3 (fun {R} k=>Az x0 x1 k) (fun k=>XY x0 x1 k))
theorem Y8:(p8 (c8 2000)).holds (A (D+2)):=fun (x0,x1,_)=>.trans (aQ (fd:=d59) rfl rfl rfl rfl rfl) (q3 (fun {R} k=>Ax (fY 2000) x0 x1 k) (fun k=>XO _ (Zj D) x0 x1 k))
theorem SF:(jT (bl 2000)).holds (A (D+3)):=fun (x0,x1,_)=>.trans (aQ (fd:=d28) rfl rfl rfl rfl rfl) (q2 (fun {R} k=>qG 2000 (c8 2000) x0 x1 k) (fun k=>Xx _ (Y8 D) x0 x1 k))
theorem SL:(qa (dd 2000)).holds (A (D+4)):=fun (x0,_)=>.trans (aQ (fd:=d67) rfl rfl rfl rfl rfl) (q8 (fun {R} k=>mP 2000 (bl 2000) (eL 2000) (cz 2000) x0 (fun r0 r1=>k (r0,r1))) (fun k=>XR _ _ _ (SF D) (Zl D) (Zm D) x0 k))
theorem Zc:(F1 (iE 2000)).holds (A (D+6)):=fun (x0,_)=>.trans (aQ (fd:=d69) rfl rfl rfl rfl rfl) (q9 (fun {R} k=>HO 2000 (dd 2000) (fE 2000) (bG 2000) (cN 2000) x0 (fun r0 r1 r2=>k (r0,r1,r2))) (fun k=>XS _ _ _ _ (SL (D+1)) (Zn (D+4)) (SO (D+4)) (Zo D) x0 k))
theorem Zv {cl:az} (S:Option sq) (h:cl.run 37 []=S.bind fun b=>some [.v ak b]):(zx S).holds cl:=fun _=>h
theorem YZ:(zx (gI 2000)).holds (A (D+7)):=Zv (gI 2000) ((aQ (fd:=d37) rfl rfl rfl rfl rfl).trans (q10 (fun {R} k=>HB (iE 2000) k) (fun k=>XA _ (Zc D) k)))
theorem YG:(ny (cy 2000)).holds (A (D+1)):=fun (x0,_)=>.trans (aQ (fd:=d149) rfl rfl rfl rfl rfl) (q2 (fun {R} k=>Aj x0 k) (fun k=>Xd x0 k))
theorem YH:(p5 (cY 2000)).holds (A (D+1)):=fun (x0,_)=>.trans (aQ (fd:=d150) rfl rfl rfl rfl rfl) (q2 (fun {R} k=>Ak x0 k) (fun k=>Xf x0 k))
theorem YA:(FC (gq 2000)).holds (A (D+2)):=fun (x0,_)=>.trans (aQ (fd:=d141) rfl rfl rfl rfl rfl) (q3 (fun {R} k=>tU 2000 (cy 2000) (cY 2000) x0 k) (fun k=>W8 _ _ (YG D) (YH D) x0 k))
theorem Yn:(zp (eQ 2000)).holds (A (D+3)):=fun (x0,_)=>.trans (aQ (fd:=d121) rfl rfl rfl rfl rfl) (q2 (fun {R} k=>zZ (gq 2000) x0 k) (fun k=>WT _ (YA D) x0 k))
theorem SN:(sW (dV 2000)).holds (A (D+1)):=fun (x0,_)=>.trans (aQ (fd:=d72) rfl rfl rfl rfl rfl) (q1 (fun {R} k=>qR 2000 x0 k) (fun k=>XW x0 k))
theorem YN:(zw (fb 2000)).holds (A (D+1)):=fun (x0,_)=>.trans (aQ (fd:=d158) rfl rfl rfl rfl rfl) (q3 (fun {R} k=>qE 2000 x0 k) (fun k=>Xl x0 k))
theorem Yt:(FA (iA 2000)).holds (A (D+2)):=fun (x0,x1,_)=>.trans (aQ (fd:=d127) rfl rfl rfl rfl rfl) (q3 (fun {R} k=>Hg (eR 2000) x0 x1 k) (fun k=>WZ _ (YE D) x0 x1 k))
theorem SP:(mL (b8 2000)).holds (A (D+3)):=fun (x0,_)=>.trans (aQ (fd:=d98) rfl rfl rfl rfl rfl) (q2 (fun {R} k=>H2 (iA 2000) x0 k) (fun k=>X7 _ (Yt D) x0 k))
theorem YI:(FF (hM 2000)).holds (A (D+4)):=fun (x0,_)=>.trans (aQ (fd:=d151) rfl rfl rfl rfl rfl) (q11 (fun {R} k=>qD 2000 (b8 2000) (fb 2000) x0 (fun r0 r1=>k (r0,r1))) (fun k=>Xg _ _ (SP D) (YN (D+2)) x0 k))
theorem YB:(zt (fa 2000)).holds (A (D+5)):=fun (x0,_)=>.trans (aQ (fd:=d142) rfl rfl rfl rfl rfl) (q3 (fun {R} k=>Ah (dV 2000) (hM 2000) x0 k) (fun k=>W9 _ _ (SN (D+3)) (YI D) x0 k))
theorem YJ:(FG (gr 2000)).holds (A (D+1)):=fun (x0,_)=>.trans (aQ (fd:=d152) rfl rfl rfl rfl rfl) (q2 (fun {R} k=>Al x0 k) (fun k=>Xh x0 k))
theorem YM:(FJ (gx 2000)).holds (A (D+1)):=fun (x0,_)=>.trans (aQ (fd:=d155) rfl rfl rfl rfl rfl) (q2 (fun {R} k=>Ap x0 k) (fun k=>Xk x0 k))
theorem YL:(FI (gw 2000)).holds (A (D+2)):=fun (x0,_)=>.trans (aQ (fd:=d154) rfl rfl rfl rfl rfl) (q2 (fun {R} k=>Ao (gx 2000) x0 k) (fun k=>Xj _ (YM D) x0 k))
theorem YP:(FL (gz 2000)).holds (A (D+1)):=fun (x0,x1,x2,_)=>.trans (aQ (fd:=d160) rfl rfl rfl rfl rfl) (q3 (fun {R} k=>qF 2000 x0 x1 x2 k) (fun k=>Xo x0 x1 x2 k))
theorem YO:(FK (gy 2000)).holds (A (D+2)):=fun (x0,x1,_)=>.trans (aQ (fd:=d159) rfl rfl rfl rfl rfl) (q3 (fun {R} k=>Aq (gz 2000) x0 x1 k) (fun k=>Xm _ (YP D) x0 x1 k))
theorem YK:(FH (gu 2000)).holds (A (D+3)):=fun (x0,x1,_)=>.trans (aQ (fd:=d153) rfl rfl rfl rfl rfl) (q2 (fun {R} k=>Am (gy 2000) x0 x1 k) (fun k=>Xi _ (YO D) x0 x1 k))
theorem YC:(pZ (c6 2000)).holds (A (D+4)):=fun (x0,_)=>.trans (aQ (fd:=d143) rfl rfl rfl rfl rfl) (q3 (fun {R} k=>Ai (gr 2000) (gu 2000) (gw 2000) x0 k) (fun k=>Xa _ _ _ (YJ (D+2)) (YK D) (YL (D+1)) x0 k))
theorem Yo:(pU (cW 2000)).holds (A (D+6)):=fun (x0,_)=>.trans (aQ (fd:=d122) rfl rfl rfl rfl rfl) (q3 (fun {R} k=>qA 2000 (fa 2000) (c6 2000) x0 k) (fun k=>WU _ _ (YB D) (YC (D+1)) x0 k))
theorem Yr:(Fx (gp 2000)).holds (A (D+1)):=fun (x0,x1,_)=>.trans (aQ (fd:=d125) rfl rfl rfl rfl rfl) (q2 (fun {R} k=>qB 2000 x0 x1 k) (fun k=>WX x0 x1 k))
theorem Yq:(pW (cX 2000)).holds (A (D+2)):=fun (x0,x1,_)=>.trans (aQ (fd:=d124) rfl rfl rfl rfl rfl) (q2 (fun {R} k=>z7 (gp 2000) x0 x1 k) (fun k=>WW _ (Yr D) x0 x1 k))
theorem YD:(FE (gZ 2000)).holds (A (D+1)):=fun (x0,x1,_)=>.trans (aQ (fd:=d144) rfl rfl rfl rfl rfl) (q3 (fun {R} k=>qC 2000 x0 x1 k) (fun k=>Xb x0 x1 k))
theorem Yp:(pV (cT 2000)).holds (A (D+2)):=fun (x0,x1,_)=>.trans (aQ (fd:=d123) rfl rfl rfl rfl rfl) (q2 (fun {R} k=>z6 (gZ 2000) x0 x1 k) (fun k=>WV _ (YD D) x0 x1 k))
theorem Zp:(F5 (hR 2000)).holds (A (D+7)):=fun (x0,_)=>.trans (aQ (fd:=d95) rfl rfl rfl rfl rfl) (q8 (fun {R} k=>qU 2000 (eQ 2000) (cW 2000) (cT 2000) (cX 2000) x0 (fun r0 r1=>k (r0,r1))) (fun k=>X4 _ _ _ _ (Yn (D+3)) (Yo D) (Yp (D+4)) (Yq (D+4)) x0 k))
theorem SM:(sV (dU 2000)).holds (A (D+8)):=fun (x0,_)=>.trans (aQ (fd:=d70) rfl rfl rfl rfl rfl) (q3 (fun {R} k=>Ay (hR 2000) x0 k) (fun k=>XU _ (Zp D) x0 k))
theorem Zr:(qc (dw 2000)).holds (A (D+4)):=fun (x0,_)=>.trans (aQ (fd:=d97) rfl rfl rfl rfl rfl) (q2 (fun {R} k=>H0 (b8 2000) x0 k) (fun k=>X6 _ (SP D) x0 k))
theorem Ys:(Fy (iz 2000)).holds (A (D+1)):=fun (x0,x1,_)=>.trans (aQ (fd:=d126) rfl rfl rfl rfl rfl) (q3 (fun {R} k=>Hf 2000 x0 x1 k) (fun k=>WY x0 x1 k))
theorem Zq:(qb (dv 2000)).holds (A (D+2)):=fun (x0,x1,_)=>.trans (aQ (fd:=d96) rfl rfl rfl rfl rfl) (q2 (fun {R} k=>HZ (iz 2000) x0 x1 k) (fun k=>X5 _ (Ys D) x0 x1 k))
theorem Zs:(zB (fF 2000)).holds (A (D+1)):=fun (x0,x1,_)=>.trans (aQ (fd:=d99) rfl rfl rfl rfl rfl) (q1 (fun {R} k=>H3 2000 x0 x1 k) (fun k=>X8 x0 x1 k))
theorem Zd:(F2 (iF 2000)).holds (A (D+5)):=fun (x0,_)=>.trans (aQ (fd:=d71) rfl rfl rfl rfl rfl) (I9 (fun {R} k=>HQ 2000 (dv 2000) (dw 2000) (fF 2000) x0 (fun r0 r1=>k (r0,r1))) (fun k=>XV _ _ _ (Zq (D+2)) (Zr D) (Zs (D+3)) x0 k))
theorem SH:(p6 (dt 2000)).holds (A (D+9)):=fun (x0,x1,_)=>.trans (aQ (fd:=d40) rfl rfl rfl rfl rfl) (q3 (fun {R} k=>HD (dU 2000) (iF 2000) (dV 2000) x0 x1 k) (fun k=>XC _ _ _ (SM D) (Zd (D+3)) (SN (D+7)) x0 x1 k))
theorem Ze:(iH (bz 2000)).holds (A (D+1)):=fun (x0,x1,_)=>.trans (aQ (fd:=d73) rfl rfl rfl rfl rfl) (q13 (fun {R} k=>vE x0 x1 k) (fun k=>H6 x0 x1 k))
theorem Zk:(mb (cM 2000)).holds (A (D+1)):=fun (x0,_)=>.trans (aQ (fd:=d87) rfl rfl rfl rfl rfl) (q2 (fun {R} k=>qS x0 k) (fun k=>H9 x0 k))
theorem Y9:(iG (bx 2000)).holds (A (D+2)):=fun (x0,x1,x2,x3,_)=>.trans (aQ (fd:=d60) rfl rfl rfl rfl rfl) (q2 (fun {R} k=>vp (cM 2000) x0 x1 x2 x3 k) (fun k=>H5 _ (Zk D) x0 x1 x2 x3 k))
theorem Zg:(nz (eK 2000)).holds (A (D+1)):=fun (x0,x1,_)=>.trans (aQ (fd:=d83) rfl rfl rfl rfl rfl) (q2 (fun {R} k=>vG x0 x1 k) (fun k=>H8 x0 x1 k))
theorem SJ:(fO (aR 2000)).holds (A (D+2)):=fun (x0,x1,_)=>.trans (aQ (fd:=d54) rfl rfl rfl rfl rfl) (q2 (fun {R} k=>vc (eK 2000) x0 x1 k) (fun k=>H4 _ (Zg D) x0 x1 k))
theorem ary:(jV (cd 2000)).holds (A (D+3)):=fun (x0,x1,_)=>.trans (aQ (fd:=d74) rfl rfl rfl rfl rfl) (q14 (fun {R} k=>vF 2000 (aR 2000) (bx 2000) (bz 2000) x0 x1 k) (fun k=>H7 _ _ _ (SJ D) (Y9 D) (Ze (D+1)) x0 x1 k))
theorem aqP (D:Nat) (x0:aF) (x1:Int):bt table db 2000 (D+1) 73 [.at bw x0,.v U2 x1]=(bz 2000 x0 x1).bind fun b=>some [.v bh b]:=by
 have e1:=aQ (tb:=table) (pr:=db) (N:=2000) (D:=D+0) (f:=73) (fd:=d73) (es:=[.at bw x0,.v U2 x1]) rfl rfl rfl rfl rfl
 exact e1.trans (dy (fd:=d73) (B:=ar) (aq:=fun b=> [.v bh b]) (dr:=fun es=>((a7 (bC bh) b9) es).map fun q=>(q.1)) (by intro b; kernel_rfl) (fun {R} k=>vE x0 x1 (fun (r0:ar)=>k (r0))) (fun k=>H6 x0 x1 k))
theorem SR (D:Nat):(iH (bz 2000)).holds (bt table db 2000 (D+1)):=fun a=>aqP D a.1 a.2.1
theorem aqS (D:Nat) (x0:aN):bt table db 2000 (D+1) 87 [.v ay x0]=(cM 2000 x0).bind fun b=>some [.v .bool b]:=by
 have e1:=aQ (tb:=table) (pr:=db) (N:=2000) (D:=D+0) (f:=87) (fd:=d87) (es:=[.v ay x0]) rfl rfl rfl rfl rfl
 exact e1.trans (dy (fd:=d87) (B:=Bool) (aq:=fun b=> [.v .bool b]) (dr:=fun es=>((a7 (bC .bool) b9) es).map fun q=>(q.1)) (by intro b; kernel_rfl) (fun {R} k=>qS x0 (fun (r0:Bool)=>k (r0))) (fun k=>H9 x0 k))
theorem Zz (D:Nat):(mb (cM 2000)).holds (bt table db 2000 (D+1)):=fun a=>aqS D a.1
theorem aqO (D:Nat) (x0:ad) (x1:Int) (x2:ar) (x3:ar):bt table db 2000 (D+2) 60 [.v ak x0,.v U2 x1,.v bh x2,.v bh x3]=(bx 2000 x0 x1 x2 x3).bind fun b=>some [.v .bool b]:=by
 have h87:(mb (cM 2000)).holds (bt table db 2000 (D+1)):=by have:=Zz (D+0); rwa [show D+0+1=D+1 by omega] at this
 have e1:=aQ (tb:=table) (pr:=db) (N:=2000) (D:=D+1) (f:=60) (fd:=d60) (es:=[.v ak x0,.v U2 x1,.v bh x2,.v bh x3]) rfl rfl rfl rfl rfl
 exact e1.trans (dy (fd:=d60) (B:=Bool) (aq:=fun b=> [.v .bool b]) (dr:=fun es=>((a7 (bC .bool) b9) es).map fun q=>(q.1)) (by intro b; kernel_rfl) (fun {R} k=>vp (cM 2000) x0 x1 x2 x3 (fun (r0:Bool)=>k (r0))) (fun k=>H5 (cM 2000) h87 x0 x1 x2 x3 k))
theorem SQ (D:Nat):(iG (bx 2000)).holds (bt table db 2000 (D+2)):=fun a=>aqO D a.1 a.2.1 a.2.2.1 a.2.2.2.1
theorem aqR (D:Nat) (x0:V3) (x1:V3):bt table db 2000 (D+1) 83 [.v .str x0,.v .str x1]=(eK 2000 x0 x1).bind fun b=>some [.v .bool b]:=by
 have e1:=aQ (tb:=table) (pr:=db) (N:=2000) (D:=D+0) (f:=83) (fd:=d83) (es:=[.v .str x0,.v .str x1]) rfl rfl rfl rfl rfl
 exact e1.trans (dy (fd:=d83) (B:=Bool) (aq:=fun b=> [.v .bool b]) (dr:=fun es=>((a7 (bC .bool) b9) es).map fun q=>(q.1)) (by intro b; kernel_rfl) (fun {R} k=>vG x0 x1 (fun (r0:Bool)=>k (r0))) (fun k=>H8 x0 x1 k))
theorem Zy (D:Nat):(nz (eK 2000)).holds (bt table db 2000 (D+1)):=fun a=>aqR D a.1 a.2.1
theorem aqN (D:Nat) (x0:V3) (x1:V3):bt table db 2000 (D+2) 54 [.v .str x0,.v .str x1]=(aR 2000 x0 x1).bind fun b=>some [.v .bool b]:=by
 have h83:(nz (eK 2000)).holds (bt table db 2000 (D+1)):=by have:=Zy (D+0); rwa [show D+0+1=D+1 by omega] at this
 have e1:=aQ (tb:=table) (pr:=db) (N:=2000) (D:=D+1) (f:=54) (fd:=d54) (es:=[.v .str x0,.v .str x1]) rfl rfl rfl rfl rfl
 exact e1.trans (dy (fd:=d54) (B:=Bool) (aq:=fun b=> [.v .bool b]) (dr:=fun es=>((a7 (bC .bool) b9) es).map fun q=>(q.1)) (by intro b; kernel_rfl) (fun {R} k=>vc (eK 2000) x0 x1 (fun (r0:Bool)=>k (r0))) (fun k=>H4 (eK 2000) h83 x0 x1 k))
theorem Zw (D:Nat):(fO (aR 2000)).holds (bt table db 2000 (D+2)):=fun a=>aqN D a.1 a.2.1
theorem aqQ (D:Nat) (x0:aF) (x1:aY):bt table db 2000 (D+3) 74 [.at bw x0,.v aU x1]=(cd 2000 x0 x1).bind fun b=>some [.own true 73 aU .no b]:=by
 have h54:(fO (aR 2000)).holds (bt table db 2000 (D+2)):=by have:=Zw (D+0); rwa [show D+0+2=D+2 by omega] at this
 have h60:(iG (bx 2000)).holds (bt table db 2000 (D+2)):=by have:=SQ (D+0); rwa [show D+0+2=D+2 by omega] at this
 have h73:(iH (bz 2000)).holds (bt table db 2000 (D+2)):=by have:=SR (D+1); rwa [show D+1+1=D+2 by omega] at this
 have e1:=aQ (tb:=table) (pr:=db) (N:=2000) (D:=D+2) (f:=74) (fd:=d74) (es:=[.at bw x0,.v aU x1]) rfl rfl rfl rfl rfl
 exact e1.trans (dy (fd:=d74) (B:=bX) (aq:=fun b=> [.own true 73 aU .no b]) (dr:=fun es=>((a7 (mc aU) b9) es).map fun q=>(q.1)) (by intro b; kernel_rfl) (fun {R} k=>vF 2000 (aR 2000) (bx 2000) (bz 2000) x0 x1 (fun (r0:bX)=>k (r0))) (fun k=>H7 (aR 2000) (bx 2000) (bz 2000) h54 h60 h73 x0 x1 k))
theorem Zx (D:Nat):(jV (cd 2000)).holds (bt table db 2000 (D+3)):=fun a=>aqQ D a.1 a.2.1
theorem Ij (N:Nat):∀ m,(fU (sj 2000 m)).holds (pk m)
 | 0=>fun a=>by kernel_rfl
 | m+1=>fun a=>by
   have h60:(iG (bx 2000)).holds (pk m):=wk (by decide) (SQ 2) m
   have h73:(iH (bz 2000)).holds (pk m):=wk (by decide) (SR 3) m
   have h74:(jV (cd 2000)).holds (pk m):=wk (by decide) (Zx 1) m
   have h41:=Ij 2000 m
   have e1:=UD (n:=41) (fd:=d41) (N:=2000) (base:=bt table db 2000 4) (m:=m) (es:=[.loc bw (.pair .no (.pair .no (.pair .mp .no))) a.1,.v aU a.2.1]) rfl rfl rfl
   exact e1.trans (dy (fd:=d41) (B:=aF×Int) (aq:=fun b=> [.loc bw (.pair .no (.pair .no (.pair .mp .no))) b.1,.v U2 b.2]) (dr:=fun es=>((a7 (O1 bw) (a7 (bC U2) b9)) es).map fun q=>(q.1,q.2.1)) (by intro b; kernel_rfl) (fun {R} k=>HE 2000 (sj 2000 m) (bx 2000) (bz 2000) (cd 2000) a.1 a.2.1 (fun (r0:aF) (r1:Int)=>k (r0,r1))) (fun k=>XD (sj 2000 m) (bx 2000) (bz 2000) (cd 2000) h41 h60 h73 h74 a.1 a.2.1 k))
theorem Y0:(fU (aW 2000)).holds (A (D+1)):=fun a=>(wZ rfl).trans (Ij 2000 250 a)
theorem ZA (D:Nat):(fU (aW 2000)).holds (bt table dh 2000 (D+1)):=fun a=>(wZ rfl).trans (Ij 2000 250 a)
theorem aqV (D:Nat) (x0:aF) (x1:Int):bt table dh 2000 (D+1) 73 [.at bw x0,.v U2 x1]=(bz 2000 x0 x1).bind fun b=>some [.v bh b]:=by
 have e1:=aQ (tb:=table) (pr:=dh) (N:=2000) (D:=D+0) (f:=73) (fd:=d73) (es:=[.at bw x0,.v U2 x1]) rfl rfl rfl rfl rfl
 exact e1.trans (dy (fd:=d73) (B:=ar) (aq:=fun b=> [.v bh b]) (dr:=fun es=>((a7 (bC bh) b9) es).map fun q=>(q.1)) (by intro b; kernel_rfl) (fun {R} k=>vE x0 x1 (fun (r0:ar)=>k (r0))) (fun k=>H6 x0 x1 k))
theorem ZD (D:Nat):(iH (bz 2000)).holds (bt table dh 2000 (D+1)):=fun a=>aqV D a.1 a.2.1
theorem aqY (D:Nat) (x0:aN):bt table dh 2000 (D+1) 87 [.v ay x0]=(cM 2000 x0).bind fun b=>some [.v .bool b]:=by
 have e1:=aQ (tb:=table) (pr:=dh) (N:=2000) (D:=D+0) (f:=87) (fd:=d87) (es:=[.v ay x0]) rfl rfl rfl rfl rfl
 exact e1.trans (dy (fd:=d87) (B:=Bool) (aq:=fun b=> [.v .bool b]) (dr:=fun es=>((a7 (bC .bool) b9) es).map fun q=>(q.1)) (by intro b; kernel_rfl) (fun {R} k=>qS x0 (fun (r0:Bool)=>k (r0))) (fun k=>H9 x0 k))
theorem ZG (D:Nat):(mb (cM 2000)).holds (bt table dh 2000 (D+1)):=fun a=>aqY D a.1
theorem aqU (D:Nat) (x0:ad) (x1:Int) (x2:ar) (x3:ar):bt table dh 2000 (D+2) 60 [.v ak x0,.v U2 x1,.v bh x2,.v bh x3]=(bx 2000 x0 x1 x2 x3).bind fun b=>some [.v .bool b]:=by
 have h87:(mb (cM 2000)).holds (bt table dh 2000 (D+1)):=by have:=ZG (D+0); rwa [show D+0+1=D+1 by omega] at this
 have e1:=aQ (tb:=table) (pr:=dh) (N:=2000) (D:=D+1) (f:=60) (fd:=d60) (es:=[.v ak x0,.v U2 x1,.v bh x2,.v bh x3]) rfl rfl rfl rfl rfl
 exact e1.trans (dy (fd:=d60) (B:=Bool) (aq:=fun b=> [.v .bool b]) (dr:=fun es=>((a7 (bC .bool) b9) es).map fun q=>(q.1)) (by intro b; kernel_rfl) (fun {R} k=>vp (cM 2000) x0 x1 x2 x3 (fun (r0:Bool)=>k (r0))) (fun k=>H5 (cM 2000) h87 x0 x1 x2 x3 k))
theorem ZC (D:Nat):(iG (bx 2000)).holds (bt table dh 2000 (D+2)):=fun a=>aqU D a.1 a.2.1 a.2.2.1 a.2.2.2.1
theorem aqX (D:Nat) (x0:V3) (x1:V3):bt table dh 2000 (D+1) 83 [.v .str x0,.v .str x1]=(eK 2000 x0 x1).bind fun b=>some [.v .bool b]:=by
 have e1:=aQ (tb:=table) (pr:=dh) (N:=2000) (D:=D+0) (f:=83) (fd:=d83) (es:=[.v .str x0,.v .str x1]) rfl rfl rfl rfl rfl
 exact e1.trans (dy (fd:=d83) (B:=Bool) (aq:=fun b=> [.v .bool b]) (dr:=fun es=>((a7 (bC .bool) b9) es).map fun q=>(q.1)) (by intro b; kernel_rfl) (fun {R} k=>vG x0 x1 (fun (r0:Bool)=>k (r0))) (fun k=>H8 x0 x1 k))
theorem ZF (D:Nat):(nz (eK 2000)).holds (bt table dh 2000 (D+1)):=fun a=>aqX D a.1 a.2.1
theorem aqT (D:Nat) (x0:V3) (x1:V3):bt table dh 2000 (D+2) 54 [.v .str x0,.v .str x1]=(aR 2000 x0 x1).bind fun b=>some [.v .bool b]:=by
 have h83:(nz (eK 2000)).holds (bt table dh 2000 (D+1)):=by have:=ZF (D+0); rwa [show D+0+1=D+1 by omega] at this
 have e1:=aQ (tb:=table) (pr:=dh) (N:=2000) (D:=D+1) (f:=54) (fd:=d54) (es:=[.v .str x0,.v .str x1]) rfl rfl rfl rfl rfl
 exact e1.trans (dy (fd:=d54) (B:=Bool) (aq:=fun b=> [.v .bool b]) (dr:=fun es=>((a7 (bC .bool) b9) es).map fun q=>(q.1)) (by intro b; kernel_rfl) (fun {R} k=>vc (eK 2000) x0 x1 (fun (r0:Bool)=>k (r0))) (fun k=>H4 (eK 2000) h83 x0 x1 k))
theorem ZB (D:Nat):(fO (aR 2000)).holds (bt table dh 2000 (D+2)):=fun a=>aqT D a.1 a.2.1
theorem aqW (D:Nat) (x0:aF) (x1:aY):bt table dh 2000 (D+3) 74 [.at bw x0,.v aU x1]=(cd 2000 x0 x1).bind fun b=>some [.own true 73 aU .no b]:=by
 have h54:(fO (aR 2000)).holds (bt table dh 2000 (D+2)):=by have:=ZB (D+0); rwa [show D+0+2=D+2 by omega] at this
 have h60:(iG (bx 2000)).holds (bt table dh 2000 (D+2)):=by have:=ZC (D+0); rwa [show D+0+2=D+2 by omega] at this
 have h73:(iH (bz 2000)).holds (bt table dh 2000 (D+2)):=by have:=ZD (D+1); rwa [show D+1+1=D+2 by omega] at this
 have e1:=aQ (tb:=table) (pr:=dh) (N:=2000) (D:=D+2) (f:=74) (fd:=d74) (es:=[.at bw x0,.v aU x1]) rfl rfl rfl rfl rfl
 exact e1.trans (dy (fd:=d74) (B:=bX) (aq:=fun b=> [.own true 73 aU .no b]) (dr:=fun es=>((a7 (mc aU) b9) es).map fun q=>(q.1)) (by intro b; kernel_rfl) (fun {R} k=>vF 2000 (aR 2000) (bx 2000) (bz 2000) x0 x1 (fun (r0:bX)=>k (r0))) (fun k=>H7 (aR 2000) (bx 2000) (bz 2000) h54 h60 h73 x0 x1 k))
theorem ZE (D:Nat):(jV (cd 2000)).holds (bt table dh 2000 (D+3)):=fun a=>aqW D a.1 a.2.1
theorem SS (N:Nat):∀ m,(jU (sk 2000 m)).holds (wj m)
 | 0=>fun a=>by kernel_rfl
 | m+1=>fun a=>by
   have h41:(fU (aW 2000)).holds (wj m):=wk (by decide) (ZA 3) m
   have h74:(jV (cd 2000)).holds (wj m):=wk (by decide) (ZE 1) m
   have h42:=SS 2000 m
   have e1:=UD (n:=42) (fd:=d42) (N:=2000) (base:=bt table dh 2000 4) (m:=m) (es:=[.loc bw (.pair .no (.pair .no (.pair .mp .no))) a.1,.v aU a.2.1]) rfl rfl rfl
   exact e1.trans (dy (fd:=d42) (B:=aF×V7) (aq:=fun b=> [.loc bw (.pair .no (.pair .no (.pair .mp .no))) b.1,.own true 27 U5 .no b.2]) (dr:=fun es=>((a7 (O1 bw) (a7 (mc U5) b9)) es).map fun q=>(q.1,q.2.1)) (by intro b; kernel_rfl) (fun {R} k=>HF 2000 (aW 2000) (sk 2000 m) (cd 2000) a.1 a.2.1 (fun (r0:aF) (r1:V7)=>k (r0,r1))) (fun k=>XE (aW 2000) (sk 2000 m) (cd 2000) h41 h42 h74 a.1 a.2.1 k))
theorem Y1:(jU (bI 2000)).holds (A (D+1)):=fun a=>(wZ rfl).trans (SS 2000 250 a)
theorem SG:(sT (dY 2000)).holds (A (D+1)):=fun (x0,x1,_)=>.trans (aQ (fd:=d38) rfl rfl rfl rfl rfl) (q3 (fun {R} k=>HC 2000 x0 x1 k) (fun k=>XB x0 x1 k))
theorem Zf:(F3 (hQ 2000)).holds (A (D+1)):=fun (x0,_)=>.trans (aQ (fd:=d77) rfl rfl rfl rfl rfl) (q2 (fun {R} k=>HR x0 k) (fun k=>XX x0 k))
theorem SI:(mK (cq 2000)).holds (A (D+2)):=fun (x0,x1,_)=>.trans (aQ (fd:=d46) rfl rfl rfl rfl rfl) (q3 (fun {R} k=>HI (hQ 2000) x0 x1 k) (fun k=>XH _ (Zf D) x0 x1 k))
theorem Y5:(FY (iD 2000)).holds (A (D+3)):=fun (x0,x1,_)=>.trans (aQ (fd:=d47) rfl rfl rfl rfl rfl) (q3 (fun {R} k=>HJ 2000 (cq 2000) x0 x1 k) (fun k=>XI _ (SI D) x0 x1 k))
theorem Y4:(FX (iC 2000)).holds (A (D+1)):=fun (x0,_)=>.trans (aQ (fd:=d45) rfl rfl rfl rfl rfl) (q3 (fun {R} k=>HH 2000 x0 k) (fun k=>XG x0 k))
theorem Y3:(FW (iB 2000)).holds (A (D+4)):=fun (x0,x1,x2,_)=>.trans (aQ (fd:=d44) rfl rfl rfl rfl rfl) (q3 (fun {R} k=>HG (dY 2000) (iC 2000) (cq 2000) (iD 2000) x0 x1 x2 k) (fun k=>XF _ _ _ _ (SG (D+2)) (Y4 (D+2)) (SI (D+1)) (Y5 D) x0 x1 x2 k))
theorem SD:(sR (dP 2000)).holds (A (D+10)):=fun (x0,x1,_)=>.trans (aQ (fd:=d16) rfl rfl rfl rfl rfl) (q15 (fun {R} k=>g16 (dt 2000) (aW 2000) (bI 2000) (eJ 2000) (iB 2000) x0 x1 (fun r0 r1=>k (r0,r1))) (fun k=>Xn _ _ _ _ _ (SH D) (Y0 (D+8)) (Y1 (D+8)) (Y2 (D+8)) (Y3 (D+5)) x0 x1 k))
theorem Yu:(FB (gY 2000)).holds (A (D+11)):=fun (x0,x1,_)=>.trans (aQ (fd:=d13) rfl rfl rfl rfl rfl) (q16 (fun {R} k=>g13 (dP 2000) (dY 2000) x0 x1 (fun r0 r1 r2=>k (r0,r1,r2))) (fun k=>W1 _ _ (SD D) (SG (D+9)) x0 x1 k))
theorem SK:(sU (dT 2000)).holds (A (D+2)):=fun (x0,x1,_)=>.trans (aQ (fd:=d57) rfl rfl rfl rfl rfl) (q17 (fun {R} k=>qI 2000 (ct 2000) (dH 2000) x0 x1 (fun r0 r1=>k (r0,r1))) (fun k=>XM _ _ (Zh D) (Zi D) x0 x1 k))
theorem Ih:(l9 (bP 2000)).holds (A (D+9)):=fun (x0,x1,_)=>.trans (aQ (fd:=d55) rfl rfl rfl rfl rfl) (q3 (fun {R} k=>Av (dT 2000) (dU 2000) x0 x1 k) (fun k=>XK _ _ (SK (D+6)) (SM D) x0 x1 k))
theorem SE:(sS (dQ 2000)).holds (A (D+10)):=fun (x0,x1,_)=>.trans (aQ (fd:=d24) rfl rfl rfl rfl rfl) (UC (fun {R} k=>g24 2000 (bP 2000) x0 x1 (fun r0 r1=>k (r0,r1))) (fun k=>Xt _ (Ih D) x0 x1 k))
theorem YR:(FN (hP 2000)).holds (A (D+10)):=fun (x0,x1,_)=>.trans (aQ (fd:=d20) rfl rfl rfl rfl rfl) (q8 (fun {R} k=>g20 2000 (dt 2000) (aR 2000) x0 x1 (fun r0 r1=>k (r0,r1))) (fun k=>Xq _ _ (SH D) (SJ (D+7)) x0 x1 k))
theorem Y6:(p7 (du 2000)).holds (A (D+1)):=fun (x0,x1,_)=>.trans (aQ (fd:=d53) rfl rfl rfl rfl rfl) (q2 (fun {R} k=>HK 2000 x0 x1 k) (fun k=>XJ x0 x1 k))
theorem YQ:(FM (hN 2000)).holds (A (D+2)):=fun (x0,x1,_)=>.trans (aQ (fd:=d19) rfl rfl rfl rfl rfl) (q2 (fun {R} k=>g19 2000 (du 2000) x0 x1 k) (fun k=>Xp _ (Y6 D) x0 x1 k))
theorem SC:(sQ (dO 2000)).holds (A (D+1)):=fun (x0,x1,_)=>.trans (aQ (fd:=d15) rfl rfl rfl rfl rfl) (q2 (fun {R} k=>g15 2000 x0 x1 k) (fun k=>Xe x0 x1 k))
theorem Zt {cl:az} (S:Option (Bool)) (h:cl.run 11 []=S.bind fun b=>some [.v .bool b]):(zj S).holds cl:=fun _=>h
theorem Ye:(zj (fL 2000)).holds (A (D+12)):=Zt (fL 2000) ((aQ (fd:=d11) rfl rfl rfl rfl rfl).trans (q2 (fun {R} k=>g11 (gY 2000) (dO 2000) (dP 2000) (hN 2000) (hP 2000) (dQ 2000) (gI 2000) k) (fun k=>WI _ _ _ _ _ _ _ (Yu D) (SC (D+10)) (SD (D+1)) (YQ (D+9)) (YR (D+1)) (SE (D+1)) (YZ (D+4)) k)))
theorem Zb:(p9 (cZ 2000)).holds (A (D+1)):=fun (x0,x1,_)=>.trans (aQ (fd:=d66) rfl rfl rfl rfl rfl) (q2 (fun {R} k=>oF 2000 x0 x1 k) (fun k=>XQ x0 x1 k))
theorem YX:(FU (gG 2000)).holds (A (D+2)):=fun (x0,_)=>.trans (aQ (fd:=d34) rfl rfl rfl rfl rfl) (q2 (fun {R} k=>qH 2000 (cZ 2000) x0 k) (fun k=>Xy _ (Zb D) x0 k))
theorem Yl:(Fv (gn 2000)).holds (A (D+3)):=fun (x0,x1,x2,_)=>.trans (aQ (fd:=d12) rfl rfl rfl rfl rfl) (q2 (fun {R} k=>g12 (gG 2000) x0 x1 x2 k) (fun k=>WR _ (YX D) x0 x1 x2 k))
theorem YS:(FO (gA 2000)).holds (A (D+10)):=fun (x0,x1,_)=>.trans (aQ (fd:=d22) rfl rfl rfl rfl rfl) (q5 (fun {R} k=>g22 2000 (bP 2000) x0 x1 (fun r0 r1=>k (r0,r1))) (fun k=>Xr _ (Ih D) x0 x1 k))
theorem YY:(FV (gH 2000)).holds (A (D+5)):=fun (x0,_)=>.trans (aQ (fd:=d35) rfl rfl rfl rfl rfl) (q3 (fun {R} k=>Au (dd 2000) x0 k) (fun k=>Xz _ (SL D) x0 k))
theorem Za:(F0 (gK 2000)).holds (A (D+1)):=fun (x0,x1,_)=>.trans (aQ (fd:=d61) rfl rfl rfl rfl rfl) (q3 (fun {R} k=>qK 2000 x0 x1 k) (fun k=>XP x0 x1 k))
theorem Ii:(ma (bQ 2000)).holds (A (D+6)):=fun (x0,x1,_)=>.trans (aQ (fd:=d56) rfl rfl rfl rfl rfl) (q3 (fun {R} k=>Aw (gH 2000) (gK 2000) x0 x1 k) (fun k=>XL _ _ (YY D) (Za (D+4)) x0 x1 k))
theorem YT:(FP (gB 2000)).holds (A (D+7)):=fun (x0,x1,_)=>.trans (aQ (fd:=d23) rfl rfl rfl rfl rfl) (q5 (fun {R} k=>g23 2000 (bQ 2000) x0 x1 (fun r0 r1=>k (r0,r1))) (fun k=>Xs _ (Ii D) x0 x1 k))
theorem YU:(FQ (gC 2000)).holds (A (D+7)):=fun (x0,x1,_)=>.trans (aQ (fd:=d25) rfl rfl rfl rfl rfl) (UC (fun {R} k=>mO 2000 (bQ 2000) x0 x1 (fun r0 r1=>k (r0,r1))) (fun k=>Xu _ (Ii D) x0 x1 k))
theorem YV:(FR (gD 2000)).holds (A (D+10)):=fun (x0,x1,_)=>.trans (aQ (fd:=d26) rfl rfl rfl rfl rfl) (I9 (fun {R} k=>Ar (bP 2000) (dT 2000) x0 x1 (fun r0 r1=>k (r0,r1))) (fun k=>Xv _ _ (Ih D) (SK (D+7)) x0 x1 k))
theorem Y7:(FZ (gJ 2000)).holds (A (D+1)):=fun (x0,x1,_)=>.trans (aQ (fd:=d58) rfl rfl rfl rfl rfl) (q1 (fun {R} k=>qJ 2000 x0 x1 k) (fun k=>XN x0 x1 k))
theorem YW:(FT (gF 2000)).holds (A (D+7)):=fun (x0,x1,_)=>.trans (aQ (fd:=d27) rfl rfl rfl rfl rfl) (I9 (fun {R} k=>As (bQ 2000) (gJ 2000) x0 x1 (fun r0 r1=>k (r0,r1))) (fun k=>Xw _ _ (Ii D) (Y7 (D+5)) x0 x1 k))
theorem va7 (D:Nat) (x0:ad) (x1:V0):bt table j8 2000 (D+13) 7 [.v ak x0,.v U5 x1]=(S7 2000 x0 x1).bind fun b=>some [.v .bool b]:=(aQ (fd:=d7) rfl rfl rfl rfl rfl).trans (q2 (fun {R} k=>g7 (fL 2000) (gn 2000) (dO 2000) (gA 2000) (gB 2000) (dQ 2000) (gC 2000) (gD 2000) (gF 2000) (bl 2000) x0 x1 k) (fun k=>XT _ _ _ _ _ _ _ _ _ _ (Ye D) (Yl (D+9)) (SC (D+11)) (YS (D+2)) (YT (D+5)) (SE (D+2)) (YU (D+5)) (YV (D+2)) (YW (D+5)) (SF (D+9)) x0 x1 k))
end Go.Fw.L19
