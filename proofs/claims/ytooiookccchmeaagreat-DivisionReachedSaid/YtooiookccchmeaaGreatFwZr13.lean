/- Own work. -/
import Derived.Test.YtooiookccchmeaaGreatFwMr13
import Derived.Test.YtooiookccchmeaaGreatFwB6
set_option linter.unusedVariables false
set_option linter.unusedSimpArgs false
namespace Go.Fw.L19
open Go Go.Fw
set_option maxRecDepth 100000
abbrev A (D:Nat):az:=bD table kJ 2000 D
theorem q0 {cl:az} {N:Nat} {fd:FD} {env:Env} (g:{R:Type}→(aE→Option R)→Option R) (hg:∀ {R:Type} (k:List E→Option R),exec cl N fd.body env (fun e env=>(ag fd e env).bind k)=g (fun b=>k [.own true 9 .str .no b])):exec cl N fd.body env (ag fd)=(g some).bind fun b=>some [.own true 9 .str .no b]:=dF (dr:=fun es=>((bc (kZ .str) ck) es).map fun q=>(q.1)) (by intro b; kernel_rfl) g hg
theorem q1 {cl:az} {N:Nat} {fd:FD} {env:Env} (g:{R:Type}→(V3→Option R)→Option R) (hg:∀ {R:Type} (k:List E→Option R),exec cl N fd.body env (fun e env=>(ag fd e env).bind k)=g (fun b=>k [.v .str b])):exec cl N fd.body env (ag fd)=(g some).bind fun b=>some [.v .str b]:=dF (dr:=fun es=>((bc (bL .str) ck) es).map fun q=>(q.1)) (by intro b; kernel_rfl) g hg
theorem q2 {cl:az} {N:Nat} {fd:FD} {env:Env} (g:{R:Type}→(Bool→Option R)→Option R) (hg:∀ {R:Type} (k:List E→Option R),exec cl N fd.body env (fun e env=>(ag fd e env).bind k)=g (fun b=>k [.v .bool b])):exec cl N fd.body env (ag fd)=(g some).bind fun b=>some [.v .bool b]:=dF (dr:=fun es=>((bc (bL .bool) ck) es).map fun q=>(q.1)) (by intro b; kernel_rfl) g hg
theorem q3 {cl:az} {N:Nat} {fd:FD} {env:Env} (g:{R:Type}→(Int→Option R)→Option R) (hg:∀ {R:Type} (k:List E→Option R),exec cl N fd.body env (fun e env=>(ag fd e env).bind k)=g (fun b=>k [.v U2 b])):exec cl N fd.body env (ag fd)=(g some).bind fun b=>some [.v U2 b]:=dF (dr:=fun es=>((bc (bL U2) ck) es).map fun q=>(q.1)) (by intro b; kernel_rfl) g hg
theorem q4 {cl:az} {N:Nat} {fd:FD} {env:Env} (g:{R:Type}→(aR×Bool→Option R)→Option R) (hg:∀ {R:Type} (k:List E→Option R),exec cl N fd.body env (fun e env=>(ag fd e env).bind k)=g (fun b=>k [.v aC b.1,.v .bool b.2])):exec cl N fd.body env (ag fd)=(g some).bind fun b=>some [.v aC b.1,.v .bool b.2]:=dF (dr:=fun es=>((bc (bL aC) (bc (bL .bool) ck)) es).map fun q=>(q.1,q.2.1)) (by intro b; kernel_rfl) g hg
theorem q5 {cl:az} {N:Nat} {fd:FD} {env:Env} (g:{R:Type}→(aA×Int→Option R)→Option R) (hg:∀ {R:Type} (k:List E→Option R),exec cl N fd.body env (fun e env=>(ag fd e env).bind k)=g (fun b=>k [.own true 40 aC .no b.1,.v U2 b.2])):exec cl N fd.body env (ag fd)=(g some).bind fun b=>some [.own true 40 aC .no b.1,.v U2 b.2]:=dF (dr:=fun es=>((bc (kZ aC) (bc (bL U2) ck)) es).map fun q=>(q.1,q.2.1)) (by intro b; kernel_rfl) g hg
theorem q6 {cl:az} {N:Nat} {fd:FD} {env:Env} (g:{R:Type}→(Int×Bool→Option R)→Option R) (hg:∀ {R:Type} (k:List E→Option R),exec cl N fd.body env (fun e env=>(ag fd e env).bind k)=g (fun b=>k [.v U2 b.1,.v .bool b.2])):exec cl N fd.body env (ag fd)=(g some).bind fun b=>some [.v U2 b.1,.v .bool b.2]:=dF (dr:=fun es=>((bc (bL U2) (bc (bL .bool) ck)) es).map fun q=>(q.1,q.2.1)) (by intro b; kernel_rfl) g hg
theorem q7 {cl:az} {N:Nat} {fd:FD} {env:Env} (g:{R:Type}→(aV×Bool→Option R)→Option R) (hg:∀ {R:Type} (k:List E→Option R),exec cl N fd.body env (fun e env=>(ag fd e env).bind k)=g (fun b=>k [.v aH b.1,.v .bool b.2])):exec cl N fd.body env (ag fd)=(g some).bind fun b=>some [.v aH b.1,.v .bool b.2]:=dF (dr:=fun es=>((bc (bL aH) (bc (bL .bool) ck)) es).map fun q=>(q.1,q.2.1)) (by intro b; kernel_rfl) g hg
theorem q8 {cl:az} {N:Nat} {fd:FD} {env:Env} (g:{R:Type}→(Int×Int→Option R)→Option R) (hg:∀ {R:Type} (k:List E→Option R),exec cl N fd.body env (fun e env=>(ag fd e env).bind k)=g (fun b=>k [.v U2 b.1,.v U2 b.2])):exec cl N fd.body env (ag fd)=(g some).bind fun b=>some [.v U2 b.1,.v U2 b.2]:=dF (dr:=fun es=>((bc (bL U2) (bc (bL U2) ck)) es).map fun q=>(q.1,q.2.1)) (by intro b; kernel_rfl) g hg
theorem q9 {cl:az} {N:Nat} {fd:FD} {env:Env} (g:{R:Type}→(ae×Int×Int→Option R)→Option R) (hg:∀ {R:Type} (k:List E→Option R),exec cl N fd.body env (fun e env=>(ag fd e env).bind k)=g (fun b=>k [.v ar b.1,.v U2 b.2.1,.v U2 b.2.2])):exec cl N fd.body env (ag fd)=(g some).bind fun b=>some [.v ar b.1,.v U2 b.2.1,.v U2 b.2.2]:=dF (dr:=fun es=>((bc (bL ar) (bc (bL U2) (bc (bL U2) ck))) es).map fun q=>(q.1,q.2.1,q.2.2.1)) (by intro b; kernel_rfl) g hg
theorem q10 {cl:az} {N:Nat} {fd:FD} {env:Env} (g:{R:Type}→(ae→Option R)→Option R) (hg:∀ {R:Type} (k:List E→Option R),exec cl N fd.body env (fun e env=>(ag fd e env).bind k)=g (fun b=>k [.v ar b])):exec cl N fd.body env (ag fd)=(g some).bind fun b=>some [.v ar b]:=dF (dr:=fun es=>((bc (bL ar) ck) es).map fun q=>(q.1)) (by intro b; kernel_rfl) g hg
theorem q11 {cl:az} {N:Nat} {fd:FD} {env:Env} (g:{R:Type}→(gi×Int→Option R)→Option R) (hg:∀ {R:Type} (k:List E→Option R),exec cl N fd.body env (fun e env=>(ag fd e env).bind k)=g (fun b=>k [.own true 179 dX .no b.1,.v U2 b.2])):exec cl N fd.body env (ag fd)=(g some).bind fun b=>some [.own true 179 dX .no b.1,.v U2 b.2]:=dF (dr:=fun es=>((bc (kZ dX) (bc (bL U2) ck)) es).map fun q=>(q.1,q.2.1)) (by intro b; kernel_rfl) g hg
theorem q12 {cl:az} {N:Nat} {fd:FD} {env:Env} (g:{R:Type}→(V3×Int→Option R)→Option R) (hg:∀ {R:Type} (k:List E→Option R),exec cl N fd.body env (fun e env=>(ag fd e env).bind k)=g (fun b=>k [.v .str b.1,.v U2 b.2])):exec cl N fd.body env (ag fd)=(g some).bind fun b=>some [.v .str b.1,.v U2 b.2]:=dF (dr:=fun es=>((bc (bL .str) (bc (bL U2) ck)) es).map fun q=>(q.1,q.2.1)) (by intro b; kernel_rfl) g hg
theorem q13 {cl:az} {N:Nat} {fd:FD} {env:Env} (g:{R:Type}→(aA→Option R)→Option R) (hg:∀ {R:Type} (k:List E→Option R),exec cl N fd.body env (fun e env=>(ag fd e env).bind k)=g (fun b=>k [.v bp b])):exec cl N fd.body env (ag fd)=(g some).bind fun b=>some [.v bp b]:=dF (dr:=fun es=>((bc (bL bp) ck) es).map fun q=>(q.1)) (by intro b; kernel_rfl) g hg
theorem q14 {cl:az} {N:Nat} {fd:FD} {env:Env} (g:{R:Type}→(bZ→Option R)→Option R) (hg:∀ {R:Type} (k:List E→Option R),exec cl N fd.body env (fun e env=>(ag fd e env).bind k)=g (fun b=>k [.own true 73 aY .no b])):exec cl N fd.body env (ag fd)=(g some).bind fun b=>some [.own true 73 aY .no b]:=dF (dr:=fun es=>((bc (kZ aY) ck) es).map fun q=>(q.1)) (by intro b; kernel_rfl) g hg
theorem q15 {cl:az} {N:Nat} {fd:FD} {env:Env} (g:{R:Type}→(V8×Int→Option R)→Option R) (hg:∀ {R:Type} (k:List E→Option R),exec cl N fd.body env (fun e env=>(ag fd e env).bind k)=g (fun b=>k [.own true 27 U5 .no b.1,.v U2 b.2])):exec cl N fd.body env (ag fd)=(g some).bind fun b=>some [.own true 27 U5 .no b.1,.v U2 b.2]:=dF (dr:=fun es=>((bc (kZ U5) (bc (bL U2) ck)) es).map fun q=>(q.1,q.2.1)) (by intro b; kernel_rfl) g hg
theorem q16 {cl:az} {N:Nat} {fd:FD} {env:Env} (g:{R:Type}→(V0×Int×Int→Option R)→Option R) (hg:∀ {R:Type} (k:List E→Option R),exec cl N fd.body env (fun e env=>(ag fd e env).bind k)=g (fun b=>k [.v U5 b.1,.v U2 b.2.1,.v U2 b.2.2])):exec cl N fd.body env (ag fd)=(g some).bind fun b=>some [.v U5 b.1,.v U2 b.2.1,.v U2 b.2.2]:=dF (dr:=fun es=>((bc (bL U5) (bc (bL U2) (bc (bL U2) ck))) es).map fun q=>(q.1,q.2.1,q.2.2.1)) (by intro b; kernel_rfl) g hg
theorem q17 {cl:az} {N:Nat} {fd:FD} {env:Env} (g:{R:Type}→(V3×Bool→Option R)→Option R) (hg:∀ {R:Type} (k:List E→Option R),exec cl N fd.body env (fun e env=>(ag fd e env).bind k)=g (fun b=>k [.v .str b.1,.v .bool b.2])):exec cl N fd.body env (ag fd)=(g some).bind fun b=>some [.v .str b.1,.v .bool b.2]:=dF (dr:=fun es=>((bc (bL .str) (bc (bL .bool) ck)) es).map fun q=>(q.1,q.2.1)) (by intro b; kernel_rfl) g hg
theorem q18 {cl:az} {N:Nat} {fd:FD} {env:Env} (g:{R:Type}→(V0×Int→Option R)→Option R) (hg:∀ {R:Type} (k:List E→Option R),exec cl N fd.body env (fun e env=>(ag fd e env).bind k)=g (fun b=>k [.own true 3 U2 .no b.1,.v U2 b.2])):exec cl N fd.body env (ag fd)=(g some).bind fun b=>some [.own true 3 U2 .no b.1,.v U2 b.2]:=dF (dr:=fun es=>((bc (kZ U2) (bc (bL U2) ck)) es).map fun q=>(q.1,q.2.1)) (by intro b; kernel_rfl) g hg
theorem q19 {cl:az} {N:Nat} {fd:FD} {env:Env} (g:{R:Type}→(V0→Option R)→Option R) (hg:∀ {R:Type} (k:List E→Option R),exec cl N fd.body env (fun e env=>(ag fd e env).bind k)=g (fun b=>k [.own true 3 U2 .no b])):exec cl N fd.body env (ag fd)=(g some).bind fun b=>some [.own true 3 U2 .no b]:=dF (dr:=fun es=>((bc (kZ U2) ck) es).map fun q=>(q.1)) (by intro b; kernel_rfl) g hg
variable (D:Nat)
theorem Z4:(jM (eL 2000)).holds (A (D+1)):=Db rfl (by intro a; kernel_rfl)
theorem aam:(im (cD 2000)).holds (A (D+1)):=Db rfl (by intro a; kernel_rfl)
theorem aan:(jm (dW 2000)).holds (A (D+1)):=Db rfl (by intro a; kernel_rfl)
theorem ZH:(j6 (ff 2000)).holds (A (D+1)):=Db rfl (by intro a; kernel_rfl)
theorem aas:(BR (fV 2000)).holds (A (D+1)):=fun (x0,_)=>.trans (aU (fd:=d92) rfl rfl rfl rfl rfl) (q0 (fun {R} k=>Ke 2000 x0 k) (fun k=>Y4 x0 k))
theorem TE:(kY (bN 2000)).holds (A (D+1)):=fun (x0,_)=>.trans (aU (fd:=d93) rfl rfl rfl rfl rfl) (q0 (fun {R} k=>Kf 2000 x0 k) (fun k=>Y5 x0 k))
theorem ZA:(BJ (fT 2000)).holds (A (D+1)):=fun (x0,_)=>.trans (aU (fd:=d138) rfl rfl rfl rfl rfl) (q0 (fun {R} k=>JA 2000 x0 k) (fun k=>Yb x0 k))
theorem aaz {cl:az} (S:Option V7) (h:cl.run 148 []=S.bind fun b=>some [.v .str b]):(oH S).holds cl:=fun _=>h
theorem ZI:(oH (dy 2000)).holds (A (D+1)):=aaz (dy 2000) ((aU (fd:=d148) rfl rfl rfl rfl rfl).trans (q1 (fun {R} k=>JG (fun r0=>k (r0))) (fun k=>Yi k)))
theorem Zj:(BE (ft 2000)).holds (A (D+1)):=fun (x0,_)=>.trans (aU (fd:=d114) rfl rfl rfl rfl rfl) (q2 (fun {R} k=>Ce x0 k) (fun k=>XS x0 k))
theorem Zz:(rB (dt 2000)).holds (A (D+1)):=fun (x0,_)=>.trans (aU (fd:=d137) rfl rfl rfl rfl rfl) (q2 (fun {R} k=>Cl x0 k) (fun k=>Ya x0 k))
theorem Tt:(mI (bM 2000)).holds (A (D+2)):=fun (x0,_)=>.trans (aU (fd:=d117) rfl rfl rfl rfl rfl) (q3 (fun {R} k=>sc 2000 (dt 2000) x0 k) (fun k=>XV _ (Zz D) x0 k))
theorem ZB:(rC (dK 2000)).holds (A (D+3)):=fun (x0,_)=>.trans (aU (fd:=d139) rfl rfl rfl rfl rfl) (q4 (fun {R} k=>JB 2000 (ft 2000) (bM 2000) (dy 2000) x0 (fun r0 r1=>k (r0,r1))) (fun k=>Yc _ _ _ (Zj (D+1)) (Tt D) (ZI (D+1)) x0 k))
theorem Zm:(BG (fR 2000)).holds (A (D+4)):=fun (x0,_)=>.trans (aU (fd:=d118) rfl rfl rfl rfl rfl) (q5 (fun {R} k=>Jn 2000 (fT 2000) (dK 2000) x0 (fun r0 r1=>k (r0,r1))) (fun k=>XW _ _ (ZA (D+2)) (ZB D) x0 k))
theorem Tu:(kz (bw 2000)).holds (A (D+1)):=fun (x0,_)=>.trans (aU (fd:=d136) rfl rfl rfl rfl rfl) (q2 (fun {R} k=>Ck x0 k) (fun k=>X9 x0 k))
theorem ZC:(BK (fU 2000)).holds (A (D+2)):=fun (x0,_)=>.trans (aU (fd:=d140) rfl rfl rfl rfl rfl) (q3 (fun {R} k=>JD 2000 (bw 2000) x0 k) (fun k=>Yd _ (Tu D) x0 k))
theorem Zn:(BH (fS 2000)).holds (A (D+3)):=fun (x0,_)=>.trans (aU (fd:=d119) rfl rfl rfl rfl rfl) (q6 (fun {R} k=>Jo 2000 (fU 2000) x0 (fun r0 r1=>k (r0,r1))) (fun k=>XX _ (ZC D) x0 k))
theorem Zp:(ru (dJ 2000)).holds (A (D+1)):=fun (x0,_)=>.trans (aU (fd:=d120) rfl rfl rfl rfl rfl) (q1 (fun {R} k=>Jq x0 k) (fun k=>XZ x0 k))
theorem aat:(oM (cV 2000)).holds (A (D+5)):=fun (x0,_)=>.trans (aU (fd:=d94) rfl rfl rfl rfl rfl) (q7 (fun {R} k=>Kg 2000 (bN 2000) (fR 2000) (fS 2000) (dJ 2000) x0 (fun r0 r1=>k (r0,r1))) (fun k=>Y6 _ _ _ _ (TE (D+3)) (Zm D) (Zn (D+1)) (Zp (D+3)) x0 k))
theorem Zy:(oG (cF 2000)).holds (A (D+1)):=fun (x0,_)=>.trans (aU (fd:=d135) rfl rfl rfl rfl rfl) (q2 (fun {R} k=>Cj x0 k) (fun k=>X8 x0 k))
theorem Zk:(HO (gS 2000)).holds (A (D+2)):=fun (x0,_)=>.trans (aU (fd:=d115) rfl rfl rfl rfl rfl) (q3 (fun {R} k=>r9 2000 (cF 2000) (bw 2000) x0 k) (fun k=>XT _ _ (Zy D) (Tu D) x0 k))
theorem aaq:(BQ (eZ 2000)).holds (A (D+3)):=fun (x0,_)=>.trans (aU (fd:=d90) rfl rfl rfl rfl rfl) (q2 (fun {R} k=>CK (gS 2000) x0 k) (fun k=>Y2 _ (Zk D) x0 k))
theorem Ts:(ky (bu 2000)).holds (A (D+1)):=fun (x0,_)=>.trans (aU (fd:=d111) rfl rfl rfl rfl rfl) (q2 (fun {R} k=>Jl 2000 x0 k) (fun k=>XR x0 k))
theorem Zl:(BF (fu 2000)).holds (A (D+2)):=fun (x0,_)=>.trans (aU (fd:=d116) rfl rfl rfl rfl rfl) (q3 (fun {R} k=>sa 2000 (bu 2000) x0 k) (fun k=>XU _ (Ts D) x0 k))
theorem aar:(oL (cJ 2000)).holds (A (D+3)):=fun (x0,_)=>.trans (aU (fd:=d91) rfl rfl rfl rfl rfl) (q3 (fun {R} k=>sS 2000 (fu 2000) (bM 2000) x0 k) (fun k=>Y3 _ _ (Zl D) (Tt D) x0 k))
theorem aao:(Il (gJ 2000)).holds (A (D+1)):=fun (x0,x1,_)=>.trans (aU (fd:=d86) rfl rfl rfl rfl rfl) (q3 (fun {R} k=>CJ x0 x1 k) (fun k=>Y1 x0 x1 k))
theorem aad:(rH (dv 2000)).holds (A (D+2)):=fun (x0,x1,_)=>.trans (aU (fd:=d59) rfl rfl rfl rfl rfl) (q3 (fun {R} k=>CG (gJ 2000) x0 x1 k) (fun k=>YS _ (aao D) x0 x1 k))
theorem ZY:(mJ (bK 2000)).holds (A (D+3)):=fun (x0,x1,_)=>.trans (aU (fd:=d28) rfl rfl rfl rfl rfl) (q2 (fun {R} k=>sn 2000 (dv 2000) x0 x1 k) (fun k=>YA _ (aad D) x0 x1 k))
theorem TB:(rJ (dD 2000)).holds (A (D+4)):=fun (x0,_)=>.trans (aU (fd:=d67) rfl rfl rfl rfl rfl) (q8 (fun {R} k=>nP 2000 (bK 2000) (eZ 2000) (cJ 2000) x0 (fun r0 r1=>k (r0,r1))) (fun k=>YU _ _ _ (ZY D) (aaq D) (aar D) x0 k))
theorem aag:(Ih (jj 2000)).holds (A (D+6)):=fun (x0,_)=>.trans (aU (fd:=d69) rfl rfl rfl rfl rfl) (q9 (fun {R} k=>J6 2000 (dD 2000) (fV 2000) (bN 2000) (cV 2000) x0 (fun r0 r1 r2=>k (r0,r1,r2))) (fun k=>YV _ _ _ _ (TB (D+1)) (aas (D+4)) (TE (D+4)) (aat D) x0 k))
theorem aaA {cl:az} (S:Option ug) (h:cl.run 37 []=S.bind fun b=>some [.v ar b]):(BN S).holds cl:=fun _=>h
theorem Z1:(BN (hZ 2000)).holds (A (D+7)):=aaA (hZ 2000) ((aU (fd:=d37) rfl rfl rfl rfl rfl).trans (q10 (fun {R} k=>JR (jj 2000) k) (fun k=>YD _ (aag D) k)))
theorem ZJ:(oI (cI 2000)).holds (A (D+1)):=fun (x0,_)=>.trans (aU (fd:=d149) rfl rfl rfl rfl rfl) (q2 (fun {R} k=>Ct x0 k) (fun k=>Yj x0 k))
theorem ZL:(rE (dh 2000)).holds (A (D+1)):=fun (x0,_)=>.trans (aU (fd:=d150) rfl rfl rfl rfl rfl) (q2 (fun {R} k=>Cu x0 k) (fun k=>Yl x0 k))
theorem ZD:(HU (gV 2000)).holds (A (D+2)):=fun (x0,_)=>.trans (aU (fd:=d141) rfl rfl rfl rfl rfl) (q3 (fun {R} k=>v7 2000 (cI 2000) (dh 2000) x0 k) (fun k=>Ye _ _ (ZJ D) (ZL D) x0 k))
theorem Zq:(BI (fe 2000)).holds (A (D+3)):=fun (x0,_)=>.trans (aU (fd:=d121) rfl rfl rfl rfl rfl) (q2 (fun {R} k=>Cf (gV 2000) x0 k) (fun k=>X0 _ (ZD D) x0 k))
theorem TD:(uP (ep 2000)).holds (A (D+1)):=fun (x0,_)=>.trans (aU (fd:=d72) rfl rfl rfl rfl rfl) (q1 (fun {R} k=>sN 2000 x0 k) (fun k=>YY x0 k))
theorem ZR:(BM (fw 2000)).holds (A (D+1)):=fun (x0,_)=>.trans (aU (fd:=d158) rfl rfl rfl rfl rfl) (q3 (fun {R} k=>sj 2000 x0 k) (fun k=>Yr x0 k))
theorem Zw:(HS (ji 2000)).holds (A (D+2)):=fun (x0,x1,_)=>.trans (aU (fd:=d127) rfl rfl rfl rfl rfl) (q3 (fun {R} k=>Ju (ff 2000) x0 x1 k) (fun k=>X6 _ (ZH D) x0 x1 k))
theorem TF:(nz (ca 2000)).holds (A (D+3)):=fun (x0,_)=>.trans (aU (fd:=d98) rfl rfl rfl rfl rfl) (q2 (fun {R} k=>Kj (ji 2000) x0 k) (fun k=>Za _ (Zw D) x0 k))
theorem ZM:(HX (iL 2000)).holds (A (D+4)):=fun (x0,_)=>.trans (aU (fd:=d151) rfl rfl rfl rfl rfl) (q11 (fun {R} k=>si 2000 (ca 2000) (fw 2000) x0 (fun r0 r1=>k (r0,r1))) (fun k=>Ym _ _ (TF D) (ZR (D+2)) x0 k))
theorem ZE:(BL (fv 2000)).holds (A (D+5)):=fun (x0,_)=>.trans (aU (fd:=d142) rfl rfl rfl rfl rfl) (q3 (fun {R} k=>Cr (ep 2000) (iL 2000) x0 k) (fun k=>Yf _ _ (TD (D+3)) (ZM D) x0 k))
theorem ZN:(HY (gW 2000)).holds (A (D+1)):=fun (x0,_)=>.trans (aU (fd:=d152) rfl rfl rfl rfl rfl) (q2 (fun {R} k=>Cv x0 k) (fun k=>Yn x0 k))
theorem ZQ:(H2 (gZ 2000)).holds (A (D+1)):=fun (x0,_)=>.trans (aU (fd:=d155) rfl rfl rfl rfl rfl) (q2 (fun {R} k=>Cy x0 k) (fun k=>Yq x0 k))
theorem ZP:(H0 (gY 2000)).holds (A (D+2)):=fun (x0,_)=>.trans (aU (fd:=d154) rfl rfl rfl rfl rfl) (q2 (fun {R} k=>Cx (gZ 2000) x0 k) (fun k=>Yp _ (ZQ D) x0 k))
theorem ZT:(H4 (hP 2000)).holds (A (D+1)):=fun (x0,x1,x2,_)=>.trans (aU (fd:=d160) rfl rfl rfl rfl rfl) (q3 (fun {R} k=>sk 2000 x0 x1 x2 k) (fun k=>Yu x0 x1 x2 k))
theorem ZS:(H3 (hN 2000)).holds (A (D+2)):=fun (x0,x1,_)=>.trans (aU (fd:=d159) rfl rfl rfl rfl rfl) (q3 (fun {R} k=>Cz (hP 2000) x0 x1 k) (fun k=>Ys _ (ZT D) x0 x1 k))
theorem ZO:(HZ (gX 2000)).holds (A (D+3)):=fun (x0,x1,_)=>.trans (aU (fd:=d153) rfl rfl rfl rfl rfl) (q2 (fun {R} k=>Cw (hN 2000) x0 x1 k) (fun k=>Yo _ (ZS D) x0 x1 k))
theorem ZF:(rD (du 2000)).holds (A (D+4)):=fun (x0,_)=>.trans (aU (fd:=d143) rfl rfl rfl rfl rfl) (q3 (fun {R} k=>Cs (gW 2000) (gX 2000) (gY 2000) x0 k) (fun k=>Yg _ _ _ (ZN (D+2)) (ZO D) (ZP (D+1)) x0 k))
theorem Zr:(ry (de 2000)).holds (A (D+6)):=fun (x0,_)=>.trans (aU (fd:=d122) rfl rfl rfl rfl rfl) (q3 (fun {R} k=>sd 2000 (fv 2000) (du 2000) x0 k) (fun k=>X1 _ _ (ZE D) (ZF (D+1)) x0 k))
theorem Zu:(HQ (gU 2000)).holds (A (D+1)):=fun (x0,x1,_)=>.trans (aU (fd:=d125) rfl rfl rfl rfl rfl) (q2 (fun {R} k=>se 2000 x0 x1 k) (fun k=>X4 x0 x1 k))
theorem Zt:(rA (df 2000)).holds (A (D+2)):=fun (x0,x1,_)=>.trans (aU (fd:=d124) rfl rfl rfl rfl rfl) (q2 (fun {R} k=>Ci (gU 2000) x0 x1 k) (fun k=>X3 _ (Zu D) x0 x1 k))
theorem ZG:(HV (iK 2000)).holds (A (D+1)):=fun (x0,x1,_)=>.trans (aU (fd:=d144) rfl rfl rfl rfl rfl) (q3 (fun {R} k=>sh 2000 x0 x1 k) (fun k=>Yh x0 x1 k))
theorem Zs:(rz (c6 2000)).holds (A (D+2)):=fun (x0,x1,_)=>.trans (aU (fd:=d123) rfl rfl rfl rfl rfl) (q2 (fun {R} k=>Cg (iK 2000) x0 x1 k) (fun k=>X2 _ (ZG D) x0 x1 k))
theorem aau:(Im (iO 2000)).holds (A (D+7)):=fun (x0,_)=>.trans (aU (fd:=d95) rfl rfl rfl rfl rfl) (q8 (fun {R} k=>sT 2000 (fe 2000) (de 2000) (c6 2000) (df 2000) x0 (fun r0 r1=>k (r0,r1))) (fun k=>Y7 _ _ _ _ (Zq (D+3)) (Zr D) (Zs (D+4)) (Zt (D+4)) x0 k))
theorem TC:(uO (eo 2000)).holds (A (D+8)):=fun (x0,_)=>.trans (aU (fd:=d70) rfl rfl rfl rfl rfl) (q3 (fun {R} k=>CH (iO 2000) x0 k) (fun k=>YW _ (aau D) x0 k))
theorem aaw:(rL (dp 2000)).holds (A (D+4)):=fun (x0,_)=>.trans (aU (fd:=d97) rfl rfl rfl rfl rfl) (q2 (fun {R} k=>CM (ca 2000) x0 k) (fun k=>Y9 _ (TF D) x0 k))
theorem Zv:(HR (iJ 2000)).holds (A (D+1)):=fun (x0,x1,_)=>.trans (aU (fd:=d126) rfl rfl rfl rfl rfl) (q3 (fun {R} k=>sf 2000 x0 x1 k) (fun k=>X5 x0 x1 k))
theorem aav:(rK (c7 2000)).holds (A (D+2)):=fun (x0,x1,_)=>.trans (aU (fd:=d96) rfl rfl rfl rfl rfl) (q2 (fun {R} k=>CL (iJ 2000) x0 x1 k) (fun k=>Y8 _ (Zv D) x0 x1 k))
theorem aax:(BS (fB 2000)).holds (A (D+1)):=fun (x0,x1,_)=>.trans (aU (fd:=d99) rfl rfl rfl rfl rfl) (q1 (fun {R} k=>CN 2000 x0 x1 k) (fun k=>Zb x0 x1 k))
theorem aah:(Ii (ig 2000)).holds (A (D+5)):=fun (x0,_)=>.trans (aU (fd:=d71) rfl rfl rfl rfl rfl) (q12 (fun {R} k=>sM 2000 (c7 2000) (dp 2000) (fB 2000) x0 (fun r0 r1=>k (r0,r1))) (fun k=>YX _ _ _ (aav (D+2)) (aaw D) (aax (D+3)) x0 k))
theorem Tx:(rF (dz 2000)).holds (A (D+9)):=fun (x0,x1,_)=>.trans (aU (fd:=d40) rfl rfl rfl rfl rfl) (q3 (fun {R} k=>CB (eo 2000) (ig 2000) (ep 2000) x0 x1 k) (fun k=>YF _ _ _ (TC D) (aah (D+3)) (TD (D+7)) x0 x1 k))
theorem aai:(jl (bB 2000)).holds (A (D+1)):=fun (x0,x1,_)=>.trans (aU (fd:=d73) rfl rfl rfl rfl rfl) (q13 (fun {R} k=>sO x0 x1 k) (fun k=>Ks x0 x1 k))
theorem aap:(mK (cU 2000)).holds (A (D+1)):=fun (x0,_)=>.trans (aU (fd:=d87) rfl rfl rfl rfl rfl) (q2 (fun {R} k=>sR x0 k) (fun k=>Kv x0 k))
theorem aae:(jk (bA 2000)).holds (A (D+2)):=fun (x0,x1,x2,x3,_)=>.trans (aU (fd:=d60) rfl rfl rfl rfl rfl) (q2 (fun {R} k=>sF (cU 2000) x0 x1 x2 x3 k) (fun k=>Kr _ (aap D) x0 x1 x2 x3 k))
theorem aal:(oK (eS 2000)).holds (A (D+1)):=fun (x0,x1,_)=>.trans (aU (fd:=d83) rfl rfl rfl rfl rfl) (q2 (fun {R} k=>sQ x0 x1 k) (fun k=>Ku x0 x1 k))
theorem TA:(gm (aS 2000)).holds (A (D+2)):=fun (x0,x1,_)=>.trans (aU (fd:=d54) rfl rfl rfl rfl rfl) (q2 (fun {R} k=>sD (eS 2000) x0 x1 k) (fun k=>Kq _ (aal D) x0 x1 k))
theorem asZ:(kB (cx 2000)).holds (A (D+3)):=fun (x0,x1,_)=>.trans (aU (fd:=d74) rfl rfl rfl rfl rfl) (q14 (fun {R} k=>nQ 2000 (aS 2000) (bA 2000) (bB 2000) x0 x1 k) (fun k=>Kt _ _ _ (TA D) (aae D) (aai (D+1)) x0 x1 k))
theorem asf (D:Nat) (x0:aI) (x1:Int):bD table dA 2000 (D+1) 73 [.at bF x0,.v U2 x1]=(bB 2000 x0 x1).bind fun b=>some [.v bp b]:=by
 have e1:=aU (tb:=table) (pr:=dA) (N:=2000) (D:=D+0) (f:=73) (fd:=d73) (es:=[.at bF x0,.v U2 x1]) rfl rfl rfl rfl rfl
 exact e1.trans (dF (fd:=d73) (B:=aA) (av:=fun b=> [.v bp b]) (dr:=fun es=>((bc (bL bp) ck) es).map fun q=>(q.1)) (by intro b; kernel_rfl) (fun {R} k=>sO x0 x1 (fun (r0:aA)=>k (r0))) (fun k=>Ks x0 x1 k))
theorem TH (D:Nat):(jl (bB 2000)).holds (bD table dA 2000 (D+1)):=fun a=>asf D a.1 a.2.1
theorem asj (D:Nat) (x0:aR):bD table dA 2000 (D+1) 87 [.v aC x0]=(cU 2000 x0).bind fun b=>some [.v .bool b]:=by
 have e1:=aU (tb:=table) (pr:=dA) (N:=2000) (D:=D+0) (f:=87) (fd:=d87) (es:=[.v aC x0]) rfl rfl rfl rfl rfl
 exact e1.trans (dF (fd:=d87) (B:=Bool) (av:=fun b=> [.v .bool b]) (dr:=fun es=>((bc (bL .bool) ck) es).map fun q=>(q.1)) (by intro b; kernel_rfl) (fun {R} k=>sR x0 (fun (r0:Bool)=>k (r0))) (fun k=>Kv x0 k))
theorem aaE (D:Nat):(mK (cU 2000)).holds (bD table dA 2000 (D+1)):=fun a=>asj D a.1
theorem ase (D:Nat) (x0:ae) (x1:Int) (x2:aA) (x3:aA):bD table dA 2000 (D+2) 60 [.v ar x0,.v U2 x1,.v bp x2,.v bp x3]=(bA 2000 x0 x1 x2 x3).bind fun b=>some [.v .bool b]:=by
 have h87:(mK (cU 2000)).holds (bD table dA 2000 (D+1)):=by have:=aaE (D+0); rwa [show D+0+1=D+1 by omega] at this
 have e1:=aU (tb:=table) (pr:=dA) (N:=2000) (D:=D+1) (f:=60) (fd:=d60) (es:=[.v ar x0,.v U2 x1,.v bp x2,.v bp x3]) rfl rfl rfl rfl rfl
 exact e1.trans (dF (fd:=d60) (B:=Bool) (av:=fun b=> [.v .bool b]) (dr:=fun es=>((bc (bL .bool) ck) es).map fun q=>(q.1)) (by intro b; kernel_rfl) (fun {R} k=>sF (cU 2000) x0 x1 x2 x3 (fun (r0:Bool)=>k (r0))) (fun k=>Kr (cU 2000) h87 x0 x1 x2 x3 k))
theorem TG (D:Nat):(jk (bA 2000)).holds (bD table dA 2000 (D+2)):=fun a=>ase D a.1 a.2.1 a.2.2.1 a.2.2.2.1
theorem asi (D:Nat) (x0:V3) (x1:V3):bD table dA 2000 (D+1) 83 [.v .str x0,.v .str x1]=(eS 2000 x0 x1).bind fun b=>some [.v .bool b]:=by
 have e1:=aU (tb:=table) (pr:=dA) (N:=2000) (D:=D+0) (f:=83) (fd:=d83) (es:=[.v .str x0,.v .str x1]) rfl rfl rfl rfl rfl
 exact e1.trans (dF (fd:=d83) (B:=Bool) (av:=fun b=> [.v .bool b]) (dr:=fun es=>((bc (bL .bool) ck) es).map fun q=>(q.1)) (by intro b; kernel_rfl) (fun {R} k=>sQ x0 x1 (fun (r0:Bool)=>k (r0))) (fun k=>Ku x0 x1 k))
theorem aaD (D:Nat):(oK (eS 2000)).holds (bD table dA 2000 (D+1)):=fun a=>asi D a.1 a.2.1
theorem asd (D:Nat) (x0:V3) (x1:V3):bD table dA 2000 (D+2) 54 [.v .str x0,.v .str x1]=(aS 2000 x0 x1).bind fun b=>some [.v .bool b]:=by
 have h83:(oK (eS 2000)).holds (bD table dA 2000 (D+1)):=by have:=aaD (D+0); rwa [show D+0+1=D+1 by omega] at this
 have e1:=aU (tb:=table) (pr:=dA) (N:=2000) (D:=D+1) (f:=54) (fd:=d54) (es:=[.v .str x0,.v .str x1]) rfl rfl rfl rfl rfl
 exact e1.trans (dF (fd:=d54) (B:=Bool) (av:=fun b=> [.v .bool b]) (dr:=fun es=>((bc (bL .bool) ck) es).map fun q=>(q.1)) (by intro b; kernel_rfl) (fun {R} k=>sD (eS 2000) x0 x1 (fun (r0:Bool)=>k (r0))) (fun k=>Kq (eS 2000) h83 x0 x1 k))
theorem aaB (D:Nat):(gm (aS 2000)).holds (bD table dA 2000 (D+2)):=fun a=>asd D a.1 a.2.1
theorem ash (D:Nat) (x0:aI) (x1:a6):bD table dA 2000 (D+3) 74 [.at bF x0,.v aY x1]=(cx 2000 x0 x1).bind fun b=>some [.own true 73 aY .no b]:=by
 have h54:(gm (aS 2000)).holds (bD table dA 2000 (D+2)):=by have:=aaB (D+0); rwa [show D+0+2=D+2 by omega] at this
 have h60:(jk (bA 2000)).holds (bD table dA 2000 (D+2)):=by have:=TG (D+0); rwa [show D+0+2=D+2 by omega] at this
 have h73:(jl (bB 2000)).holds (bD table dA 2000 (D+2)):=by have:=TH (D+1); rwa [show D+1+1=D+2 by omega] at this
 have e1:=aU (tb:=table) (pr:=dA) (N:=2000) (D:=D+2) (f:=74) (fd:=d74) (es:=[.at bF x0,.v aY x1]) rfl rfl rfl rfl rfl
 exact e1.trans (dF (fd:=d74) (B:=bZ) (av:=fun b=> [.own true 73 aY .no b]) (dr:=fun es=>((bc (kZ aY) ck) es).map fun q=>(q.1)) (by intro b; kernel_rfl) (fun {R} k=>nQ 2000 (aS 2000) (bA 2000) (bB 2000) x0 x1 (fun (r0:bZ)=>k (r0))) (fun k=>Kt (aS 2000) (bA 2000) (bB 2000) h54 h60 h73 x0 x1 k))
theorem aaC (D:Nat):(kB (cx 2000)).holds (bD table dA 2000 (D+3)):=fun a=>ash D a.1 a.2.1
theorem KC (N:Nat):∀ m,(gx (ng 2000 m)).holds (qF m)
 | 0=>fun a=>by kernel_rfl
 | m+1=>fun a=>by
   have h60:(jk (bA 2000)).holds (qF m):=yI (by decide) (TG 2) m
   have h73:(jl (bB 2000)).holds (qF m):=yI (by decide) (TH 3) m
   have h74:(kB (cx 2000)).holds (qF m):=yI (by decide) (aaC 1) m
   have h41:=KC 2000 m
   have e1:=VE (n:=41) (fd:=d41) (N:=2000) (base:=bD table dA 2000 4) (m:=m) (es:=[.loc bF (.pair .no (.pair .no (.pair .mp .no))) a.1,.v aY a.2.1]) rfl rfl rfl
   exact e1.trans (dF (fd:=d41) (B:=aI×Int) (av:=fun b=> [.loc bF (.pair .no (.pair .no (.pair .mp .no))) b.1,.v U2 b.2]) (dr:=fun es=>((bc (Ra bF) (bc (bL U2) ck)) es).map fun q=>(q.1,q.2.1)) (by intro b; kernel_rfl) (fun {R} k=>ss 2000 (ng 2000 m) (bA 2000) (bB 2000) (cx 2000) a.1 a.2.1 (fun (r0:aI) (r1:Int)=>k (r0,r1))) (fun k=>YG (ng 2000 m) (bA 2000) (bB 2000) (cx 2000) h41 h60 h73 h74 a.1 a.2.1 k))
theorem Z2:(gx (aW 2000)).holds (A (D+1)):=fun a=>(zF rfl).trans (KC 2000 250 a)
theorem aaF (D:Nat):(gx (aW 2000)).holds (bD table dH 2000 (D+1)):=fun a=>(zF rfl).trans (KC 2000 250 a)
theorem asn (D:Nat) (x0:aI) (x1:Int):bD table dH 2000 (D+1) 73 [.at bF x0,.v U2 x1]=(bB 2000 x0 x1).bind fun b=>some [.v bp b]:=by
 have e1:=aU (tb:=table) (pr:=dH) (N:=2000) (D:=D+0) (f:=73) (fd:=d73) (es:=[.at bF x0,.v U2 x1]) rfl rfl rfl rfl rfl
 exact e1.trans (dF (fd:=d73) (B:=aA) (av:=fun b=> [.v bp b]) (dr:=fun es=>((bc (bL bp) ck) es).map fun q=>(q.1)) (by intro b; kernel_rfl) (fun {R} k=>sO x0 x1 (fun (r0:aA)=>k (r0))) (fun k=>Ks x0 x1 k))
theorem aaI (D:Nat):(jl (bB 2000)).holds (bD table dH 2000 (D+1)):=fun a=>asn D a.1 a.2.1
theorem asq (D:Nat) (x0:aR):bD table dH 2000 (D+1) 87 [.v aC x0]=(cU 2000 x0).bind fun b=>some [.v .bool b]:=by
 have e1:=aU (tb:=table) (pr:=dH) (N:=2000) (D:=D+0) (f:=87) (fd:=d87) (es:=[.v aC x0]) rfl rfl rfl rfl rfl
 exact e1.trans (dF (fd:=d87) (B:=Bool) (av:=fun b=> [.v .bool b]) (dr:=fun es=>((bc (bL .bool) ck) es).map fun q=>(q.1)) (by intro b; kernel_rfl) (fun {R} k=>sR x0 (fun (r0:Bool)=>k (r0))) (fun k=>Kv x0 k))
theorem aaL (D:Nat):(mK (cU 2000)).holds (bD table dH 2000 (D+1)):=fun a=>asq D a.1
theorem asm (D:Nat) (x0:ae) (x1:Int) (x2:aA) (x3:aA):bD table dH 2000 (D+2) 60 [.v ar x0,.v U2 x1,.v bp x2,.v bp x3]=(bA 2000 x0 x1 x2 x3).bind fun b=>some [.v .bool b]:=by
 have h87:(mK (cU 2000)).holds (bD table dH 2000 (D+1)):=by have:=aaL (D+0); rwa [show D+0+1=D+1 by omega] at this
 have e1:=aU (tb:=table) (pr:=dH) (N:=2000) (D:=D+1) (f:=60) (fd:=d60) (es:=[.v ar x0,.v U2 x1,.v bp x2,.v bp x3]) rfl rfl rfl rfl rfl
 exact e1.trans (dF (fd:=d60) (B:=Bool) (av:=fun b=> [.v .bool b]) (dr:=fun es=>((bc (bL .bool) ck) es).map fun q=>(q.1)) (by intro b; kernel_rfl) (fun {R} k=>sF (cU 2000) x0 x1 x2 x3 (fun (r0:Bool)=>k (r0))) (fun k=>Kr (cU 2000) h87 x0 x1 x2 x3 k))
theorem aaH (D:Nat):(jk (bA 2000)).holds (bD table dH 2000 (D+2)):=fun a=>asm D a.1 a.2.1 a.2.2.1 a.2.2.2.1
theorem asp (D:Nat) (x0:V3) (x1:V3):bD table dH 2000 (D+1) 83 [.v .str x0,.v .str x1]=(eS 2000 x0 x1).bind fun b=>some [.v .bool b]:=by
 have e1:=aU (tb:=table) (pr:=dH) (N:=2000) (D:=D+0) (f:=83) (fd:=d83) (es:=[.v .str x0,.v .str x1]) rfl rfl rfl rfl rfl
 exact e1.trans (dF (fd:=d83) (B:=Bool) (av:=fun b=> [.v .bool b]) (dr:=fun es=>((bc (bL .bool) ck) es).map fun q=>(q.1)) (by intro b; kernel_rfl) (fun {R} k=>sQ x0 x1 (fun (r0:Bool)=>k (r0))) (fun k=>Ku x0 x1 k))
theorem aaK (D:Nat):(oK (eS 2000)).holds (bD table dH 2000 (D+1)):=fun a=>asp D a.1 a.2.1
theorem asl (D:Nat) (x0:V3) (x1:V3):bD table dH 2000 (D+2) 54 [.v .str x0,.v .str x1]=(aS 2000 x0 x1).bind fun b=>some [.v .bool b]:=by
 have h83:(oK (eS 2000)).holds (bD table dH 2000 (D+1)):=by have:=aaK (D+0); rwa [show D+0+1=D+1 by omega] at this
 have e1:=aU (tb:=table) (pr:=dH) (N:=2000) (D:=D+1) (f:=54) (fd:=d54) (es:=[.v .str x0,.v .str x1]) rfl rfl rfl rfl rfl
 exact e1.trans (dF (fd:=d54) (B:=Bool) (av:=fun b=> [.v .bool b]) (dr:=fun es=>((bc (bL .bool) ck) es).map fun q=>(q.1)) (by intro b; kernel_rfl) (fun {R} k=>sD (eS 2000) x0 x1 (fun (r0:Bool)=>k (r0))) (fun k=>Kq (eS 2000) h83 x0 x1 k))
theorem aaG (D:Nat):(gm (aS 2000)).holds (bD table dH 2000 (D+2)):=fun a=>asl D a.1 a.2.1
theorem aso (D:Nat) (x0:aI) (x1:a6):bD table dH 2000 (D+3) 74 [.at bF x0,.v aY x1]=(cx 2000 x0 x1).bind fun b=>some [.own true 73 aY .no b]:=by
 have h54:(gm (aS 2000)).holds (bD table dH 2000 (D+2)):=by have:=aaG (D+0); rwa [show D+0+2=D+2 by omega] at this
 have h60:(jk (bA 2000)).holds (bD table dH 2000 (D+2)):=by have:=aaH (D+0); rwa [show D+0+2=D+2 by omega] at this
 have h73:(jl (bB 2000)).holds (bD table dH 2000 (D+2)):=by have:=aaI (D+1); rwa [show D+1+1=D+2 by omega] at this
 have e1:=aU (tb:=table) (pr:=dH) (N:=2000) (D:=D+2) (f:=74) (fd:=d74) (es:=[.at bF x0,.v aY x1]) rfl rfl rfl rfl rfl
 exact e1.trans (dF (fd:=d74) (B:=bZ) (av:=fun b=> [.own true 73 aY .no b]) (dr:=fun es=>((bc (kZ aY) ck) es).map fun q=>(q.1)) (by intro b; kernel_rfl) (fun {R} k=>nQ 2000 (aS 2000) (bA 2000) (bB 2000) x0 x1 (fun (r0:bZ)=>k (r0))) (fun k=>Kt (aS 2000) (bA 2000) (bB 2000) h54 h60 h73 x0 x1 k))
theorem aaJ (D:Nat):(kB (cx 2000)).holds (bD table dH 2000 (D+3)):=fun a=>aso D a.1 a.2.1
theorem TI (N:Nat):∀ m,(kA (nh 2000 m)).holds (yH m)
 | 0=>fun a=>by kernel_rfl
 | m+1=>fun a=>by
   have h41:(gx (aW 2000)).holds (yH m):=yI (by decide) (aaF 3) m
   have h74:(kB (cx 2000)).holds (yH m):=yI (by decide) (aaJ 1) m
   have h42:=TI 2000 m
   have e1:=VE (n:=42) (fd:=d42) (N:=2000) (base:=bD table dH 2000 4) (m:=m) (es:=[.loc bF (.pair .no (.pair .no (.pair .mp .no))) a.1,.v aY a.2.1]) rfl rfl rfl
   exact e1.trans (dF (fd:=d42) (B:=aI×V8) (av:=fun b=> [.loc bF (.pair .no (.pair .no (.pair .mp .no))) b.1,.own true 27 U5 .no b.2]) (dr:=fun es=>((bc (Ra bF) (bc (kZ U5) ck)) es).map fun q=>(q.1,q.2.1)) (by intro b; kernel_rfl) (fun {R} k=>mQ 2000 (aW 2000) (nh 2000 m) (cx 2000) a.1 a.2.1 (fun (r0:aI) (r1:V8)=>k (r0,r1))) (fun k=>YH (aW 2000) (nh 2000 m) (cx 2000) h41 h42 h74 a.1 a.2.1 k))
theorem Z3:(kA (bP 2000)).holds (A (D+1)):=fun a=>(zF rfl).trans (TI 2000 250 a)
theorem Tw:(uN (ef 2000)).holds (A (D+1)):=fun (x0,x1,_)=>.trans (aU (fd:=d38) rfl rfl rfl rfl rfl) (q3 (fun {R} k=>sr 2000 x0 x1 k) (fun k=>YE x0 x1 k))
theorem aaj:(Ij (gI 2000)).holds (A (D+1)):=fun (x0,_)=>.trans (aU (fd:=d77) rfl rfl rfl rfl rfl) (q2 (fun {R} k=>CI x0 k) (fun k=>YZ x0 k))
theorem Tz:(nx (ct 2000)).holds (A (D+2)):=fun (x0,x1,_)=>.trans (aU (fd:=d46) rfl rfl rfl rfl rfl) (q3 (fun {R} k=>CD (gI 2000) x0 x1 k) (fun k=>YK _ (aaj D) x0 x1 k))
theorem Z7:(Ie (ib 2000)).holds (A (D+3)):=fun (x0,x1,_)=>.trans (aU (fd:=d47) rfl rfl rfl rfl rfl) (q3 (fun {R} k=>sB 2000 (ct 2000) x0 x1 k) (fun k=>YL _ (Tz D) x0 x1 k))
theorem Z6:(Ic (ia 2000)).holds (A (D+1)):=fun (x0,_)=>.trans (aU (fd:=d45) rfl rfl rfl rfl rfl) (q3 (fun {R} k=>pS 2000 x0 k) (fun k=>YJ x0 k))
theorem Z5:(Ib (gu 2000)).holds (A (D+4)):=fun (x0,x1,x2,_)=>.trans (aU (fd:=d44) rfl rfl rfl rfl rfl) (q3 (fun {R} k=>CC (ef 2000) (ia 2000) (ct 2000) (ib 2000) x0 x1 x2 k) (fun k=>YI _ _ _ _ (Tw (D+2)) (Z6 (D+2)) (Tz (D+1)) (Z7 D) x0 x1 x2 k))
theorem KB:(oJ (cG 2000)).holds (A (D+10)):=fun (x0,x1,_)=>.trans (aU (fd:=d16) rfl rfl rfl rfl rfl) (q15 (fun {R} k=>g16 (dz 2000) (aW 2000) (bP 2000) (eL 2000) (gu 2000) x0 x1 (fun r0 r1=>k (r0,r1))) (fun k=>Yt _ _ _ _ _ (Tx D) (Z2 (D+8)) (Z3 (D+8)) (Z4 (D+8)) (Z5 (D+5)) x0 x1 k))
theorem Zx:(HT (gF 2000)).holds (A (D+11)):=fun (x0,x1,_)=>.trans (aU (fd:=d13) rfl rfl rfl rfl rfl) (q16 (fun {R} k=>g13 (cG 2000) (ef 2000) x0 x1 (fun r0 r1 r2=>k (r0,r1,r2))) (fun k=>X7 _ _ (KB D) (Tw (D+9)) x0 x1 k))
theorem aac:(Ig (ic 2000)).holds (A (D+2)):=fun (x0,x1,_)=>.trans (aU (fd:=d57) rfl rfl rfl rfl rfl) (q17 (fun {R} k=>sE 2000 (cD 2000) (dW 2000) x0 x1 (fun r0 r1=>k (r0,r1))) (fun k=>YR _ _ (aam D) (aan D) x0 x1 k))
theorem aab:(BP (fy 2000)).holds (A (D+9)):=fun (x0,x1,_)=>.trans (aU (fd:=d55) rfl rfl rfl rfl rfl) (q3 (fun {R} k=>CF (ic 2000) (eo 2000) x0 x1 k) (fun k=>YQ _ _ (aac (D+6)) (TC D) x0 x1 k))
theorem ZX:(H8 (gH 2000)).holds (A (D+10)):=fun (x0,x1,_)=>.trans (aU (fd:=d24) rfl rfl rfl rfl rfl) (q18 (fun {R} k=>g24 2000 (fy 2000) x0 x1 (fun r0 r1=>k (r0,r1))) (fun k=>Yz _ (aab D) x0 x1 k))
theorem Tv:(uM (ee 2000)).holds (A (D+10)):=fun (x0,x1,_)=>.trans (aU (fd:=d20) rfl rfl rfl rfl rfl) (q8 (fun {R} k=>g20 2000 (dz 2000) (aS 2000) x0 x1 (fun r0 r1=>k (r0,r1))) (fun k=>Yx _ _ (Tx D) (TA (D+7)) x0 x1 k))
theorem aaa:(rG (dL 2000)).holds (A (D+1)):=fun (x0,x1,_)=>.trans (aU (fd:=d53) rfl rfl rfl rfl rfl) (q2 (fun {R} k=>JW 2000 x0 x1 k) (fun k=>YP x0 x1 k))
theorem ZV:(H6 (iM 2000)).holds (A (D+2)):=fun (x0,x1,_)=>.trans (aU (fd:=d19) rfl rfl rfl rfl rfl) (q2 (fun {R} k=>g19 2000 (dL 2000) x0 x1 k) (fun k=>Yw _ (aaa D) x0 x1 k))
theorem ZK:(HW (gG 2000)).holds (A (D+1)):=fun (x0,x1,_)=>.trans (aU (fd:=d15) rfl rfl rfl rfl rfl) (q2 (fun {R} k=>g15 2000 x0 x1 k) (fun k=>Yk x0 x1 k))
theorem aay {cl:az} (S:Option (Bool)) (h:cl.run 11 []=S.bind fun b=>some [.v .bool b]):(BC S).holds cl:=fun _=>h
theorem Zh:(BC (gh 2000)).holds (A (D+12)):=aay (gh 2000) ((aU (fd:=d11) rfl rfl rfl rfl rfl).trans (q2 (fun {R} k=>g11 (gF 2000) (gG 2000) (cG 2000) (iM 2000) (ee 2000) (gH 2000) (hZ 2000) k) (fun k=>XP _ _ _ _ _ _ _ (Zx D) (ZK (D+10)) (KB (D+1)) (ZV (D+9)) (Tv (D+1)) (ZX (D+1)) (Z1 (D+4)) k)))
theorem aaf:(rI (dn 2000)).holds (A (D+1)):=fun (x0,x1,_)=>.trans (aU (fd:=d66) rfl rfl rfl rfl rfl) (q2 (fun {R} k=>pT 2000 x0 x1 k) (fun k=>YT x0 x1 k))
theorem ZZ:(H9 (hX 2000)).holds (A (D+2)):=fun (x0,_)=>.trans (aU (fd:=d34) rfl rfl rfl rfl rfl) (q2 (fun {R} k=>sq 2000 (dn 2000) x0 k) (fun k=>YB _ (aaf D) x0 k))
theorem Zo:(HP (gT 2000)).holds (A (D+3)):=fun (x0,x1,x2,_)=>.trans (aU (fd:=d12) rfl rfl rfl rfl rfl) (q2 (fun {R} k=>g12 (hX 2000) x0 x1 x2 k) (fun k=>XY _ (ZZ D) x0 x1 x2 k))
theorem Z0:(Ia (hY 2000)).holds (A (D+5)):=fun (x0,_)=>.trans (aU (fd:=d35) rfl rfl rfl rfl rfl) (q3 (fun {R} k=>CA (dD 2000) x0 k) (fun k=>YC _ (TB D) x0 k))
theorem Zi:(BD (fr 2000)).holds (A (D+1)):=fun (x0,_)=>.trans (aU (fd:=d110) rfl rfl rfl rfl rfl) (q1 (fun {R} k=>r8 2000 x0 k) (fun k=>XQ x0 k))
theorem aak:(Ik (iN 2000)).holds (A (D+2)):=fun (x0,_)=>.trans (aU (fd:=d78) rfl rfl rfl rfl rfl) (q3 (fun {R} k=>sP 2000 (fr 2000) (bu 2000) x0 k) (fun k=>Y0 _ _ (Zi D) (Ts D) x0 k))
theorem Z8:(BO (fx 2000)).holds (A (D+6)):=fun (x0,x1,_)=>.trans (aU (fd:=d48) rfl rfl rfl rfl rfl) (q3 (fun {R} k=>CE (hY 2000) (iN 2000) x0 x1 k) (fun k=>YM _ _ (Z0 D) (aak (D+3)) x0 x1 k))
theorem Z9:(ny (cw 2000)).holds (A (D+1)):=fun (x0,x1,x2,_)=>.trans (aU (fd:=d50) rfl rfl rfl rfl rfl) (q19 (fun {R} k=>sC 2000 x0 x1 x2 k) (fun k=>YO x0 x1 x2 k))
theorem ZW:(H7 (hR 2000)).holds (A (D+7)):=fun (x0,x1,_)=>.trans (aU (fd:=d21) rfl rfl rfl rfl rfl) (q8 (fun {R} k=>g21 2000 (fx 2000) (cw 2000) x0 x1 (fun r0 r1=>k (r0,r1))) (fun k=>Yy _ _ (Z8 D) (Z9 (D+5)) x0 x1 k))
theorem ZU:(H5 (hQ 2000)).holds (A (D+11)):=fun (x0,x1,_)=>.trans (aU (fd:=d18) rfl rfl rfl rfl rfl) (q8 (fun {R} k=>g18 (cG 2000) x0 x1 (fun r0 r1=>k (r0,r1))) (fun k=>Yv _ (KB D) x0 x1 k))
theorem va5 (D:Nat) (x0:ae) (x1:V3):bD table kJ 2000 (D+13) 5 [.v ar x0,.v .str x1]=(S5 2000 x0 x1).bind fun b=>some [.v .bool b]:=(aU (fd:=d5) rfl rfl rfl rfl rfl).trans (q2 (fun {R} k=>g5 (gh 2000) (gT 2000) (hQ 2000) (ee 2000) (hR 2000) x0 x1 k) (fun k=>YN _ _ _ _ _ (Zh D) (Zo (D+9)) (ZU (D+1)) (Tv (D+2)) (ZW (D+5)) x0 x1 k))
end Go.Fw.L19
