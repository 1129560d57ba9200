/- Own work. -/
import Derived.Test.YtooiookccchmeaaGreatFwMy13
import Derived.Test.YtooiookccchmeaaGreatFwB6
set_option linter.unusedVariables false
set_option linter.unusedSimpArgs false
namespace Go.Fw.L19
open Go Go.Fw
set_option maxRecDepth 100000
abbrev A (D:Nat):az:=bD table k9 2000 D
theorem q0 {cl:az} {N:Nat} {fd:FD} {env:Env} (g:{R:Type}→(aG→Option R)→Option R) (hg:∀ {R:Type} (k:List E→Option R),exec cl N fd.body env (fun e env=>(ag fd e env).bind k)=g (fun b=>k [.own true 9 .str .no b])):exec cl N fd.body env (ag fd)=(g some).bind fun b=>some [.own true 9 .str .no b]:=dO (dr:=fun es=>((ba (ly .str) ck) es).map fun q=>(q.1)) (by intro b; kernel_rfl) g hg
theorem q1 {cl:az} {N:Nat} {fd:FD} {env:Env} (g:{R:Type}→(V4→Option R)→Option R) (hg:∀ {R:Type} (k:List E→Option R),exec cl N fd.body env (fun e env=>(ag fd e env).bind k)=g (fun b=>k [.v .str b])):exec cl N fd.body env (ag fd)=(g some).bind fun b=>some [.v .str b]:=dO (dr:=fun es=>((ba (bL .str) ck) es).map fun q=>(q.1)) (by intro b; kernel_rfl) g hg
theorem q2 {cl:az} {N:Nat} {fd:FD} {env:Env} (g:{R:Type}→(Bool→Option R)→Option R) (hg:∀ {R:Type} (k:List E→Option R),exec cl N fd.body env (fun e env=>(ag fd e env).bind k)=g (fun b=>k [.v .bool b])):exec cl N fd.body env (ag fd)=(g some).bind fun b=>some [.v .bool b]:=dO (dr:=fun es=>((ba (bL .bool) ck) es).map fun q=>(q.1)) (by intro b; kernel_rfl) g hg
theorem q3 {cl:az} {N:Nat} {fd:FD} {env:Env} (g:{R:Type}→(Int→Option R)→Option R) (hg:∀ {R:Type} (k:List E→Option R),exec cl N fd.body env (fun e env=>(ag fd e env).bind k)=g (fun b=>k [.v U2 b])):exec cl N fd.body env (ag fd)=(g some).bind fun b=>some [.v U2 b]:=dO (dr:=fun es=>((ba (bL U2) ck) es).map fun q=>(q.1)) (by intro b; kernel_rfl) g hg
theorem q4 {cl:az} {N:Nat} {fd:FD} {env:Env} (g:{R:Type}→(aR×Bool→Option R)→Option R) (hg:∀ {R:Type} (k:List E→Option R),exec cl N fd.body env (fun e env=>(ag fd e env).bind k)=g (fun b=>k [.v aD b.1,.v .bool b.2])):exec cl N fd.body env (ag fd)=(g some).bind fun b=>some [.v aD b.1,.v .bool b.2]:=dO (dr:=fun es=>((ba (bL aD) (ba (bL .bool) ck)) es).map fun q=>(q.1,q.2.1)) (by intro b; kernel_rfl) g hg
theorem q5 {cl:az} {N:Nat} {fd:FD} {env:Env} (g:{R:Type}→(aA×Int→Option R)→Option R) (hg:∀ {R:Type} (k:List E→Option R),exec cl N fd.body env (fun e env=>(ag fd e env).bind k)=g (fun b=>k [.own true 40 aD .no b.1,.v U2 b.2])):exec cl N fd.body env (ag fd)=(g some).bind fun b=>some [.own true 40 aD .no b.1,.v U2 b.2]:=dO (dr:=fun es=>((ba (ly aD) (ba (bL U2) ck)) es).map fun q=>(q.1,q.2.1)) (by intro b; kernel_rfl) g hg
theorem q6 {cl:az} {N:Nat} {fd:FD} {env:Env} (g:{R:Type}→(Int×Bool→Option R)→Option R) (hg:∀ {R:Type} (k:List E→Option R),exec cl N fd.body env (fun e env=>(ag fd e env).bind k)=g (fun b=>k [.v U2 b.1,.v .bool b.2])):exec cl N fd.body env (ag fd)=(g some).bind fun b=>some [.v U2 b.1,.v .bool b.2]:=dO (dr:=fun es=>((ba (bL U2) (ba (bL .bool) ck)) es).map fun q=>(q.1,q.2.1)) (by intro b; kernel_rfl) g hg
theorem q7 {cl:az} {N:Nat} {fd:FD} {env:Env} (g:{R:Type}→(aS×Bool→Option R)→Option R) (hg:∀ {R:Type} (k:List E→Option R),exec cl N fd.body env (fun e env=>(ag fd e env).bind k)=g (fun b=>k [.v aC b.1,.v .bool b.2])):exec cl N fd.body env (ag fd)=(g some).bind fun b=>some [.v aC b.1,.v .bool b.2]:=dO (dr:=fun es=>((ba (bL aC) (ba (bL .bool) ck)) es).map fun q=>(q.1,q.2.1)) (by intro b; kernel_rfl) g hg
theorem q8 {cl:az} {N:Nat} {fd:FD} {env:Env} (g:{R:Type}→(Int×Int→Option R)→Option R) (hg:∀ {R:Type} (k:List E→Option R),exec cl N fd.body env (fun e env=>(ag fd e env).bind k)=g (fun b=>k [.v U2 b.1,.v U2 b.2])):exec cl N fd.body env (ag fd)=(g some).bind fun b=>some [.v U2 b.1,.v U2 b.2]:=dO (dr:=fun es=>((ba (bL U2) (ba (bL U2) ck)) es).map fun q=>(q.1,q.2.1)) (by intro b; kernel_rfl) g hg
theorem q9 {cl:az} {N:Nat} {fd:FD} {env:Env} (g:{R:Type}→(ae×Int×Int→Option R)→Option R) (hg:∀ {R:Type} (k:List E→Option R),exec cl N fd.body env (fun e env=>(ag fd e env).bind k)=g (fun b=>k [.v ak b.1,.v U2 b.2.1,.v U2 b.2.2])):exec cl N fd.body env (ag fd)=(g some).bind fun b=>some [.v ak b.1,.v U2 b.2.1,.v U2 b.2.2]:=dO (dr:=fun es=>((ba (bL ak) (ba (bL U2) (ba (bL U2) ck))) es).map fun q=>(q.1,q.2.1,q.2.2.1)) (by intro b; kernel_rfl) g hg
theorem Lk {cl:az} {N:Nat} {fd:FD} {env:Env} (g:{R:Type}→(ae→Option R)→Option R) (hg:∀ {R:Type} (k:List E→Option R),exec cl N fd.body env (fun e env=>(ag fd e env).bind k)=g (fun b=>k [.v ak b])):exec cl N fd.body env (ag fd)=(g some).bind fun b=>some [.v ak b]:=dO (dr:=fun es=>((ba (bL ak) ck) es).map fun q=>(q.1)) (by intro b; kernel_rfl) g hg
theorem q11 {cl:az} {N:Nat} {fd:FD} {env:Env} (g:{R:Type}→(gq×Int→Option R)→Option R) (hg:∀ {R:Type} (k:List E→Option R),exec cl N fd.body env (fun e env=>(ag fd e env).bind k)=g (fun b=>k [.own true 179 ef .no b.1,.v U2 b.2])):exec cl N fd.body env (ag fd)=(g some).bind fun b=>some [.own true 179 ef .no b.1,.v U2 b.2]:=dO (dr:=fun es=>((ba (ly ef) (ba (bL U2) ck)) es).map fun q=>(q.1,q.2.1)) (by intro b; kernel_rfl) g hg
theorem q12 {cl:az} {N:Nat} {fd:FD} {env:Env} (g:{R:Type}→(V4×Int→Option R)→Option R) (hg:∀ {R:Type} (k:List E→Option R),exec cl N fd.body env (fun e env=>(ag fd e env).bind k)=g (fun b=>k [.v .str b.1,.v U2 b.2])):exec cl N fd.body env (ag fd)=(g some).bind fun b=>some [.v .str b.1,.v U2 b.2]:=dO (dr:=fun es=>((ba (bL .str) (ba (bL U2) ck)) es).map fun q=>(q.1,q.2.1)) (by intro b; kernel_rfl) g hg
theorem q13 {cl:az} {N:Nat} {fd:FD} {env:Env} (g:{R:Type}→(aA→Option R)→Option R) (hg:∀ {R:Type} (k:List E→Option R),exec cl N fd.body env (fun e env=>(ag fd e env).bind k)=g (fun b=>k [.v bt b])):exec cl N fd.body env (ag fd)=(g some).bind fun b=>some [.v bt b]:=dO (dr:=fun es=>((ba (bL bt) ck) es).map fun q=>(q.1)) (by intro b; kernel_rfl) g hg
theorem q14 {cl:az} {N:Nat} {fd:FD} {env:Env} (g:{R:Type}→(cc→Option R)→Option R) (hg:∀ {R:Type} (k:List E→Option R),exec cl N fd.body env (fun e env=>(ag fd e env).bind k)=g (fun b=>k [.own true 73 aZ .no b])):exec cl N fd.body env (ag fd)=(g some).bind fun b=>some [.own true 73 aZ .no b]:=dO (dr:=fun es=>((ba (ly aZ) ck) es).map fun q=>(q.1)) (by intro b; kernel_rfl) g hg
theorem q15 {cl:az} {N:Nat} {fd:FD} {env:Env} (g:{R:Type}→(V7×Int→Option R)→Option R) (hg:∀ {R:Type} (k:List E→Option R),exec cl N fd.body env (fun e env=>(ag fd e env).bind k)=g (fun b=>k [.own true 27 U5 .no b.1,.v U2 b.2])):exec cl N fd.body env (ag fd)=(g some).bind fun b=>some [.own true 27 U5 .no b.1,.v U2 b.2]:=dO (dr:=fun es=>((ba (ly U5) (ba (bL U2) ck)) es).map fun q=>(q.1,q.2.1)) (by intro b; kernel_rfl) g hg
theorem q16 {cl:az} {N:Nat} {fd:FD} {env:Env} (g:{R:Type}→(V0×Int×Int→Option R)→Option R) (hg:∀ {R:Type} (k:List E→Option R),exec cl N fd.body env (fun e env=>(ag fd e env).bind k)=g (fun b=>k [.v U5 b.1,.v U2 b.2.1,.v U2 b.2.2])):exec cl N fd.body env (ag fd)=(g some).bind fun b=>some [.v U5 b.1,.v U2 b.2.1,.v U2 b.2.2]:=dO (dr:=fun es=>((ba (bL U5) (ba (bL U2) (ba (bL U2) ck))) es).map fun q=>(q.1,q.2.1,q.2.2.1)) (by intro b; kernel_rfl) g hg
theorem q17 {cl:az} {N:Nat} {fd:FD} {env:Env} (g:{R:Type}→(V4×Bool→Option R)→Option R) (hg:∀ {R:Type} (k:List E→Option R),exec cl N fd.body env (fun e env=>(ag fd e env).bind k)=g (fun b=>k [.v .str b.1,.v .bool b.2])):exec cl N fd.body env (ag fd)=(g some).bind fun b=>some [.v .str b.1,.v .bool b.2]:=dO (dr:=fun es=>((ba (bL .str) (ba (bL .bool) ck)) es).map fun q=>(q.1,q.2.1)) (by intro b; kernel_rfl) g hg
theorem q18 {cl:az} {N:Nat} {fd:FD} {env:Env} (g:{R:Type}→(V0×Int→Option R)→Option R) (hg:∀ {R:Type} (k:List E→Option R),exec cl N fd.body env (fun e env=>(ag fd e env).bind k)=g (fun b=>k [.own true 3 U2 .no b.1,.v U2 b.2])):exec cl N fd.body env (ag fd)=(g some).bind fun b=>some [.own true 3 U2 .no b.1,.v U2 b.2]:=dO (dr:=fun es=>((ba (ly U2) (ba (bL U2) ck)) es).map fun q=>(q.1,q.2.1)) (by intro b; kernel_rfl) g hg
theorem q19 {cl:az} {N:Nat} {fd:FD} {env:Env} (g:{R:Type}→(bm→Option R)→Option R) (hg:∀ {R:Type} (k:List E→Option R),exec cl N fd.body env (fun e env=>(ag fd e env).bind k)=g (fun b=>k [.own true 43 aC .no b])):exec cl N fd.body env (ag fd)=(g some).bind fun b=>some [.own true 43 aC .no b]:=dO (dr:=fun es=>((ba (ly aC) ck) es).map fun q=>(q.1)) (by intro b; kernel_rfl) g hg
variable (D:Nat)
theorem aas:(jW (eV 2000)).holds (A (D+1)):=yW rfl (by intro a; kernel_rfl)
theorem aaB:(jX (dW 2000)).holds (A (D+1)):=yW rfl (by intro a; kernel_rfl)
theorem aaH:(iq (cF 2000)).holds (A (D+1)):=yW rfl (by intro a; kernel_rfl)
theorem aaI:(jl (ee 2000)).holds (A (D+1)):=yW rfl (by intro a; kernel_rfl)
theorem Z5:(ko (fv 2000)).holds (A (D+1)):=yW rfl (by intro a; kernel_rfl)
theorem aaN:(B4 (gg 2000)).holds (A (D+1)):=fun (x0,_)=>.trans (aV (fd:=d92) rfl rfl rfl rfl rfl) (q0 (fun {R} k=>Kc 2000 x0 k) (fun k=>Zo x0 k))
theorem T6:(lx (bR 2000)).holds (A (D+1)):=fun (x0,_)=>.trans (aV (fd:=d93) rfl rfl rfl rfl rfl) (q0 (fun {R} k=>Kd 2000 x0 k) (fun k=>Zp x0 k))
theorem ZY:(BU (ga 2000)).holds (A (D+1)):=fun (x0,_)=>.trans (aV (fd:=d138) rfl rfl rfl rfl rfl) (q0 (fun {R} k=>JB 2000 x0 k) (fun k=>Yw x0 k))
theorem aaV {cl:az} (S:Option V6) (h:cl.run 148 []=S.bind fun b=>some [.v .str b]):(o9 S).holds cl:=fun _=>h
theorem Z6:(o9 (dE 2000)).holds (A (D+1)):=aaV (dE 2000) ((aV (fd:=d148) rfl rfl rfl rfl rfl).trans (q1 (fun {R} k=>JH (fun r0=>k (r0))) (fun k=>YD k)))
theorem ZJ:(BP (fE 2000)).holds (A (D+1)):=fun (x0,_)=>.trans (aV (fd:=d114) rfl rfl rfl rfl rfl) (q2 (fun {R} k=>Co x0 k) (fun k=>Ye x0 k))
theorem ZX:(rM (dv 2000)).holds (A (D+1)):=fun (x0,_)=>.trans (aV (fd:=d137) rfl rfl rfl rfl rfl) (q2 (fun {R} k=>Cu x0 k) (fun k=>Yv x0 k))
theorem TN:(mZ (bP 2000)).holds (A (D+2)):=fun (x0,_)=>.trans (aV (fd:=d117) rfl rfl rfl rfl rfl) (q3 (fun {R} k=>sn 2000 (dv 2000) x0 k) (fun k=>Yh _ (ZX D) x0 k))
theorem aaU {cl:az} (S:(V4)→Option (aR×Bool)) (h:∀ x0,cl.run 139 [.v .str x0]=(S x0).bind fun b=>some [.v aD b.1,.v .bool b.2]):(o8 S).holds cl:=fun (x0,_)=>h x0
theorem ZZ:(o8 (dL 2000)).holds (A (D+3)):=aaU (dL 2000) (fun x0=>(aV (fd:=d139) rfl rfl rfl rfl rfl).trans (q4 (fun {R} k=>JC 2000 (fE 2000) (bP 2000) (dE 2000) x0 (fun r0 r1=>k (r0,r1))) (fun k=>Yx _ _ _ (ZJ (D+1)) (TN D) (Z6 (D+1)) x0 k)))
theorem ZM:(BR (fY 2000)).holds (A (D+4)):=fun (x0,_)=>.trans (aV (fd:=d118) rfl rfl rfl rfl rfl) (q5 (fun {R} k=>Jp 2000 (ga 2000) (dL 2000) x0 (fun r0 r1=>k (r0,r1))) (fun k=>Yi _ _ (ZY (D+2)) (ZZ D) x0 k))
theorem TP:(kO (bw 2000)).holds (A (D+1)):=fun (x0,_)=>.trans (aV (fd:=d136) rfl rfl rfl rfl rfl) (q2 (fun {R} k=>Ct x0 k) (fun k=>Yu x0 k))
theorem Z0:(BV (gd 2000)).holds (A (D+2)):=fun (x0,_)=>.trans (aV (fd:=d140) rfl rfl rfl rfl rfl) (q3 (fun {R} k=>JE 2000 (bw 2000) x0 k) (fun k=>Yy _ (TP D) x0 k))
theorem ZN:(BS (fZ 2000)).holds (A (D+3)):=fun (x0,_)=>.trans (aV (fd:=d119) rfl rfl rfl rfl rfl) (q6 (fun {R} k=>Jq 2000 (gd 2000) x0 (fun r0 r1=>k (r0,r1))) (fun k=>Yj _ (Z0 D) x0 k))
theorem ZO:(rH (dR 2000)).holds (A (D+1)):=fun (x0,_)=>.trans (aV (fd:=d120) rfl rfl rfl rfl rfl) (q1 (fun {R} k=>Js x0 k) (fun k=>Yk x0 k))
theorem aaO:(pe (cY 2000)).holds (A (D+5)):=fun (x0,_)=>.trans (aV (fd:=d94) rfl rfl rfl rfl rfl) (q7 (fun {R} k=>Ke 2000 (bR 2000) (fY 2000) (fZ 2000) (dR 2000) x0 (fun r0 r1=>k (r0,r1))) (fun k=>Zq _ _ _ _ (T6 (D+3)) (ZM D) (ZN (D+1)) (ZO (D+3)) x0 k))
theorem ZW:(o7 (cH 2000)).holds (A (D+1)):=fun (x0,_)=>.trans (aV (fd:=d135) rfl rfl rfl rfl rfl) (q2 (fun {R} k=>Cs x0 k) (fun k=>Yt x0 k))
theorem ZK:(HT (gY 2000)).holds (A (D+2)):=fun (x0,_)=>.trans (aV (fd:=d115) rfl rfl rfl rfl rfl) (q3 (fun {R} k=>sj 2000 (cH 2000) (bw 2000) x0 k) (fun k=>Yf _ _ (ZW D) (TP D) x0 k))
theorem aaL:(B3 (fq 2000)).holds (A (D+3)):=fun (x0,_)=>.trans (aV (fd:=d90) rfl rfl rfl rfl rfl) (q2 (fun {R} k=>CS (gY 2000) x0 k) (fun k=>Zm _ (ZK D) x0 k))
theorem ZI:(rG (de 2000)).holds (A (D+1)):=fun (x0,_)=>.trans (aV (fd:=d111) rfl rfl rfl rfl rfl) (q2 (fun {R} k=>Jn 2000 x0 k) (fun k=>Yd x0 k))
theorem ZL:(BQ (fF 2000)).holds (A (D+2)):=fun (x0,_)=>.trans (aV (fd:=d116) rfl rfl rfl rfl rfl) (q3 (fun {R} k=>sk 2000 (de 2000) x0 k) (fun k=>Yg _ (ZI D) x0 k))
theorem aaM:(pd (cK 2000)).holds (A (D+3)):=fun (x0,_)=>.trans (aV (fd:=d91) rfl rfl rfl rfl rfl) (q3 (fun {R} k=>s3 2000 (fF 2000) (bP 2000) x0 k) (fun k=>Zn _ _ (ZL D) (TN D) x0 k))
theorem aaJ:(Ij (gP 2000)).holds (A (D+1)):=fun (x0,x1,_)=>.trans (aV (fd:=d86) rfl rfl rfl rfl rfl) (q3 (fun {R} k=>CR x0 x1 k) (fun k=>Zk x0 x1 k))
theorem aay:(rR (dz 2000)).holds (A (D+2)):=fun (x0,x1,_)=>.trans (aV (fd:=d59) rfl rfl rfl rfl rfl) (q3 (fun {R} k=>CO (gP 2000) x0 x1 k) (fun k=>Zb _ (aaJ D) x0 x1 k))
theorem aal:(na (bM 2000)).holds (A (D+3)):=fun (x0,x1,_)=>.trans (aV (fd:=d28) rfl rfl rfl rfl rfl) (q2 (fun {R} k=>sz 2000 (dz 2000) x0 x1 k) (fun k=>YT _ (aay D) x0 x1 k))
theorem TY:(rT (dM 2000)).holds (A (D+4)):=fun (x0,_)=>.trans (aV (fd:=d67) rfl rfl rfl rfl rfl) (q8 (fun {R} k=>ou 2000 (bM 2000) (fq 2000) (cK 2000) x0 (fun r0 r1=>k (r0,r1))) (fun k=>Ze _ _ _ (aal D) (aaL D) (aaM D) x0 k))
theorem TZ:(uY (eO 2000)).holds (A (D+6)):=fun (x0,_)=>.trans (aV (fd:=d69) rfl rfl rfl rfl rfl) (q9 (fun {R} k=>J4 2000 (dM 2000) (gg 2000) (bR 2000) (cY 2000) x0 (fun r0 r1 r2=>k (r0,r1,r2))) (fun k=>Zf _ _ _ _ (TY (D+1)) (aaN (D+4)) (T6 (D+4)) (aaO D) x0 k))
theorem aaX {cl:az} (S:Option gr) (h:cl.run 37 []=S.bind fun b=>some [.v ak b]):(pb S).holds cl:=fun _=>h
theorem TR:(pb (dy 2000)).holds (A (D+7)):=aaX (dy 2000) ((aV (fd:=d37) rfl rfl rfl rfl rfl).trans (Lk (fun {R} k=>JR (eO 2000) k) (fun k=>YZ _ (TZ D) k)))
theorem Z7:(pa (cJ 2000)).holds (A (D+1)):=fun (x0,_)=>.trans (aV (fd:=d149) rfl rfl rfl rfl rfl) (q2 (fun {R} k=>CC x0 k) (fun k=>YE x0 k))
theorem Z9:(rO (dn 2000)).holds (A (D+1)):=fun (x0,_)=>.trans (aV (fd:=d150) rfl rfl rfl rfl rfl) (q2 (fun {R} k=>CD x0 k) (fun k=>YG x0 k))
theorem Z1:(HX (hP 2000)).holds (A (D+2)):=fun (x0,_)=>.trans (aV (fd:=d141) rfl rfl rfl rfl rfl) (q3 (fun {R} k=>wk 2000 (cJ 2000) (dn 2000) x0 k) (fun k=>Yz _ _ (Z7 D) (Z9 D) x0 k))
theorem ZP:(BT (fu 2000)).holds (A (D+3)):=fun (x0,_)=>.trans (aV (fd:=d121) rfl rfl rfl rfl rfl) (q2 (fun {R} k=>Cp (hP 2000) x0 k) (fun k=>Yl _ (Z1 D) x0 k))
theorem T5:(u0 (ez 2000)).holds (A (D+1)):=fun (x0,_)=>.trans (aV (fd:=d72) rfl rfl rfl rfl rfl) (q1 (fun {R} k=>sW 2000 x0 k) (fun k=>Zi x0 k))
theorem aaf:(BX (fH 2000)).holds (A (D+1)):=fun (x0,_)=>.trans (aV (fd:=d158) rfl rfl rfl rfl rfl) (q3 (fun {R} k=>sw 2000 x0 k) (fun k=>YM x0 k))
theorem ZV:(HW (ji 2000)).holds (A (D+2)):=fun (x0,x1,_)=>.trans (aV (fd:=d127) rfl rfl rfl rfl rfl) (q3 (fun {R} k=>Jx (fv 2000) x0 x1 k) (fun k=>Yr _ (Z5 D) x0 x1 k))
theorem T7:(nV (cj 2000)).holds (A (D+3)):=fun (x0,_)=>.trans (aV (fd:=d98) rfl rfl rfl rfl rfl) (q2 (fun {R} k=>Kh (ji 2000) x0 k) (fun k=>Zu _ (ZV D) x0 k))
theorem aaa:(H0 (iO 2000)).holds (A (D+4)):=fun (x0,_)=>.trans (aV (fd:=d151) rfl rfl rfl rfl rfl) (q11 (fun {R} k=>sv 2000 (cj 2000) (fH 2000) x0 (fun r0 r1=>k (r0,r1))) (fun k=>YH _ _ (T7 D) (aaf (D+2)) x0 k))
theorem Z2:(BW (fG 2000)).holds (A (D+5)):=fun (x0,_)=>.trans (aV (fd:=d142) rfl rfl rfl rfl rfl) (q3 (fun {R} k=>CA (ez 2000) (iO 2000) x0 k) (fun k=>YA _ _ (T5 (D+3)) (aaa D) x0 k))
theorem aab:(H2 (hQ 2000)).holds (A (D+1)):=fun (x0,_)=>.trans (aV (fd:=d152) rfl rfl rfl rfl rfl) (q2 (fun {R} k=>CE x0 k) (fun k=>YI x0 k))
theorem aae:(H5 (hY 2000)).holds (A (D+1)):=fun (x0,_)=>.trans (aV (fd:=d155) rfl rfl rfl rfl rfl) (q2 (fun {R} k=>CH x0 k) (fun k=>YL x0 k))
theorem aad:(H4 (hX 2000)).holds (A (D+2)):=fun (x0,_)=>.trans (aV (fd:=d154) rfl rfl rfl rfl rfl) (q2 (fun {R} k=>CG (hY 2000) x0 k) (fun k=>YK _ (aae D) x0 k))
theorem aah:(H7 (ia 2000)).holds (A (D+1)):=fun (x0,x1,x2,_)=>.trans (aV (fd:=d160) rfl rfl rfl rfl rfl) (q3 (fun {R} k=>sx 2000 x0 x1 x2 k) (fun k=>YP x0 x1 x2 k))
theorem aag:(H6 (hZ 2000)).holds (A (D+2)):=fun (x0,x1,_)=>.trans (aV (fd:=d159) rfl rfl rfl rfl rfl) (q3 (fun {R} k=>CI (ia 2000) x0 x1 k) (fun k=>YN _ (aah D) x0 x1 k))
theorem aac:(H3 (hR 2000)).holds (A (D+3)):=fun (x0,x1,_)=>.trans (aV (fd:=d153) rfl rfl rfl rfl rfl) (q2 (fun {R} k=>CF (hZ 2000) x0 x1 k) (fun k=>YJ _ (aag D) x0 x1 k))
theorem Z3:(rN (dw 2000)).holds (A (D+4)):=fun (x0,_)=>.trans (aV (fd:=d143) rfl rfl rfl rfl rfl) (q3 (fun {R} k=>CB (hQ 2000) (hR 2000) (hX 2000) x0 k) (fun k=>YB _ _ _ (aab (D+2)) (aac D) (aad (D+1)) x0 k))
theorem ZQ:(rI (df 2000)).holds (A (D+6)):=fun (x0,_)=>.trans (aV (fd:=d122) rfl rfl rfl rfl rfl) (q3 (fun {R} k=>sq 2000 (fG 2000) (dw 2000) x0 k) (fun k=>Ym _ _ (Z2 D) (Z3 (D+1)) x0 k))
theorem ZT:(HU (gZ 2000)).holds (A (D+1)):=fun (x0,x1,_)=>.trans (aV (fd:=d125) rfl rfl rfl rfl rfl) (q2 (fun {R} k=>sr 2000 x0 x1 k) (fun k=>Yp x0 x1 k))
theorem ZS:(rK (dh 2000)).holds (A (D+2)):=fun (x0,x1,_)=>.trans (aV (fd:=d124) rfl rfl rfl rfl rfl) (q2 (fun {R} k=>Cr (gZ 2000) x0 x1 k) (fun k=>Yo _ (ZT D) x0 x1 k))
theorem Z4:(HY (iN 2000)).holds (A (D+1)):=fun (x0,x1,_)=>.trans (aV (fd:=d144) rfl rfl rfl rfl rfl) (q3 (fun {R} k=>su 2000 x0 x1 k) (fun k=>YC x0 x1 k))
theorem ZR:(rJ (da 2000)).holds (A (D+2)):=fun (x0,x1,_)=>.trans (aV (fd:=d123) rfl rfl rfl rfl rfl) (q2 (fun {R} k=>Cq (iN 2000) x0 x1 k) (fun k=>Yn _ (Z4 D) x0 x1 k))
theorem aaP:(Ik (iR 2000)).holds (A (D+7)):=fun (x0,_)=>.trans (aV (fd:=d95) rfl rfl rfl rfl rfl) (q8 (fun {R} k=>s4 2000 (fu 2000) (df 2000) (da 2000) (dh 2000) x0 (fun r0 r1=>k (r0,r1))) (fun k=>Zr _ _ _ _ (ZP (D+3)) (ZQ D) (ZR (D+4)) (ZS (D+4)) x0 k))
theorem T4:(uZ (ey 2000)).holds (A (D+8)):=fun (x0,_)=>.trans (aV (fd:=d70) rfl rfl rfl rfl rfl) (q3 (fun {R} k=>CP (iR 2000) x0 k) (fun k=>Zg _ (aaP D) x0 k))
theorem aaR:(rV (dq 2000)).holds (A (D+4)):=fun (x0,_)=>.trans (aV (fd:=d97) rfl rfl rfl rfl rfl) (q2 (fun {R} k=>CU (cj 2000) x0 k) (fun k=>Zt _ (T7 D) x0 k))
theorem ZU:(HV (iM 2000)).holds (A (D+1)):=fun (x0,x1,_)=>.trans (aV (fd:=d126) rfl rfl rfl rfl rfl) (q3 (fun {R} k=>ss 2000 x0 x1 k) (fun k=>Yq x0 x1 k))
theorem aaQ:(rU (db 2000)).holds (A (D+2)):=fun (x0,x1,_)=>.trans (aV (fd:=d96) rfl rfl rfl rfl rfl) (q2 (fun {R} k=>CT (iM 2000) x0 x1 k) (fun k=>Zs _ (ZU D) x0 x1 k))
theorem aaS:(B5 (fL 2000)).holds (A (D+1)):=fun (x0,x1,_)=>.trans (aV (fd:=d99) rfl rfl rfl rfl rfl) (q1 (fun {R} k=>CV 2000 x0 x1 k) (fun k=>Zv x0 x1 k))
theorem aaD:(Ih (ij 2000)).holds (A (D+5)):=fun (x0,_)=>.trans (aV (fd:=d71) rfl rfl rfl rfl rfl) (q12 (fun {R} k=>sV 2000 (db 2000) (dq 2000) (fL 2000) x0 (fun r0 r1=>k (r0,r1))) (fun k=>Zh _ _ _ (aaQ (D+2)) (aaR D) (aaS (D+3)) x0 k))
theorem TT:(rQ (dF 2000)).holds (A (D+9)):=fun (x0,x1,_)=>.trans (aV (fd:=d40) rfl rfl rfl rfl rfl) (q3 (fun {R} k=>CK (ey 2000) (ij 2000) (ez 2000) x0 x1 k) (fun k=>Y1 _ _ _ (T4 D) (aaD (D+3)) (T5 (D+7)) x0 x1 k))
theorem aaE:(jk (bC 2000)).holds (A (D+1)):=fun (x0,x1,_)=>.trans (aV (fd:=d73) rfl rfl rfl rfl rfl) (q13 (fun {R} k=>sX x0 x1 k) (fun k=>Kq x0 x1 k))
theorem aaK:(nd (cX 2000)).holds (A (D+1)):=fun (x0,_)=>.trans (aV (fd:=d87) rfl rfl rfl rfl rfl) (q2 (fun {R} k=>sZ x0 k) (fun k=>Kt x0 k))
theorem aaz:(jj (bB 2000)).holds (A (D+2)):=fun (x0,x1,x2,x3,_)=>.trans (aV (fd:=d60) rfl rfl rfl rfl rfl) (q2 (fun {R} k=>sO (cX 2000) x0 x1 x2 x3 k) (fun k=>Kp _ (aaK D) x0 x1 x2 x3 k))
theorem aaG:(pc (fe 2000)).holds (A (D+1)):=fun (x0,x1,_)=>.trans (aV (fd:=d83) rfl rfl rfl rfl rfl) (q2 (fun {R} k=>sY x0 x1 k) (fun k=>Ks x0 x1 k))
theorem TX:(gx (aU 2000)).holds (A (D+2)):=fun (x0,x1,_)=>.trans (aV (fd:=d54) rfl rfl rfl rfl rfl) (q2 (fun {R} k=>sM (fe 2000) x0 x1 k) (fun k=>Ko _ (aaG D) x0 x1 k))
theorem atd:(kR (cz 2000)).holds (A (D+3)):=fun (x0,x1,_)=>.trans (aV (fd:=d74) rfl rfl rfl rfl rfl) (q14 (fun {R} k=>ov 2000 (aU 2000) (bB 2000) (bC 2000) x0 x1 k) (fun k=>Kr _ _ _ (TX D) (aaz D) (aaE (D+1)) x0 x1 k))
theorem asw (D:Nat) (x0:aJ) (x1:Int):bD table dI 2000 (D+1) 73 [.at bG x0,.v U2 x1]=(bC 2000 x0 x1).bind fun b=>some [.v bt b]:=by
 have e1:=aV (tb:=table) (pr:=dI) (N:=2000) (D:=D+0) (f:=73) (fd:=d73) (es:=[.at bG x0,.v U2 x1]) rfl rfl rfl rfl rfl
 exact e1.trans (dO (fd:=d73) (B:=aA) (av:=fun b=> [.v bt b]) (dr:=fun es=>((ba (bL bt) ck) es).map fun q=>(q.1)) (by intro b; kernel_rfl) (fun {R} k=>sX x0 x1 (fun (r0:aA)=>k (r0))) (fun k=>Kq x0 x1 k))
theorem T9 (D:Nat):(jk (bC 2000)).holds (bD table dI 2000 (D+1)):=fun a=>asw D a.1 a.2.1
theorem asz (D:Nat) (x0:aR):bD table dI 2000 (D+1) 87 [.v aD x0]=(cX 2000 x0).bind fun b=>some [.v .bool b]:=by
 have e1:=aV (tb:=table) (pr:=dI) (N:=2000) (D:=D+0) (f:=87) (fd:=d87) (es:=[.v aD x0]) rfl rfl rfl rfl rfl
 exact e1.trans (dO (fd:=d87) (B:=Bool) (av:=fun b=> [.v .bool b]) (dr:=fun es=>((ba (bL .bool) ck) es).map fun q=>(q.1)) (by intro b; kernel_rfl) (fun {R} k=>sZ x0 (fun (r0:Bool)=>k (r0))) (fun k=>Kt x0 k))
theorem aa2 (D:Nat):(nd (cX 2000)).holds (bD table dI 2000 (D+1)):=fun a=>asz D a.1
theorem asv (D:Nat) (x0:ae) (x1:Int) (x2:aA) (x3:aA):bD table dI 2000 (D+2) 60 [.v ak x0,.v U2 x1,.v bt x2,.v bt x3]=(bB 2000 x0 x1 x2 x3).bind fun b=>some [.v .bool b]:=by
 have h87:(nd (cX 2000)).holds (bD table dI 2000 (D+1)):=by have:=aa2 (D+0); rwa [show D+0+1=D+1 by omega] at this
 have e1:=aV (tb:=table) (pr:=dI) (N:=2000) (D:=D+1) (f:=60) (fd:=d60) (es:=[.v ak x0,.v U2 x1,.v bt x2,.v bt x3]) rfl rfl rfl rfl rfl
 exact e1.trans (dO (fd:=d60) (B:=Bool) (av:=fun b=> [.v .bool b]) (dr:=fun es=>((ba (bL .bool) ck) es).map fun q=>(q.1)) (by intro b; kernel_rfl) (fun {R} k=>sO (cX 2000) x0 x1 x2 x3 (fun (r0:Bool)=>k (r0))) (fun k=>Kp (cX 2000) h87 x0 x1 x2 x3 k))
theorem T8 (D:Nat):(jj (bB 2000)).holds (bD table dI 2000 (D+2)):=fun a=>asv D a.1 a.2.1 a.2.2.1 a.2.2.2.1
theorem asy (D:Nat) (x0:V4) (x1:V4):bD table dI 2000 (D+1) 83 [.v .str x0,.v .str x1]=(fe 2000 x0 x1).bind fun b=>some [.v .bool b]:=by
 have e1:=aV (tb:=table) (pr:=dI) (N:=2000) (D:=D+0) (f:=83) (fd:=d83) (es:=[.v .str x0,.v .str x1]) rfl rfl rfl rfl rfl
 exact e1.trans (dO (fd:=d83) (B:=Bool) (av:=fun b=> [.v .bool b]) (dr:=fun es=>((ba (bL .bool) ck) es).map fun q=>(q.1)) (by intro b; kernel_rfl) (fun {R} k=>sY x0 x1 (fun (r0:Bool)=>k (r0))) (fun k=>Ks x0 x1 k))
theorem aa1 (D:Nat):(pc (fe 2000)).holds (bD table dI 2000 (D+1)):=fun a=>asy D a.1 a.2.1
theorem asu (D:Nat) (x0:V4) (x1:V4):bD table dI 2000 (D+2) 54 [.v .str x0,.v .str x1]=(aU 2000 x0 x1).bind fun b=>some [.v .bool b]:=by
 have h83:(pc (fe 2000)).holds (bD table dI 2000 (D+1)):=by have:=aa1 (D+0); rwa [show D+0+1=D+1 by omega] at this
 have e1:=aV (tb:=table) (pr:=dI) (N:=2000) (D:=D+1) (f:=54) (fd:=d54) (es:=[.v .str x0,.v .str x1]) rfl rfl rfl rfl rfl
 exact e1.trans (dO (fd:=d54) (B:=Bool) (av:=fun b=> [.v .bool b]) (dr:=fun es=>((ba (bL .bool) ck) es).map fun q=>(q.1)) (by intro b; kernel_rfl) (fun {R} k=>sM (fe 2000) x0 x1 (fun (r0:Bool)=>k (r0))) (fun k=>Ko (fe 2000) h83 x0 x1 k))
theorem aaZ (D:Nat):(gx (aU 2000)).holds (bD table dI 2000 (D+2)):=fun a=>asu D a.1 a.2.1
theorem asx (D:Nat) (x0:aJ) (x1:a7):bD table dI 2000 (D+3) 74 [.at bG x0,.v aZ x1]=(cz 2000 x0 x1).bind fun b=>some [.own true 73 aZ .no b]:=by
 have h54:(gx (aU 2000)).holds (bD table dI 2000 (D+2)):=by have:=aaZ (D+0); rwa [show D+0+2=D+2 by omega] at this
 have h60:(jj (bB 2000)).holds (bD table dI 2000 (D+2)):=by have:=T8 (D+0); rwa [show D+0+2=D+2 by omega] at this
 have h73:(jk (bC 2000)).holds (bD table dI 2000 (D+2)):=by have:=T9 (D+1); rwa [show D+1+1=D+2 by omega] at this
 have e1:=aV (tb:=table) (pr:=dI) (N:=2000) (D:=D+2) (f:=74) (fd:=d74) (es:=[.at bG x0,.v aZ x1]) rfl rfl rfl rfl rfl
 exact e1.trans (dO (fd:=d74) (B:=cc) (av:=fun b=> [.own true 73 aZ .no b]) (dr:=fun es=>((ba (ly aZ) ck) es).map fun q=>(q.1)) (by intro b; kernel_rfl) (fun {R} k=>ov 2000 (aU 2000) (bB 2000) (bC 2000) x0 x1 (fun (r0:cc)=>k (r0))) (fun k=>Kr (aU 2000) (bB 2000) (bC 2000) h54 h60 h73 x0 x1 k))
theorem aa0 (D:Nat):(kR (cz 2000)).holds (bD table dI 2000 (D+3)):=fun a=>asx D a.1 a.2.1
theorem KA (N:Nat):∀ m,(gG (nH 2000 m)).holds (qS m)
 | 0=>fun a=>by kernel_rfl
 | m+1=>fun a=>by
   have h60:(jj (bB 2000)).holds (qS m):=yZ (by decide) (T8 2) m
   have h73:(jk (bC 2000)).holds (qS m):=yZ (by decide) (T9 3) m
   have h74:(kR (cz 2000)).holds (qS m):=yZ (by decide) (aa0 1) m
   have h41:=KA 2000 m
   have e1:=Wc (n:=41) (fd:=d41) (N:=2000) (base:=bD table dI 2000 4) (m:=m) (es:=[.loc bG (.pair .no (.pair .no (.pair .mp .no))) a.1,.v aZ a.2.1]) rfl rfl rfl
   exact e1.trans (dO (fd:=d41) (B:=aJ×Int) (av:=fun b=> [.loc bG (.pair .no (.pair .no (.pair .mp .no))) b.1,.v U2 b.2]) (dr:=fun es=>((ba (Ro bG) (ba (bL U2) ck)) es).map fun q=>(q.1,q.2.1)) (by intro b; kernel_rfl) (fun {R} k=>sD 2000 (nH 2000 m) (bB 2000) (bC 2000) (cz 2000) a.1 a.2.1 (fun (r0:aJ) (r1:Int)=>k (r0,r1))) (fun k=>Y2 (nH 2000 m) (bB 2000) (bC 2000) (cz 2000) h41 h60 h73 h74 a.1 a.2.1 k))
theorem aaq:(gG (aW 2000)).holds (A (D+1)):=fun a=>(zT rfl).trans (KA 2000 250 a)
theorem aa3 (D:Nat):(gG (aW 2000)).holds (bD table dP 2000 (D+1)):=fun a=>(zT rfl).trans (KA 2000 250 a)
theorem asC (D:Nat) (x0:aJ) (x1:Int):bD table dP 2000 (D+1) 73 [.at bG x0,.v U2 x1]=(bC 2000 x0 x1).bind fun b=>some [.v bt b]:=by
 have e1:=aV (tb:=table) (pr:=dP) (N:=2000) (D:=D+0) (f:=73) (fd:=d73) (es:=[.at bG x0,.v U2 x1]) rfl rfl rfl rfl rfl
 exact e1.trans (dO (fd:=d73) (B:=aA) (av:=fun b=> [.v bt b]) (dr:=fun es=>((ba (bL bt) ck) es).map fun q=>(q.1)) (by intro b; kernel_rfl) (fun {R} k=>sX x0 x1 (fun (r0:aA)=>k (r0))) (fun k=>Kq x0 x1 k))
theorem aa6 (D:Nat):(jk (bC 2000)).holds (bD table dP 2000 (D+1)):=fun a=>asC D a.1 a.2.1
theorem asF (D:Nat) (x0:aR):bD table dP 2000 (D+1) 87 [.v aD x0]=(cX 2000 x0).bind fun b=>some [.v .bool b]:=by
 have e1:=aV (tb:=table) (pr:=dP) (N:=2000) (D:=D+0) (f:=87) (fd:=d87) (es:=[.v aD x0]) rfl rfl rfl rfl rfl
 exact e1.trans (dO (fd:=d87) (B:=Bool) (av:=fun b=> [.v .bool b]) (dr:=fun es=>((ba (bL .bool) ck) es).map fun q=>(q.1)) (by intro b; kernel_rfl) (fun {R} k=>sZ x0 (fun (r0:Bool)=>k (r0))) (fun k=>Kt x0 k))
theorem aa9 (D:Nat):(nd (cX 2000)).holds (bD table dP 2000 (D+1)):=fun a=>asF D a.1
theorem asB (D:Nat) (x0:ae) (x1:Int) (x2:aA) (x3:aA):bD table dP 2000 (D+2) 60 [.v ak x0,.v U2 x1,.v bt x2,.v bt x3]=(bB 2000 x0 x1 x2 x3).bind fun b=>some [.v .bool b]:=by
 have h87:(nd (cX 2000)).holds (bD table dP 2000 (D+1)):=by have:=aa9 (D+0); rwa [show D+0+1=D+1 by omega] at this
 have e1:=aV (tb:=table) (pr:=dP) (N:=2000) (D:=D+1) (f:=60) (fd:=d60) (es:=[.v ak x0,.v U2 x1,.v bt x2,.v bt x3]) rfl rfl rfl rfl rfl
 exact e1.trans (dO (fd:=d60) (B:=Bool) (av:=fun b=> [.v .bool b]) (dr:=fun es=>((ba (bL .bool) ck) es).map fun q=>(q.1)) (by intro b; kernel_rfl) (fun {R} k=>sO (cX 2000) x0 x1 x2 x3 (fun (r0:Bool)=>k (r0))) (fun k=>Kp (cX 2000) h87 x0 x1 x2 x3 k))
theorem aa5 (D:Nat):(jj (bB 2000)).holds (bD table dP 2000 (D+2)):=fun a=>asB D a.1 a.2.1 a.2.2.1 a.2.2.2.1
theorem asE (D:Nat) (x0:V4) (x1:V4):bD table dP 2000 (D+1) 83 [.v .str x0,.v .str x1]=(fe 2000 x0 x1).bind fun b=>some [.v .bool b]:=by
 have e1:=aV (tb:=table) (pr:=dP) (N:=2000) (D:=D+0) (f:=83) (fd:=d83) (es:=[.v .str x0,.v .str x1]) rfl rfl rfl rfl rfl
 exact e1.trans (dO (fd:=d83) (B:=Bool) (av:=fun b=> [.v .bool b]) (dr:=fun es=>((ba (bL .bool) ck) es).map fun q=>(q.1)) (by intro b; kernel_rfl) (fun {R} k=>sY x0 x1 (fun (r0:Bool)=>k (r0))) (fun k=>Ks x0 x1 k))
theorem aa8 (D:Nat):(pc (fe 2000)).holds (bD table dP 2000 (D+1)):=fun a=>asE D a.1 a.2.1
theorem asA (D:Nat) (x0:V4) (x1:V4):bD table dP 2000 (D+2) 54 [.v .str x0,.v .str x1]=(aU 2000 x0 x1).bind fun b=>some [.v .bool b]:=by
 have h83:(pc (fe 2000)).holds (bD table dP 2000 (D+1)):=by have:=aa8 (D+0); rwa [show D+0+1=D+1 by omega] at this
 have e1:=aV (tb:=table) (pr:=dP) (N:=2000) (D:=D+1) (f:=54) (fd:=d54) (es:=[.v .str x0,.v .str x1]) rfl rfl rfl rfl rfl
 exact e1.trans (dO (fd:=d54) (B:=Bool) (av:=fun b=> [.v .bool b]) (dr:=fun es=>((ba (bL .bool) ck) es).map fun q=>(q.1)) (by intro b; kernel_rfl) (fun {R} k=>sM (fe 2000) x0 x1 (fun (r0:Bool)=>k (r0))) (fun k=>Ko (fe 2000) h83 x0 x1 k))
theorem aa4 (D:Nat):(gx (aU 2000)).holds (bD table dP 2000 (D+2)):=fun a=>asA D a.1 a.2.1
theorem asD (D:Nat) (x0:aJ) (x1:a7):bD table dP 2000 (D+3) 74 [.at bG x0,.v aZ x1]=(cz 2000 x0 x1).bind fun b=>some [.own true 73 aZ .no b]:=by
 have h54:(gx (aU 2000)).holds (bD table dP 2000 (D+2)):=by have:=aa4 (D+0); rwa [show D+0+2=D+2 by omega] at this
 have h60:(jj (bB 2000)).holds (bD table dP 2000 (D+2)):=by have:=aa5 (D+0); rwa [show D+0+2=D+2 by omega] at this
 have h73:(jk (bC 2000)).holds (bD table dP 2000 (D+2)):=by have:=aa6 (D+1); rwa [show D+1+1=D+2 by omega] at this
 have e1:=aV (tb:=table) (pr:=dP) (N:=2000) (D:=D+2) (f:=74) (fd:=d74) (es:=[.at bG x0,.v aZ x1]) rfl rfl rfl rfl rfl
 exact e1.trans (dO (fd:=d74) (B:=cc) (av:=fun b=> [.own true 73 aZ .no b]) (dr:=fun es=>((ba (ly aZ) ck) es).map fun q=>(q.1)) (by intro b; kernel_rfl) (fun {R} k=>ov 2000 (aU 2000) (bB 2000) (bC 2000) x0 x1 (fun (r0:cc)=>k (r0))) (fun k=>Kr (aU 2000) (bB 2000) (bC 2000) h54 h60 h73 x0 x1 k))
theorem aa7 (D:Nat):(kR (cz 2000)).holds (bD table dP 2000 (D+3)):=fun a=>asD D a.1 a.2.1
theorem Ua (N:Nat):∀ m,(kP (nI 2000 m)).holds (yY m)
 | 0=>fun a=>by kernel_rfl
 | m+1=>fun a=>by
   have h41:(gG (aW 2000)).holds (yY m):=yZ (by decide) (aa3 3) m
   have h74:(kR (cz 2000)).holds (yY m):=yZ (by decide) (aa7 1) m
   have h42:=Ua 2000 m
   have e1:=Wc (n:=42) (fd:=d42) (N:=2000) (base:=bD table dP 2000 4) (m:=m) (es:=[.loc bG (.pair .no (.pair .no (.pair .mp .no))) a.1,.v aZ a.2.1]) rfl rfl rfl
   exact e1.trans (dO (fd:=d42) (B:=aJ×V7) (av:=fun b=> [.loc bG (.pair .no (.pair .no (.pair .mp .no))) b.1,.own true 27 U5 .no b.2]) (dr:=fun es=>((ba (Ro bG) (ba (ly U5) ck)) es).map fun q=>(q.1,q.2.1)) (by intro b; kernel_rfl) (fun {R} k=>nj 2000 (aW 2000) (nI 2000 m) (cz 2000) a.1 a.2.1 (fun (r0:aJ) (r1:V7)=>k (r0,r1))) (fun k=>Y3 (aW 2000) (nI 2000 m) (cz 2000) h41 h42 h74 a.1 a.2.1 k))
theorem aar:(kP (bS 2000)).holds (A (D+1)):=fun a=>(zT rfl).trans (Ua 2000 250 a)
theorem TS:(uW (er 2000)).holds (A (D+1)):=fun (x0,x1,_)=>.trans (aV (fd:=d38) rfl rfl rfl rfl rfl) (q3 (fun {R} k=>sC 2000 x0 x1 k) (fun k=>Y0 x0 x1 k))
theorem aaF:(Ii (gO 2000)).holds (A (D+1)):=fun (x0,_)=>.trans (aV (fd:=d77) rfl rfl rfl rfl rfl) (q2 (fun {R} k=>CQ x0 k) (fun k=>Zj x0 k))
theorem TU:(nU (cy 2000)).holds (A (D+2)):=fun (x0,x1,_)=>.trans (aV (fd:=d46) rfl rfl rfl rfl rfl) (q3 (fun {R} k=>CM (gO 2000) x0 x1 k) (fun k=>Y6 _ (aaF D) x0 x1 k))
theorem aav:(Ie (ic 2000)).holds (A (D+3)):=fun (x0,x1,_)=>.trans (aV (fd:=d47) rfl rfl rfl rfl rfl) (q3 (fun {R} k=>sK 2000 (cy 2000) x0 x1 k) (fun k=>Y7 _ (TU D) x0 x1 k))
theorem aau:(Ic (ib 2000)).holds (A (D+1)):=fun (x0,_)=>.trans (aV (fd:=d45) rfl rfl rfl rfl rfl) (q3 (fun {R} k=>qa 2000 x0 k) (fun k=>Y5 x0 k))
theorem aat:(Ib (gD 2000)).holds (A (D+4)):=fun (x0,x1,x2,_)=>.trans (aV (fd:=d44) rfl rfl rfl rfl rfl) (q3 (fun {R} k=>CL (er 2000) (ib 2000) (cy 2000) (ic 2000) x0 x1 x2 k) (fun k=>Y4 _ _ _ _ (TS (D+2)) (aau (D+2)) (TU (D+1)) (aav D) x0 x1 x2 k))
theorem Kz:(nT (cg 2000)).holds (A (D+10)):=fun (x0,x1,_)=>.trans (aV (fd:=d16) rfl rfl rfl rfl rfl) (q15 (fun {R} k=>g16 (dF 2000) (aW 2000) (bS 2000) (eV 2000) (gD 2000) x0 x1 (fun r0 r1=>k (r0,r1))) (fun k=>YO _ _ _ _ _ (TT D) (aaq (D+8)) (aar (D+8)) (aas (D+8)) (aat (D+5)) x0 x1 k))
theorem TO:(rL (cW 2000)).holds (A (D+11)):=fun (x0,x1,_)=>.trans (aV (fd:=d13) rfl rfl rfl rfl rfl) (q16 (fun {R} k=>g13 (cg 2000) (er 2000) x0 x1 (fun r0 r1 r2=>k (r0,r1,r2))) (fun k=>Ys _ _ (Kz D) (TS (D+9)) x0 x1 k))
theorem aax:(Ig (ig 2000)).holds (A (D+2)):=fun (x0,x1,_)=>.trans (aV (fd:=d57) rfl rfl rfl rfl rfl) (q17 (fun {R} k=>sN 2000 (cF 2000) (ee 2000) x0 x1 (fun r0 r1=>k (r0,r1))) (fun k=>Za _ _ (aaH D) (aaI D) x0 x1 k))
theorem aaw:(B0 (fK 2000)).holds (A (D+9)):=fun (x0,x1,_)=>.trans (aV (fd:=d55) rfl rfl rfl rfl rfl) (q3 (fun {R} k=>CN (ig 2000) (ey 2000) x0 x1 k) (fun k=>Y9 _ _ (aax (D+6)) (T4 D) x0 x1 k))
theorem aak:(Ia (gN 2000)).holds (A (D+10)):=fun (x0,x1,_)=>.trans (aV (fd:=d24) rfl rfl rfl rfl rfl) (q18 (fun {R} k=>g24 2000 (fK 2000) x0 x1 (fun r0 r1=>k (r0,r1))) (fun k=>YS _ (aaw D) x0 x1 k))
theorem aaj:(H9 (iQ 2000)).holds (A (D+10)):=fun (x0,x1,_)=>.trans (aV (fd:=d20) rfl rfl rfl rfl rfl) (q8 (fun {R} k=>g20 2000 (dF 2000) (aU 2000) x0 x1 (fun r0 r1=>k (r0,r1))) (fun k=>YR _ _ (TT D) (TX (D+7)) x0 x1 k))
theorem TW:(kQ (bA 2000)).holds (A (D+1)):=fun (x0,x1,_)=>.trans (aV (fd:=d53) rfl rfl rfl rfl rfl) (q2 (fun {R} k=>sL 2000 x0 x1 k) (fun k=>Y8 x0 x1 k))
theorem aai:(H8 (iP 2000)).holds (A (D+2)):=fun (x0,x1,_)=>.trans (aV (fd:=d19) rfl rfl rfl rfl rfl) (q2 (fun {R} k=>g19 2000 (bA 2000) x0 x1 k) (fun k=>YQ _ (TW D) x0 x1 k))
theorem Z8:(HZ (gM 2000)).holds (A (D+1)):=fun (x0,x1,_)=>.trans (aV (fd:=d15) rfl rfl rfl rfl rfl) (q2 (fun {R} k=>g15 2000 x0 x1 k) (fun k=>YF x0 x1 k))
theorem aaT {cl:az} (S:Option (Bool)) (h:cl.run 11 []=S.bind fun b=>some [.v .bool b]):(uU S).holds cl:=fun _=>h
theorem ZH:(uU (eG 2000)).holds (A (D+12)):=aaT (eG 2000) ((aV (fd:=d11) rfl rfl rfl rfl rfl).trans (q2 (fun {R} k=>g11 (cW 2000) (gM 2000) (cg 2000) (iP 2000) (iQ 2000) (gN 2000) (dy 2000) k) (fun k=>Yc _ _ _ _ _ _ _ (TO D) (Z8 (D+10)) (Kz (D+1)) (aai (D+9)) (aaj (D+1)) (aak (D+1)) (TR (D+4)) k)))
theorem aaY {cl:az} (S:Option gr) (h:cl.run 64 []=S.bind fun b=>some [.v ak b]):(uX S).holds cl:=fun _=>h
theorem aaA:(uX (fp 2000)).holds (A (D+7)):=aaY (fp 2000) ((aV (fd:=d64) rfl rfl rfl rfl rfl).trans (Lk (fun {R} k=>J3 (eO 2000) k) (fun k=>Zc _ (TZ D) k)))
theorem TQ:(nc (bK 2000)).holds (A (D+5)):=fun (x0,_)=>.trans (aV (fd:=d35) rfl rfl rfl rfl rfl) (q3 (fun {R} k=>CJ (dM 2000) x0 k) (fun k=>YY _ (TY D) x0 k))
theorem aaW {cl:az} (S:(dT)→Option (ae)) (h:∀ x0,cl.run 32 [.v fx x0]=(S x0).bind fun b=>some [.v ak b]):(uV S).holds cl:=fun (x0,_)=>h x0
theorem aan:(uV (fw 2000)).holds (A (D+8)):=aaW (fw 2000) (fun x0=>(aV (fd:=d32) rfl rfl rfl rfl rfl).trans (Lk (fun {R} k=>iW 2000 (bK 2000) (dy 2000) (fp 2000) x0 k) (fun k=>YV _ _ _ (TQ (D+2)) (TR D) (aaA D) x0 k)))
theorem aao:(BY (fI 2000)).holds (A (D+2)):=fun (x0,_)=>.trans (aV (fd:=d33) rfl rfl rfl rfl rfl) (q19 (fun {R} k=>nY 2000 (dW 2000) x0 k) (fun k=>YW _ (aaB D) x0 k))
theorem aaC:(rS (dp 2000)).holds (A (D+1)):=fun (x0,x1,_)=>.trans (aV (fd:=d66) rfl rfl rfl rfl rfl) (q2 (fun {R} k=>qb 2000 x0 x1 k) (fun k=>Zd x0 x1 k))
theorem aap:(BZ (fJ 2000)).holds (A (D+2)):=fun (x0,_)=>.trans (aV (fd:=d34) rfl rfl rfl rfl rfl) (q2 (fun {R} k=>sB 2000 (dp 2000) x0 k) (fun k=>YX _ (aaC D) x0 k))
theorem aam:(rP (dx 2000)).holds (A (D+2)):=fun (x0,x1,_)=>.trans (aV (fd:=d31) rfl rfl rfl rfl rfl) (q2 (fun {R} k=>sA 2000 (bA 2000) x0 x1 k) (fun k=>YU _ (TW D) x0 x1 k))
theorem va9 (D:Nat) (x0:dT) (x1:V4) (x2:bm):bD table k9 2000 (D+13) 9 [.v fx x0,.v .str x1,.v bW x2]=(S9 2000 x0 x1 x2).bind fun b=>some [.v .bool b]:=(aV (fd:=d9) rfl rfl rfl rfl rfl).trans (q2 (fun {R} k=>g9 2000 (eG 2000) (cW 2000) (cg 2000) (dx 2000) (fw 2000) (fI 2000) (fJ 2000) (bK 2000) x0 x1 x2 k) (fun k=>Zl _ _ _ _ _ _ _ _ (ZH D) (TO (D+1)) (Kz (D+2)) (aam (D+10)) (aan (D+4)) (aao (D+10)) (aap (D+10)) (TQ (D+7)) x0 x1 x2 k))
end Go.Fw.L19
