/- Own work. -/
import Derived.Test.YtooiookccchmeaaGreatFwMx13
import Derived.Test.YtooiookccchmeaaGreatFwB6
set_option linter.unusedVariables false
set_option linter.unusedSimpArgs false
namespace Go.Fw.L19
open Go Go.Fw
set_option maxRecDepth 100000
abbrev A (D:Nat):az:=bz table kW 2000 D
theorem q0 {cl:az} {N:Nat} {fd:FD} {env:Env} (g:{R:Type}→(aG→Option R)→Option R) (hg:∀ {R:Type} (k:List E→Option R),exec cl N fd.body env (fun e env=>(ag fd e env).bind k)=g (fun b=>k [.own true 9 .str .no b])):exec cl N fd.body env (ag fd)=(g some).bind fun b=>some [.own true 9 .str .no b]:=dW (dr:=fun es=>((bg (ng .str) cj) es).map fun q=>(q.1)) (by intro b; kernel_rfl) g hg
theorem q1 {cl:az} {N:Nat} {fd:FD} {env:Env} (g:{R:Type}→(V4→Option R)→Option R) (hg:∀ {R:Type} (k:List E→Option R),exec cl N fd.body env (fun e env=>(ag fd e env).bind k)=g (fun b=>k [.v .str b])):exec cl N fd.body env (ag fd)=(g some).bind fun b=>some [.v .str b]:=dW (dr:=fun es=>((bg (bG .str) cj) es).map fun q=>(q.1)) (by intro b; kernel_rfl) g hg
theorem q2 {cl:az} {N:Nat} {fd:FD} {env:Env} (g:{R:Type}→(Bool→Option R)→Option R) (hg:∀ {R:Type} (k:List E→Option R),exec cl N fd.body env (fun e env=>(ag fd e env).bind k)=g (fun b=>k [.v .bool b])):exec cl N fd.body env (ag fd)=(g some).bind fun b=>some [.v .bool b]:=dW (dr:=fun es=>((bg (bG .bool) cj) es).map fun q=>(q.1)) (by intro b; kernel_rfl) g hg
theorem q3 {cl:az} {N:Nat} {fd:FD} {env:Env} (g:{R:Type}→(Int→Option R)→Option R) (hg:∀ {R:Type} (k:List E→Option R),exec cl N fd.body env (fun e env=>(ag fd e env).bind k)=g (fun b=>k [.v U2 b])):exec cl N fd.body env (ag fd)=(g some).bind fun b=>some [.v U2 b]:=dW (dr:=fun es=>((bg (bG U2) cj) es).map fun q=>(q.1)) (by intro b; kernel_rfl) g hg
theorem q4 {cl:az} {N:Nat} {fd:FD} {env:Env} (g:{R:Type}→(aR×Bool→Option R)→Option R) (hg:∀ {R:Type} (k:List E→Option R),exec cl N fd.body env (fun e env=>(ag fd e env).bind k)=g (fun b=>k [.v aB b.1,.v .bool b.2])):exec cl N fd.body env (ag fd)=(g some).bind fun b=>some [.v aB b.1,.v .bool b.2]:=dW (dr:=fun es=>((bg (bG aB) (bg (bG .bool) cj)) es).map fun q=>(q.1,q.2.1)) (by intro b; kernel_rfl) g hg
theorem q5 {cl:az} {N:Nat} {fd:FD} {env:Env} (g:{R:Type}→(aA×Int→Option R)→Option R) (hg:∀ {R:Type} (k:List E→Option R),exec cl N fd.body env (fun e env=>(ag fd e env).bind k)=g (fun b=>k [.own true 40 aB .no b.1,.v U2 b.2])):exec cl N fd.body env (ag fd)=(g some).bind fun b=>some [.own true 40 aB .no b.1,.v U2 b.2]:=dW (dr:=fun es=>((bg (ng aB) (bg (bG U2) cj)) es).map fun q=>(q.1,q.2.1)) (by intro b; kernel_rfl) g hg
theorem q6 {cl:az} {N:Nat} {fd:FD} {env:Env} (g:{R:Type}→(Int×Bool→Option R)→Option R) (hg:∀ {R:Type} (k:List E→Option R),exec cl N fd.body env (fun e env=>(ag fd e env).bind k)=g (fun b=>k [.v U2 b.1,.v .bool b.2])):exec cl N fd.body env (ag fd)=(g some).bind fun b=>some [.v U2 b.1,.v .bool b.2]:=dW (dr:=fun es=>((bg (bG U2) (bg (bG .bool) cj)) es).map fun q=>(q.1,q.2.1)) (by intro b; kernel_rfl) g hg
theorem q7 {cl:az} {N:Nat} {fd:FD} {env:Env} (g:{R:Type}→(aT×Bool→Option R)→Option R) (hg:∀ {R:Type} (k:List E→Option R),exec cl N fd.body env (fun e env=>(ag fd e env).bind k)=g (fun b=>k [.v aD b.1,.v .bool b.2])):exec cl N fd.body env (ag fd)=(g some).bind fun b=>some [.v aD b.1,.v .bool b.2]:=dW (dr:=fun es=>((bg (bG aD) (bg (bG .bool) cj)) es).map fun q=>(q.1,q.2.1)) (by intro b; kernel_rfl) g hg
theorem q8 {cl:az} {N:Nat} {fd:FD} {env:Env} (g:{R:Type}→(Int×Int→Option R)→Option R) (hg:∀ {R:Type} (k:List E→Option R),exec cl N fd.body env (fun e env=>(ag fd e env).bind k)=g (fun b=>k [.v U2 b.1,.v U2 b.2])):exec cl N fd.body env (ag fd)=(g some).bind fun b=>some [.v U2 b.1,.v U2 b.2]:=dW (dr:=fun es=>((bg (bG U2) (bg (bG U2) cj)) es).map fun q=>(q.1,q.2.1)) (by intro b; kernel_rfl) g hg
theorem q9 {cl:az} {N:Nat} {fd:FD} {env:Env} (g:{R:Type}→(ae×Int×Int→Option R)→Option R) (hg:∀ {R:Type} (k:List E→Option R),exec cl N fd.body env (fun e env=>(ag fd e env).bind k)=g (fun b=>k [.v ak b.1,.v U2 b.2.1,.v U2 b.2.2])):exec cl N fd.body env (ag fd)=(g some).bind fun b=>some [.v ak b.1,.v U2 b.2.1,.v U2 b.2.2]:=dW (dr:=fun es=>((bg (bG ak) (bg (bG U2) (bg (bG U2) cj))) es).map fun q=>(q.1,q.2.1,q.2.2.1)) (by intro b; kernel_rfl) g hg
theorem KZ {cl:az} {N:Nat} {fd:FD} {env:Env} (g:{R:Type}→(ae→Option R)→Option R) (hg:∀ {R:Type} (k:List E→Option R),exec cl N fd.body env (fun e env=>(ag fd e env).bind k)=g (fun b=>k [.v ak b])):exec cl N fd.body env (ag fd)=(g some).bind fun b=>some [.v ak b]:=dW (dr:=fun es=>((bg (bG ak) cj) es).map fun q=>(q.1)) (by intro b; kernel_rfl) g hg
theorem q11 {cl:az} {N:Nat} {fd:FD} {env:Env} (g:{R:Type}→(gq×Int→Option R)→Option R) (hg:∀ {R:Type} (k:List E→Option R),exec cl N fd.body env (fun e env=>(ag fd e env).bind k)=g (fun b=>k [.own true 179 eo .no b.1,.v U2 b.2])):exec cl N fd.body env (ag fd)=(g some).bind fun b=>some [.own true 179 eo .no b.1,.v U2 b.2]:=dW (dr:=fun es=>((bg (ng eo) (bg (bG U2) cj)) es).map fun q=>(q.1,q.2.1)) (by intro b; kernel_rfl) g hg
theorem Vx {cl:az} {N:Nat} {fd:FD} {env:Env} (g:{R:Type}→(V4×Int→Option R)→Option R) (hg:∀ {R:Type} (k:List E→Option R),exec cl N fd.body env (fun e env=>(ag fd e env).bind k)=g (fun b=>k [.v .str b.1,.v U2 b.2])):exec cl N fd.body env (ag fd)=(g some).bind fun b=>some [.v .str b.1,.v U2 b.2]:=dW (dr:=fun es=>((bg (bG .str) (bg (bG U2) cj)) es).map fun q=>(q.1,q.2.1)) (by intro b; kernel_rfl) g hg
theorem q13 {cl:az} {N:Nat} {fd:FD} {env:Env} (g:{R:Type}→(aA→Option R)→Option R) (hg:∀ {R:Type} (k:List E→Option R),exec cl N fd.body env (fun e env=>(ag fd e env).bind k)=g (fun b=>k [.v bB b])):exec cl N fd.body env (ag fd)=(g some).bind fun b=>some [.v bB b]:=dW (dr:=fun es=>((bg (bG bB) cj) es).map fun q=>(q.1)) (by intro b; kernel_rfl) g hg
theorem q14 {cl:az} {N:Nat} {fd:FD} {env:Env} (g:{R:Type}→(bV→Option R)→Option R) (hg:∀ {R:Type} (k:List E→Option R),exec cl N fd.body env (fun e env=>(ag fd e env).bind k)=g (fun b=>k [.own true 73 a6 .no b])):exec cl N fd.body env (ag fd)=(g some).bind fun b=>some [.own true 73 a6 .no b]:=dW (dr:=fun es=>((bg (ng a6) cj) es).map fun q=>(q.1)) (by intro b; kernel_rfl) g hg
theorem q15 {cl:az} {N:Nat} {fd:FD} {env:Env} (g:{R:Type}→(V7×Int→Option R)→Option R) (hg:∀ {R:Type} (k:List E→Option R),exec cl N fd.body env (fun e env=>(ag fd e env).bind k)=g (fun b=>k [.own true 27 U5 .no b.1,.v U2 b.2])):exec cl N fd.body env (ag fd)=(g some).bind fun b=>some [.own true 27 U5 .no b.1,.v U2 b.2]:=dW (dr:=fun es=>((bg (ng U5) (bg (bG U2) cj)) es).map fun q=>(q.1,q.2.1)) (by intro b; kernel_rfl) g hg
theorem q16 {cl:az} {N:Nat} {fd:FD} {env:Env} (g:{R:Type}→(V0×Int×Int→Option R)→Option R) (hg:∀ {R:Type} (k:List E→Option R),exec cl N fd.body env (fun e env=>(ag fd e env).bind k)=g (fun b=>k [.v U5 b.1,.v U2 b.2.1,.v U2 b.2.2])):exec cl N fd.body env (ag fd)=(g some).bind fun b=>some [.v U5 b.1,.v U2 b.2.1,.v U2 b.2.2]:=dW (dr:=fun es=>((bg (bG U5) (bg (bG U2) (bg (bG U2) cj))) es).map fun q=>(q.1,q.2.1,q.2.2.1)) (by intro b; kernel_rfl) g hg
theorem q17 {cl:az} {N:Nat} {fd:FD} {env:Env} (g:{R:Type}→(V4×Bool→Option R)→Option R) (hg:∀ {R:Type} (k:List E→Option R),exec cl N fd.body env (fun e env=>(ag fd e env).bind k)=g (fun b=>k [.v .str b.1,.v .bool b.2])):exec cl N fd.body env (ag fd)=(g some).bind fun b=>some [.v .str b.1,.v .bool b.2]:=dW (dr:=fun es=>((bg (bG .str) (bg (bG .bool) cj)) es).map fun q=>(q.1,q.2.1)) (by intro b; kernel_rfl) g hg
theorem q18 {cl:az} {N:Nat} {fd:FD} {env:Env} (g:{R:Type}→(V0×Int→Option R)→Option R) (hg:∀ {R:Type} (k:List E→Option R),exec cl N fd.body env (fun e env=>(ag fd e env).bind k)=g (fun b=>k [.own true 3 U2 .no b.1,.v U2 b.2])):exec cl N fd.body env (ag fd)=(g some).bind fun b=>some [.own true 3 U2 .no b.1,.v U2 b.2]:=dW (dr:=fun es=>((bg (ng U2) (bg (bG U2) cj)) es).map fun q=>(q.1,q.2.1)) (by intro b; kernel_rfl) g hg
variable (D:Nat)
theorem Z3:(jU (eX 2000)).holds (A (D+1)):=yA rfl (by intro a; kernel_rfl)
theorem asl:(lx (lp 2000)).holds (A (D+1)):=yA rfl (by intro a; kernel_rfl)
theorem aae:(im (cG 2000)).holds (A (D+1)):=yA rfl (by intro a; kernel_rfl)
theorem aaf:(jj (ej 2000)).holds (A (D+1)):=yA rfl (by intro a; kernel_rfl)
theorem ZF:(ko (fB 2000)).holds (A (D+1)):=yA rfl (by intro a; kernel_rfl)
theorem aak:(Bx (gg 2000)).holds (A (D+1)):=fun (x0,_)=>.trans (aW (fd:=d92) rfl rfl rfl rfl rfl) (q0 (fun {R} k=>JL 2000 x0 k) (fun k=>YY x0 k))
theorem Tu:(ly (bL 2000)).holds (A (D+1)):=fun (x0,_)=>.trans (aW (fd:=d93) rfl rfl rfl rfl rfl) (q0 (fun {R} k=>JM 2000 x0 k) (fun k=>YZ x0 k))
theorem Zy:(Bs (ga 2000)).holds (A (D+1)):=fun (x0,_)=>.trans (aW (fd:=d138) rfl rfl rfl rfl rfl) (q0 (fun {R} k=>I7 2000 x0 k) (fun k=>X6 x0 k))
theorem aas {cl:az} (S:Option V6) (h:cl.run 148 []=S.bind fun b=>some [.v .str b]):(pd S).holds cl:=fun _=>h
theorem ZG:(pd (dG 2000)).holds (A (D+1)):=aas (dG 2000) ((aW (fd:=d148) rfl rfl rfl rfl rfl).trans (q1 (fun {R} k=>Jd (fun r0=>k (r0))) (fun k=>Yd k)))
theorem Zi:(Bn (fI 2000)).holds (A (D+1)):=fun (x0,_)=>.trans (aW (fd:=d114) rfl rfl rfl rfl rfl) (q2 (fun {R} k=>BQ x0 k) (fun k=>XO x0 k))
theorem Zx:(rD (dw 2000)).holds (A (D+1)):=fun (x0,_)=>.trans (aW (fd:=d137) rfl rfl rfl rfl rfl) (q2 (fun {R} k=>BW x0 k) (fun k=>X5 x0 k))
theorem Tg:(mZ (bK 2000)).holds (A (D+2)):=fun (x0,_)=>.trans (aW (fd:=d117) rfl rfl rfl rfl rfl) (q3 (fun {R} k=>sh 2000 (dw 2000) x0 k) (fun k=>XR _ (Zx D) x0 k))
theorem aar {cl:az} (S:(V4)→Option (aR×Bool)) (h:∀ x0,cl.run 139 [.v .str x0]=(S x0).bind fun b=>some [.v aB b.1,.v .bool b.2]):(pc S).holds cl:=fun (x0,_)=>h x0
theorem Zz:(pc (dJ 2000)).holds (A (D+3)):=aar (dJ 2000) (fun x0=>(aW (fd:=d139) rfl rfl rfl rfl rfl).trans (q4 (fun {R} k=>I8 2000 (fI 2000) (bK 2000) (dG 2000) x0 (fun r0 r1=>k (r0,r1))) (fun k=>X7 _ _ _ (Zi (D+1)) (Tg D) (ZG (D+1)) x0 k)))
theorem Zl:(Bp (fY 2000)).holds (A (D+4)):=fun (x0,_)=>.trans (aW (fd:=d118) rfl rfl rfl rfl rfl) (q5 (fun {R} k=>IW 2000 (ga 2000) (dJ 2000) x0 (fun r0 r1=>k (r0,r1))) (fun k=>XS _ _ (Zy (D+2)) (Zz D) x0 k))
theorem Ti:(kN (bu 2000)).holds (A (D+1)):=fun (x0,_)=>.trans (aW (fd:=d136) rfl rfl rfl rfl rfl) (q2 (fun {R} k=>BV x0 k) (fun k=>X4 x0 k))
theorem ZA:(Bt (gd 2000)).holds (A (D+2)):=fun (x0,_)=>.trans (aW (fd:=d140) rfl rfl rfl rfl rfl) (q3 (fun {R} k=>Ja 2000 (bu 2000) x0 k) (fun k=>X8 _ (Ti D) x0 k))
theorem Zm:(Bq (fZ 2000)).holds (A (D+3)):=fun (x0,_)=>.trans (aW (fd:=d119) rfl rfl rfl rfl rfl) (q6 (fun {R} k=>IX 2000 (gd 2000) x0 (fun r0 r1=>k (r0,r1))) (fun k=>XT _ (ZA D) x0 k))
theorem Zn:(rz (dQ 2000)).holds (A (D+1)):=fun (x0,_)=>.trans (aW (fd:=d120) rfl rfl rfl rfl rfl) (q1 (fun {R} k=>IZ x0 k) (fun k=>XU x0 k))
theorem aal:(pk (c6 2000)).holds (A (D+5)):=fun (x0,_)=>.trans (aW (fd:=d94) rfl rfl rfl rfl rfl) (q7 (fun {R} k=>JN 2000 (bL 2000) (fY 2000) (fZ 2000) (dQ 2000) x0 (fun r0 r1=>k (r0,r1))) (fun k=>Y0 _ _ _ _ (Tu (D+3)) (Zl D) (Zm (D+1)) (Zn (D+3)) x0 k))
theorem Zw:(pb (cH 2000)).holds (A (D+1)):=fun (x0,_)=>.trans (aW (fd:=d135) rfl rfl rfl rfl rfl) (q2 (fun {R} k=>BU x0 k) (fun k=>X3 x0 k))
theorem Zj:(Hr (gY 2000)).holds (A (D+2)):=fun (x0,_)=>.trans (aW (fd:=d115) rfl rfl rfl rfl rfl) (q3 (fun {R} k=>se 2000 (cH 2000) (bu 2000) x0 k) (fun k=>XP _ _ (Zw D) (Ti D) x0 k))
theorem aai:(Bw (ft 2000)).holds (A (D+3)):=fun (x0,_)=>.trans (aW (fd:=d90) rfl rfl rfl rfl rfl) (q2 (fun {R} k=>Cp (gY 2000) x0 k) (fun k=>YW _ (Zj D) x0 k))
theorem Zh:(ry (dh 2000)).holds (A (D+1)):=fun (x0,_)=>.trans (aW (fd:=d111) rfl rfl rfl rfl rfl) (q2 (fun {R} k=>IU 2000 x0 k) (fun k=>XN x0 k))
theorem Zk:(Bo (fJ 2000)).holds (A (D+2)):=fun (x0,_)=>.trans (aW (fd:=d116) rfl rfl rfl rfl rfl) (q3 (fun {R} k=>sf 2000 (dh 2000) x0 k) (fun k=>XQ _ (Zh D) x0 k))
theorem aaj:(pj (cL 2000)).holds (A (D+3)):=fun (x0,_)=>.trans (aW (fd:=d91) rfl rfl rfl rfl rfl) (q3 (fun {R} k=>sP 2000 (fJ 2000) (bK 2000) x0 k) (fun k=>YX _ _ (Zk D) (Tg D) x0 k))
theorem aag:(HM (gP 2000)).holds (A (D+1)):=fun (x0,x1,_)=>.trans (aW (fd:=d86) rfl rfl rfl rfl rfl) (q3 (fun {R} k=>Co x0 x1 k) (fun k=>YV x0 x1 k))
theorem Z8:(rM (dD 2000)).holds (A (D+2)):=fun (x0,x1,_)=>.trans (aW (fd:=d59) rfl rfl rfl rfl rfl) (q3 (fun {R} k=>Ck (gP 2000) x0 x1 k) (fun k=>YM _ (aag D) x0 x1 k))
theorem ZW:(na (bH 2000)).holds (A (D+3)):=fun (x0,x1,_)=>.trans (aW (fd:=d28) rfl rfl rfl rfl rfl) (q2 (fun {R} k=>su 2000 (dD 2000) x0 x1 k) (fun k=>Yv _ (Z8 D) x0 x1 k))
theorem To:(rN (dK 2000)).holds (A (D+4)):=fun (x0,_)=>.trans (aW (fd:=d67) rfl rfl rfl rfl rfl) (q8 (fun {R} k=>ow 2000 (bH 2000) (ft 2000) (cL 2000) x0 (fun r0 r1=>k (r0,r1))) (fun k=>YO _ _ _ (ZW D) (aai D) (aaj D) x0 k))
theorem Tp:(uF (eP 2000)).holds (A (D+6)):=fun (x0,_)=>.trans (aW (fd:=d69) rfl rfl rfl rfl rfl) (q9 (fun {R} k=>JE 2000 (dK 2000) (gg 2000) (bL 2000) (c6 2000) x0 (fun r0 r1 r2=>k (r0,r1,r2))) (fun k=>YQ _ _ _ _ (To (D+1)) (aak (D+4)) (Tu (D+4)) (aal D) x0 k))
theorem aau {cl:az} (S:Option gr) (h:cl.run 37 []=S.bind fun b=>some [.v ak b]):(pg S).holds cl:=fun _=>h
theorem Tk:(pg (dC 2000)).holds (A (D+7)):=aau (dC 2000) ((aW (fd:=d37) rfl rfl rfl rfl rfl).trans (KZ (fun {R} k=>Jo (eP 2000) k) (fun k=>YA _ (Tp D) k)))
theorem ZH:(pe (cK 2000)).holds (A (D+1)):=fun (x0,_)=>.trans (aW (fd:=d149) rfl rfl rfl rfl rfl) (q2 (fun {R} k=>B6 x0 k) (fun k=>Ye x0 k))
theorem ZJ:(rF (dq 2000)).holds (A (D+1)):=fun (x0,_)=>.trans (aW (fd:=d150) rfl rfl rfl rfl rfl) (q2 (fun {R} k=>B7 x0 k) (fun k=>Yg x0 k))
theorem ZB:(Hw (hP 2000)).holds (A (D+2)):=fun (x0,_)=>.trans (aW (fd:=d141) rfl rfl rfl rfl rfl) (q3 (fun {R} k=>vU 2000 (cK 2000) (dq 2000) x0 k) (fun k=>X9 _ _ (ZH D) (ZJ D) x0 k))
theorem Zo:(Br (fy 2000)).holds (A (D+3)):=fun (x0,_)=>.trans (aW (fd:=d121) rfl rfl rfl rfl rfl) (q2 (fun {R} k=>BR (hP 2000) x0 k) (fun k=>XV _ (ZB D) x0 k))
theorem Ts:(uH (eB 2000)).holds (A (D+1)):=fun (x0,_)=>.trans (aW (fd:=d72) rfl rfl rfl rfl rfl) (q1 (fun {R} k=>sL 2000 x0 k) (fun k=>YT x0 k))
theorem ZP:(Bv (fL 2000)).holds (A (D+1)):=fun (x0,_)=>.trans (aW (fd:=d158) rfl rfl rfl rfl rfl) (q3 (fun {R} k=>sr 2000 x0 k) (fun k=>Ym x0 k))
theorem Zu:(Hu (jh 2000)).holds (A (D+2)):=fun (x0,x1,_)=>.trans (aW (fd:=d127) rfl rfl rfl rfl rfl) (q3 (fun {R} k=>I3 (fB 2000) x0 x1 k) (fun k=>X1 _ (ZF D) x0 x1 k))
theorem Tv:(nY (b6 2000)).holds (A (D+3)):=fun (x0,_)=>.trans (aW (fd:=d98) rfl rfl rfl rfl rfl) (q2 (fun {R} k=>JQ (jh 2000) x0 k) (fun k=>Y4 _ (Zu D) x0 k))
theorem ZK:(Hz (iM 2000)).holds (A (D+4)):=fun (x0,_)=>.trans (aW (fd:=d151) rfl rfl rfl rfl rfl) (q11 (fun {R} k=>sq 2000 (b6 2000) (fL 2000) x0 (fun r0 r1=>k (r0,r1))) (fun k=>Yh _ _ (Tv D) (ZP (D+2)) x0 k))
theorem ZC:(Bu (fK 2000)).holds (A (D+5)):=fun (x0,_)=>.trans (aW (fd:=d142) rfl rfl rfl rfl rfl) (q3 (fun {R} k=>B4 (eB 2000) (iM 2000) x0 k) (fun k=>Ya _ _ (Ts (D+3)) (ZK D) x0 k))
theorem ZL:(HA (hQ 2000)).holds (A (D+1)):=fun (x0,_)=>.trans (aW (fd:=d152) rfl rfl rfl rfl rfl) (q2 (fun {R} k=>B8 x0 k) (fun k=>Yi x0 k))
theorem ZO:(HD (hY 2000)).holds (A (D+1)):=fun (x0,_)=>.trans (aW (fd:=d155) rfl rfl rfl rfl rfl) (q2 (fun {R} k=>Cb x0 k) (fun k=>Yl x0 k))
theorem ZN:(HC (hX 2000)).holds (A (D+2)):=fun (x0,_)=>.trans (aW (fd:=d154) rfl rfl rfl rfl rfl) (q2 (fun {R} k=>Ca (hY 2000) x0 k) (fun k=>Yk _ (ZO D) x0 k))
theorem ZR:(HF (ia 2000)).holds (A (D+1)):=fun (x0,x1,x2,_)=>.trans (aW (fd:=d160) rfl rfl rfl rfl rfl) (q3 (fun {R} k=>ss 2000 x0 x1 x2 k) (fun k=>Yp x0 x1 x2 k))
theorem ZQ:(HE (hZ 2000)).holds (A (D+2)):=fun (x0,x1,_)=>.trans (aW (fd:=d159) rfl rfl rfl rfl rfl) (q3 (fun {R} k=>Cc (ia 2000) x0 x1 k) (fun k=>Yn _ (ZR D) x0 x1 k))
theorem ZM:(HB (hR 2000)).holds (A (D+3)):=fun (x0,x1,_)=>.trans (aW (fd:=d153) rfl rfl rfl rfl rfl) (q2 (fun {R} k=>B9 (hZ 2000) x0 x1 k) (fun k=>Yj _ (ZQ D) x0 x1 k))
theorem ZD:(rE (dx 2000)).holds (A (D+4)):=fun (x0,_)=>.trans (aW (fd:=d143) rfl rfl rfl rfl rfl) (q3 (fun {R} k=>B5 (hQ 2000) (hR 2000) (hX 2000) x0 k) (fun k=>Yb _ _ _ (ZL (D+2)) (ZM D) (ZN (D+1)) x0 k))
theorem Zp:(rA (dn 2000)).holds (A (D+6)):=fun (x0,_)=>.trans (aW (fd:=d122) rfl rfl rfl rfl rfl) (q3 (fun {R} k=>si 2000 (fK 2000) (dx 2000) x0 k) (fun k=>XW _ _ (ZC D) (ZD (D+1)) x0 k))
theorem Zs:(Hs (gZ 2000)).holds (A (D+1)):=fun (x0,x1,_)=>.trans (aW (fd:=d125) rfl rfl rfl rfl rfl) (q2 (fun {R} k=>sj 2000 x0 x1 k) (fun k=>XZ x0 x1 k))
theorem Zr:(rC (dp 2000)).holds (A (D+2)):=fun (x0,x1,_)=>.trans (aW (fd:=d124) rfl rfl rfl rfl rfl) (q2 (fun {R} k=>BT (gZ 2000) x0 x1 k) (fun k=>XY _ (Zs D) x0 x1 k))
theorem ZE:(Hx (iL 2000)).holds (A (D+1)):=fun (x0,x1,_)=>.trans (aW (fd:=d144) rfl rfl rfl rfl rfl) (q3 (fun {R} k=>sn 2000 x0 x1 k) (fun k=>Yc x0 x1 k))
theorem Zq:(rB (db 2000)).holds (A (D+2)):=fun (x0,x1,_)=>.trans (aW (fd:=d123) rfl rfl rfl rfl rfl) (q2 (fun {R} k=>BS (iL 2000) x0 x1 k) (fun k=>XX _ (ZE D) x0 x1 k))
theorem aam:(HN (iP 2000)).holds (A (D+7)):=fun (x0,_)=>.trans (aW (fd:=d95) rfl rfl rfl rfl rfl) (q8 (fun {R} k=>sQ 2000 (fy 2000) (dn 2000) (db 2000) (dp 2000) x0 (fun r0 r1=>k (r0,r1))) (fun k=>Y1 _ _ _ _ (Zo (D+3)) (Zp D) (Zq (D+4)) (Zr (D+4)) x0 k))
theorem Tr:(uG (eA 2000)).holds (A (D+8)):=fun (x0,_)=>.trans (aW (fd:=d70) rfl rfl rfl rfl rfl) (q3 (fun {R} k=>Cm (iP 2000) x0 k) (fun k=>YR _ (aam D) x0 k))
theorem aao:(rQ (dt 2000)).holds (A (D+4)):=fun (x0,_)=>.trans (aW (fd:=d97) rfl rfl rfl rfl rfl) (q2 (fun {R} k=>Cr (b6 2000) x0 k) (fun k=>Y3 _ (Tv D) x0 k))
theorem Zt:(Ht (iK 2000)).holds (A (D+1)):=fun (x0,x1,_)=>.trans (aW (fd:=d126) rfl rfl rfl rfl rfl) (q3 (fun {R} k=>sk 2000 x0 x1 k) (fun k=>X0 x0 x1 k))
theorem aan:(rP (dc 2000)).holds (A (D+2)):=fun (x0,x1,_)=>.trans (aW (fd:=d96) rfl rfl rfl rfl rfl) (q2 (fun {R} k=>Cq (iK 2000) x0 x1 k) (fun k=>Y2 _ (Zt D) x0 x1 k))
theorem aap:(By (fM 2000)).holds (A (D+1)):=fun (x0,x1,_)=>.trans (aW (fd:=d99) rfl rfl rfl rfl rfl) (q1 (fun {R} k=>Cs 2000 x0 x1 k) (fun k=>Y5 x0 x1 k))
theorem aab:(HL (ig 2000)).holds (A (D+5)):=fun (x0,_)=>.trans (aW (fd:=d71) rfl rfl rfl rfl rfl) (Vx (fun {R} k=>sK 2000 (dc 2000) (dt 2000) (fM 2000) x0 (fun r0 r1=>k (r0,r1))) (fun k=>YS _ _ _ (aan (D+2)) (aao D) (aap (D+3)) x0 k))
theorem Kb:(nc (bS 2000)).holds (A (D+9)):=fun (x0,x1,_)=>.trans (aW (fd:=d40) rfl rfl rfl rfl rfl) (q3 (fun {R} k=>Cf (eA 2000) (ig 2000) (eB 2000) x0 x1 k) (fun k=>YC _ _ _ (Tr D) (aab (D+3)) (Ts (D+7)) x0 x1 k))
theorem aac:(ji (bx 2000)).holds (A (D+1)):=fun (x0,x1,_)=>.trans (aW (fd:=d73) rfl rfl rfl rfl rfl) (q13 (fun {R} k=>sM x0 x1 k) (fun k=>JZ x0 x1 k))
theorem aah:(nf (cZ 2000)).holds (A (D+1)):=fun (x0,_)=>.trans (aW (fd:=d87) rfl rfl rfl rfl rfl) (q2 (fun {R} k=>sO x0 k) (fun k=>J2 x0 k))
theorem Tn:(gx (aS 2000)).holds (A (D+2)):=fun (x0,x1,x2,x3,_)=>.trans (aW (fd:=d60) rfl rfl rfl rfl rfl) (q2 (fun {R} k=>sJ (cZ 2000) x0 x1 x2 x3 k) (fun k=>JY _ (aah D) x0 x1 x2 x3 k))
theorem aad:(ph (fh 2000)).holds (A (D+1)):=fun (x0,x1,_)=>.trans (aW (fd:=d83) rfl rfl rfl rfl rfl) (q2 (fun {R} k=>sN x0 x1 k) (fun k=>J1 x0 x1 k))
theorem Tm:(gw (aU 2000)).holds (A (D+2)):=fun (x0,x1,_)=>.trans (aW (fd:=d54) rfl rfl rfl rfl rfl) (q2 (fun {R} k=>sH (fh 2000) x0 x1 k) (fun k=>JX _ (aad D) x0 x1 k))
theorem asm:(kP (cz 2000)).holds (A (D+3)):=fun (x0,x1,_)=>.trans (aW (fd:=d74) rfl rfl rfl rfl rfl) (q14 (fun {R} k=>ox 2000 (aU 2000) (aS 2000) (bx 2000) x0 x1 k) (fun k=>J0 _ _ _ (Tm D) (Tn D) (aac (D+1)) x0 x1 k))
theorem arD (D:Nat) (x0:aI) (x1:Int):bz table dH 2000 (D+1) 73 [.at bC x0,.v U2 x1]=(bx 2000 x0 x1).bind fun b=>some [.v bB b]:=by
 have e1:=aW (tb:=table) (pr:=dH) (N:=2000) (D:=D+0) (f:=73) (fd:=d73) (es:=[.at bC x0,.v U2 x1]) rfl rfl rfl rfl rfl
 exact e1.trans (dW (fd:=d73) (B:=aA) (av:=fun b=> [.v bB b]) (dr:=fun es=>((bg (bG bB) cj) es).map fun q=>(q.1)) (by intro b; kernel_rfl) (fun {R} k=>sM x0 x1 (fun (r0:aA)=>k (r0))) (fun k=>JZ x0 x1 k))
theorem Tx (D:Nat):(ji (bx 2000)).holds (bz table dH 2000 (D+1)):=fun a=>arD D a.1 a.2.1
theorem arG (D:Nat) (x0:aR):bz table dH 2000 (D+1) 87 [.v aB x0]=(cZ 2000 x0).bind fun b=>some [.v .bool b]:=by
 have e1:=aW (tb:=table) (pr:=dH) (N:=2000) (D:=D+0) (f:=87) (fd:=d87) (es:=[.v aB x0]) rfl rfl rfl rfl rfl
 exact e1.trans (dW (fd:=d87) (B:=Bool) (av:=fun b=> [.v .bool b]) (dr:=fun es=>((bg (bG .bool) cj) es).map fun q=>(q.1)) (by intro b; kernel_rfl) (fun {R} k=>sO x0 (fun (r0:Bool)=>k (r0))) (fun k=>J2 x0 k))
theorem aaz (D:Nat):(nf (cZ 2000)).holds (bz table dH 2000 (D+1)):=fun a=>arG D a.1
theorem arC (D:Nat) (x0:ae) (x1:Int) (x2:aA) (x3:aA):bz table dH 2000 (D+2) 60 [.v ak x0,.v U2 x1,.v bB x2,.v bB x3]=(aS 2000 x0 x1 x2 x3).bind fun b=>some [.v .bool b]:=by
 have h87:(nf (cZ 2000)).holds (bz table dH 2000 (D+1)):=by have:=aaz (D+0); rwa [show D+0+1=D+1 by omega] at this
 have e1:=aW (tb:=table) (pr:=dH) (N:=2000) (D:=D+1) (f:=60) (fd:=d60) (es:=[.v ak x0,.v U2 x1,.v bB x2,.v bB x3]) rfl rfl rfl rfl rfl
 exact e1.trans (dW (fd:=d60) (B:=Bool) (av:=fun b=> [.v .bool b]) (dr:=fun es=>((bg (bG .bool) cj) es).map fun q=>(q.1)) (by intro b; kernel_rfl) (fun {R} k=>sJ (cZ 2000) x0 x1 x2 x3 (fun (r0:Bool)=>k (r0))) (fun k=>JY (cZ 2000) h87 x0 x1 x2 x3 k))
theorem Tw (D:Nat):(gx (aS 2000)).holds (bz table dH 2000 (D+2)):=fun a=>arC D a.1 a.2.1 a.2.2.1 a.2.2.2.1
theorem arF (D:Nat) (x0:V4) (x1:V4):bz table dH 2000 (D+1) 83 [.v .str x0,.v .str x1]=(fh 2000 x0 x1).bind fun b=>some [.v .bool b]:=by
 have e1:=aW (tb:=table) (pr:=dH) (N:=2000) (D:=D+0) (f:=83) (fd:=d83) (es:=[.v .str x0,.v .str x1]) rfl rfl rfl rfl rfl
 exact e1.trans (dW (fd:=d83) (B:=Bool) (av:=fun b=> [.v .bool b]) (dr:=fun es=>((bg (bG .bool) cj) es).map fun q=>(q.1)) (by intro b; kernel_rfl) (fun {R} k=>sN x0 x1 (fun (r0:Bool)=>k (r0))) (fun k=>J1 x0 x1 k))
theorem aay (D:Nat):(ph (fh 2000)).holds (bz table dH 2000 (D+1)):=fun a=>arF D a.1 a.2.1
theorem arB (D:Nat) (x0:V4) (x1:V4):bz table dH 2000 (D+2) 54 [.v .str x0,.v .str x1]=(aU 2000 x0 x1).bind fun b=>some [.v .bool b]:=by
 have h83:(ph (fh 2000)).holds (bz table dH 2000 (D+1)):=by have:=aay (D+0); rwa [show D+0+1=D+1 by omega] at this
 have e1:=aW (tb:=table) (pr:=dH) (N:=2000) (D:=D+1) (f:=54) (fd:=d54) (es:=[.v .str x0,.v .str x1]) rfl rfl rfl rfl rfl
 exact e1.trans (dW (fd:=d54) (B:=Bool) (av:=fun b=> [.v .bool b]) (dr:=fun es=>((bg (bG .bool) cj) es).map fun q=>(q.1)) (by intro b; kernel_rfl) (fun {R} k=>sH (fh 2000) x0 x1 (fun (r0:Bool)=>k (r0))) (fun k=>JX (fh 2000) h83 x0 x1 k))
theorem aaw (D:Nat):(gw (aU 2000)).holds (bz table dH 2000 (D+2)):=fun a=>arB D a.1 a.2.1
theorem arE (D:Nat) (x0:aI) (x1:a8):bz table dH 2000 (D+3) 74 [.at bC x0,.v a6 x1]=(cz 2000 x0 x1).bind fun b=>some [.own true 73 a6 .no b]:=by
 have h54:(gw (aU 2000)).holds (bz table dH 2000 (D+2)):=by have:=aaw (D+0); rwa [show D+0+2=D+2 by omega] at this
 have h60:(gx (aS 2000)).holds (bz table dH 2000 (D+2)):=by have:=Tw (D+0); rwa [show D+0+2=D+2 by omega] at this
 have h73:(ji (bx 2000)).holds (bz table dH 2000 (D+2)):=by have:=Tx (D+1); rwa [show D+1+1=D+2 by omega] at this
 have e1:=aW (tb:=table) (pr:=dH) (N:=2000) (D:=D+2) (f:=74) (fd:=d74) (es:=[.at bC x0,.v a6 x1]) rfl rfl rfl rfl rfl
 exact e1.trans (dW (fd:=d74) (B:=bV) (av:=fun b=> [.own true 73 a6 .no b]) (dr:=fun es=>((bg (ng a6) cj) es).map fun q=>(q.1)) (by intro b; kernel_rfl) (fun {R} k=>ox 2000 (aU 2000) (aS 2000) (bx 2000) x0 x1 (fun (r0:bV)=>k (r0))) (fun k=>J0 (aU 2000) (aS 2000) (bx 2000) h54 h60 h73 x0 x1 k))
theorem aax (D:Nat):(kP (cz 2000)).holds (bz table dH 2000 (D+3)):=fun a=>arE D a.1 a.2.1
theorem Ke (N:Nat):∀ m,(gG (nH 2000 m)).holds (qJ m)
 | 0=>fun a=>by kernel_rfl
 | m+1=>fun a=>by
   have h60:(gx (aS 2000)).holds (qJ m):=yD (by decide) (Tw 2) m
   have h73:(ji (bx 2000)).holds (qJ m):=yD (by decide) (Tx 3) m
   have h74:(kP (cz 2000)).holds (qJ m):=yD (by decide) (aax 1) m
   have h41:=Ke 2000 m
   have e1:=Vy (n:=41) (fd:=d41) (N:=2000) (base:=bz table dH 2000 4) (m:=m) (es:=[.loc bC (.pair .no (.pair .no (.pair .mp .no))) a.1,.v a6 a.2.1]) rfl rfl rfl
   exact e1.trans (dW (fd:=d41) (B:=aI×Int) (av:=fun b=> [.loc bC (.pair .no (.pair .no (.pair .mp .no))) b.1,.v U2 b.2]) (dr:=fun es=>((bg (QO bC) (bg (bG U2) cj)) es).map fun q=>(q.1,q.2.1)) (by intro b; kernel_rfl) (fun {R} k=>sz 2000 (nH 2000 m) (aS 2000) (bx 2000) (cz 2000) a.1 a.2.1 (fun (r0:aI) (r1:Int)=>k (r0,r1))) (fun k=>YD (nH 2000 m) (aS 2000) (bx 2000) (cz 2000) h41 h60 h73 h74 a.1 a.2.1 k))
theorem Z1:(gG (aX 2000)).holds (A (D+1)):=fun a=>(zr rfl).trans (Ke 2000 250 a)
theorem aaA (D:Nat):(gG (aX 2000)).holds (bz table dN 2000 (D+1)):=fun a=>(zr rfl).trans (Ke 2000 250 a)
theorem arJ (D:Nat) (x0:aI) (x1:Int):bz table dN 2000 (D+1) 73 [.at bC x0,.v U2 x1]=(bx 2000 x0 x1).bind fun b=>some [.v bB b]:=by
 have e1:=aW (tb:=table) (pr:=dN) (N:=2000) (D:=D+0) (f:=73) (fd:=d73) (es:=[.at bC x0,.v U2 x1]) rfl rfl rfl rfl rfl
 exact e1.trans (dW (fd:=d73) (B:=aA) (av:=fun b=> [.v bB b]) (dr:=fun es=>((bg (bG bB) cj) es).map fun q=>(q.1)) (by intro b; kernel_rfl) (fun {R} k=>sM x0 x1 (fun (r0:aA)=>k (r0))) (fun k=>JZ x0 x1 k))
theorem aaD (D:Nat):(ji (bx 2000)).holds (bz table dN 2000 (D+1)):=fun a=>arJ D a.1 a.2.1
theorem arM (D:Nat) (x0:aR):bz table dN 2000 (D+1) 87 [.v aB x0]=(cZ 2000 x0).bind fun b=>some [.v .bool b]:=by
 have e1:=aW (tb:=table) (pr:=dN) (N:=2000) (D:=D+0) (f:=87) (fd:=d87) (es:=[.v aB x0]) rfl rfl rfl rfl rfl
 exact e1.trans (dW (fd:=d87) (B:=Bool) (av:=fun b=> [.v .bool b]) (dr:=fun es=>((bg (bG .bool) cj) es).map fun q=>(q.1)) (by intro b; kernel_rfl) (fun {R} k=>sO x0 (fun (r0:Bool)=>k (r0))) (fun k=>J2 x0 k))
theorem aaG (D:Nat):(nf (cZ 2000)).holds (bz table dN 2000 (D+1)):=fun a=>arM D a.1
theorem arI (D:Nat) (x0:ae) (x1:Int) (x2:aA) (x3:aA):bz table dN 2000 (D+2) 60 [.v ak x0,.v U2 x1,.v bB x2,.v bB x3]=(aS 2000 x0 x1 x2 x3).bind fun b=>some [.v .bool b]:=by
 have h87:(nf (cZ 2000)).holds (bz table dN 2000 (D+1)):=by have:=aaG (D+0); rwa [show D+0+1=D+1 by omega] at this
 have e1:=aW (tb:=table) (pr:=dN) (N:=2000) (D:=D+1) (f:=60) (fd:=d60) (es:=[.v ak x0,.v U2 x1,.v bB x2,.v bB x3]) rfl rfl rfl rfl rfl
 exact e1.trans (dW (fd:=d60) (B:=Bool) (av:=fun b=> [.v .bool b]) (dr:=fun es=>((bg (bG .bool) cj) es).map fun q=>(q.1)) (by intro b; kernel_rfl) (fun {R} k=>sJ (cZ 2000) x0 x1 x2 x3 (fun (r0:Bool)=>k (r0))) (fun k=>JY (cZ 2000) h87 x0 x1 x2 x3 k))
theorem aaC (D:Nat):(gx (aS 2000)).holds (bz table dN 2000 (D+2)):=fun a=>arI D a.1 a.2.1 a.2.2.1 a.2.2.2.1
theorem arL (D:Nat) (x0:V4) (x1:V4):bz table dN 2000 (D+1) 83 [.v .str x0,.v .str x1]=(fh 2000 x0 x1).bind fun b=>some [.v .bool b]:=by
 have e1:=aW (tb:=table) (pr:=dN) (N:=2000) (D:=D+0) (f:=83) (fd:=d83) (es:=[.v .str x0,.v .str x1]) rfl rfl rfl rfl rfl
 exact e1.trans (dW (fd:=d83) (B:=Bool) (av:=fun b=> [.v .bool b]) (dr:=fun es=>((bg (bG .bool) cj) es).map fun q=>(q.1)) (by intro b; kernel_rfl) (fun {R} k=>sN x0 x1 (fun (r0:Bool)=>k (r0))) (fun k=>J1 x0 x1 k))
theorem aaF (D:Nat):(ph (fh 2000)).holds (bz table dN 2000 (D+1)):=fun a=>arL D a.1 a.2.1
theorem arH (D:Nat) (x0:V4) (x1:V4):bz table dN 2000 (D+2) 54 [.v .str x0,.v .str x1]=(aU 2000 x0 x1).bind fun b=>some [.v .bool b]:=by
 have h83:(ph (fh 2000)).holds (bz table dN 2000 (D+1)):=by have:=aaF (D+0); rwa [show D+0+1=D+1 by omega] at this
 have e1:=aW (tb:=table) (pr:=dN) (N:=2000) (D:=D+1) (f:=54) (fd:=d54) (es:=[.v .str x0,.v .str x1]) rfl rfl rfl rfl rfl
 exact e1.trans (dW (fd:=d54) (B:=Bool) (av:=fun b=> [.v .bool b]) (dr:=fun es=>((bg (bG .bool) cj) es).map fun q=>(q.1)) (by intro b; kernel_rfl) (fun {R} k=>sH (fh 2000) x0 x1 (fun (r0:Bool)=>k (r0))) (fun k=>JX (fh 2000) h83 x0 x1 k))
theorem aaB (D:Nat):(gw (aU 2000)).holds (bz table dN 2000 (D+2)):=fun a=>arH D a.1 a.2.1
theorem arK (D:Nat) (x0:aI) (x1:a8):bz table dN 2000 (D+3) 74 [.at bC x0,.v a6 x1]=(cz 2000 x0 x1).bind fun b=>some [.own true 73 a6 .no b]:=by
 have h54:(gw (aU 2000)).holds (bz table dN 2000 (D+2)):=by have:=aaB (D+0); rwa [show D+0+2=D+2 by omega] at this
 have h60:(gx (aS 2000)).holds (bz table dN 2000 (D+2)):=by have:=aaC (D+0); rwa [show D+0+2=D+2 by omega] at this
 have h73:(ji (bx 2000)).holds (bz table dN 2000 (D+2)):=by have:=aaD (D+1); rwa [show D+1+1=D+2 by omega] at this
 have e1:=aW (tb:=table) (pr:=dN) (N:=2000) (D:=D+2) (f:=74) (fd:=d74) (es:=[.at bC x0,.v a6 x1]) rfl rfl rfl rfl rfl
 exact e1.trans (dW (fd:=d74) (B:=bV) (av:=fun b=> [.own true 73 a6 .no b]) (dr:=fun es=>((bg (ng a6) cj) es).map fun q=>(q.1)) (by intro b; kernel_rfl) (fun {R} k=>ox 2000 (aU 2000) (aS 2000) (bx 2000) x0 x1 (fun (r0:bV)=>k (r0))) (fun k=>J0 (aU 2000) (aS 2000) (bx 2000) h54 h60 h73 x0 x1 k))
theorem aaE (D:Nat):(kP (cz 2000)).holds (bz table dN 2000 (D+3)):=fun a=>arK D a.1 a.2.1
theorem Tz (N:Nat):∀ m,(kO (nI 2000 m)).holds (yC m)
 | 0=>fun a=>by kernel_rfl
 | m+1=>fun a=>by
   have h41:(gG (aX 2000)).holds (yC m):=yD (by decide) (aaA 3) m
   have h74:(kP (cz 2000)).holds (yC m):=yD (by decide) (aaE 1) m
   have h42:=Tz 2000 m
   have e1:=Vy (n:=42) (fd:=d42) (N:=2000) (base:=bz table dN 2000 4) (m:=m) (es:=[.loc bC (.pair .no (.pair .no (.pair .mp .no))) a.1,.v a6 a.2.1]) rfl rfl rfl
   exact e1.trans (dW (fd:=d42) (B:=aI×V7) (av:=fun b=> [.loc bC (.pair .no (.pair .no (.pair .mp .no))) b.1,.own true 27 U5 .no b.2]) (dr:=fun es=>((bg (QO bC) (bg (ng U5) cj)) es).map fun q=>(q.1,q.2.1)) (by intro b; kernel_rfl) (fun {R} k=>np 2000 (aX 2000) (nI 2000 m) (cz 2000) a.1 a.2.1 (fun (r0:aI) (r1:V7)=>k (r0,r1))) (fun k=>YE (aX 2000) (nI 2000 m) (cz 2000) h41 h42 h74 a.1 a.2.1 k))
theorem Z2:(kO (bM 2000)).holds (A (D+1)):=fun a=>(zr rfl).trans (Tz 2000 250 a)
theorem Ka:(nV (cm 2000)).holds (A (D+1)):=fun (x0,x1,_)=>.trans (aW (fd:=d38) rfl rfl rfl rfl rfl) (q3 (fun {R} k=>sx 2000 x0 x1 k) (fun k=>YB x0 x1 k))
theorem Tt:(uI (dT 2000)).holds (A (D+1)):=fun (x0,_)=>.trans (aW (fd:=d77) rfl rfl rfl rfl rfl) (q2 (fun {R} k=>xX x0 k) (fun k=>YU x0 k))
theorem Tl:(nW (cy 2000)).holds (A (D+2)):=fun (x0,x1,_)=>.trans (aW (fd:=d46) rfl rfl rfl rfl rfl) (q3 (fun {R} k=>Ci (dT 2000) x0 x1 k) (fun k=>YH _ (Tt D) x0 x1 k))
theorem Z6:(HK (ic 2000)).holds (A (D+3)):=fun (x0,x1,_)=>.trans (aW (fd:=d47) rfl rfl rfl rfl rfl) (q3 (fun {R} k=>sG 2000 (cy 2000) x0 x1 k) (fun k=>YI _ (Tl D) x0 x1 k))
theorem Z5:(HJ (ib 2000)).holds (A (D+1)):=fun (x0,_)=>.trans (aW (fd:=d45) rfl rfl rfl rfl rfl) (q3 (fun {R} k=>pZ 2000 x0 k) (fun k=>YG x0 k))
theorem Z4:(HI (gD 2000)).holds (A (D+4)):=fun (x0,x1,x2,_)=>.trans (aW (fd:=d44) rfl rfl rfl rfl rfl) (q3 (fun {R} k=>Cg (cm 2000) (ib 2000) (cy 2000) (ic 2000) x0 x1 x2 k) (fun k=>YF _ _ _ _ (Ka (D+2)) (Z5 (D+2)) (Tl (D+1)) (Z6 D) x0 x1 x2 k))
theorem J9:(nT (cg 2000)).holds (A (D+10)):=fun (x0,x1,_)=>.trans (aW (fd:=d16) rfl rfl rfl rfl rfl) (q15 (fun {R} k=>g16 (bS 2000) (aX 2000) (bM 2000) (eX 2000) (gD 2000) x0 x1 (fun r0 r1=>k (r0,r1))) (fun k=>Yo _ _ _ _ _ (Kb D) (Z1 (D+8)) (Z2 (D+8)) (Z3 (D+8)) (Z4 (D+5)) x0 x1 k))
theorem Zv:(Hv (gN 2000)).holds (A (D+11)):=fun (x0,x1,_)=>.trans (aW (fd:=d13) rfl rfl rfl rfl rfl) (q16 (fun {R} k=>g13 (cg 2000) (cm 2000) x0 x1 (fun r0 r1 r2=>k (r0,r1,r2))) (fun k=>X2 _ _ (J9 D) (Ka (D+9)) x0 x1 k))
theorem Kd:(nX (cB 2000)).holds (A (D+2)):=fun (x0,x1,_)=>.trans (aW (fd:=d57) rfl rfl rfl rfl rfl) (q17 (fun {R} k=>sI 2000 (cG 2000) (ej 2000) x0 x1 (fun r0 r1=>k (r0,r1))) (fun k=>YL _ _ (aae D) (aaf D) x0 x1 k))
theorem Kc:(nd (bT 2000)).holds (A (D+9)):=fun (x0,x1,_)=>.trans (aW (fd:=d55) rfl rfl rfl rfl rfl) (q3 (fun {R} k=>Cj (cB 2000) (eA 2000) x0 x1 k) (fun k=>YK _ _ (Kd (D+6)) (Tr D) x0 x1 k))
theorem Tj:(nU (ck 2000)).holds (A (D+10)):=fun (x0,x1,_)=>.trans (aW (fd:=d24) rfl rfl rfl rfl rfl) (q18 (fun {R} k=>g24 2000 (bT 2000) x0 x1 (fun r0 r1=>k (r0,r1))) (fun k=>Yt _ (Kc D) x0 x1 k))
theorem ZT:(HH (iO 2000)).holds (A (D+10)):=fun (x0,x1,_)=>.trans (aW (fd:=d20) rfl rfl rfl rfl rfl) (q8 (fun {R} k=>g20 2000 (bS 2000) (aU 2000) x0 x1 (fun r0 r1=>k (r0,r1))) (fun k=>Yr _ _ (Kb D) (Tm (D+7)) x0 x1 k))
theorem Z7:(rL (dR 2000)).holds (A (D+1)):=fun (x0,x1,_)=>.trans (aW (fd:=d53) rfl rfl rfl rfl rfl) (q2 (fun {R} k=>Js 2000 x0 x1 k) (fun k=>YJ x0 x1 k))
theorem ZS:(HG (iN 2000)).holds (A (D+2)):=fun (x0,x1,_)=>.trans (aW (fd:=d19) rfl rfl rfl rfl rfl) (q2 (fun {R} k=>g19 2000 (dR 2000) x0 x1 k) (fun k=>Yq _ (Z7 D) x0 x1 k))
theorem ZI:(Hy (gO 2000)).holds (A (D+1)):=fun (x0,x1,_)=>.trans (aW (fd:=d15) rfl rfl rfl rfl rfl) (q2 (fun {R} k=>g15 2000 x0 x1 k) (fun k=>Yf x0 x1 k))
theorem aaq {cl:az} (S:Option (Bool)) (h:cl.run 11 []=S.bind fun b=>some [.v .bool b]):(uC S).holds cl:=fun _=>h
theorem Zg:(uC (eO 2000)).holds (A (D+12)):=aaq (eO 2000) ((aW (fd:=d11) rfl rfl rfl rfl rfl).trans (q2 (fun {R} k=>g11 (gN 2000) (gO 2000) (cg 2000) (iN 2000) (iO 2000) (ck 2000) (dC 2000) k) (fun k=>XM _ _ _ _ _ _ _ (Zv D) (ZI (D+10)) (J9 (D+1)) (ZS (D+9)) (ZT (D+1)) (Tj (D+1)) (Tk (D+4)) k)))
theorem aav {cl:az} (S:Option gr) (h:cl.run 64 []=S.bind fun b=>some [.v ak b]):(uE S).holds cl:=fun _=>h
theorem Z9:(uE (fr 2000)).holds (A (D+7)):=aav (fr 2000) ((aW (fd:=d64) rfl rfl rfl rfl rfl).trans (KZ (fun {R} k=>JC (eP 2000) k) (fun k=>YN _ (Tp D) k)))
theorem ZZ:(rJ (cP 2000)).holds (A (D+5)):=fun (x0,_)=>.trans (aW (fd:=d35) rfl rfl rfl rfl rfl) (q3 (fun {R} k=>Ce (dK 2000) x0 k) (fun k=>Yy _ (To D) x0 k))
theorem aat {cl:az} (S:(dU)→Option (ae)) (h:∀ x0,cl.run 32 [.v fi x0]=(S x0).bind fun b=>some [.v ak b]):(uD S).holds cl:=fun (x0,_)=>h x0
theorem ZY:(uD (fD 2000)).holds (A (D+8)):=aat (fD 2000) (fun x0=>(aW (fd:=d32) rfl rfl rfl rfl rfl).trans (KZ (fun {R} k=>iU 2000 (cP 2000) (dC 2000) (fr 2000) x0 k) (fun k=>Yx _ _ _ (ZZ (D+2)) (Tk D) (Z9 D) x0 k)))
theorem ZV:(rH (dz 2000)).holds (A (D+10)):=fun (x0,x1,_)=>.trans (aW (fd:=d26) rfl rfl rfl rfl rfl) (Vx (fun {R} k=>Cd (bT 2000) (cB 2000) x0 x1 (fun r0 r1=>k (r0,r1))) (fun k=>Yu _ _ (Kc D) (Kd (D+7)) x0 x1 k))
theorem ZU:(rG (dy 2000)).holds (A (D+10)):=fun (x0,x1,_)=>.trans (aW (fd:=d22) rfl rfl rfl rfl rfl) (q5 (fun {R} k=>g22 2000 (bT 2000) x0 x1 (fun r0 r1=>k (r0,r1))) (fun k=>Ys _ (Kc D) x0 x1 k))
theorem ZX:(rI (dA 2000)).holds (A (D+10)):=fun (x0,x1,x2,_)=>.trans (aW (fd:=d29) rfl rfl rfl rfl rfl) (q8 (fun {R} k=>sv 2000 (cm 2000) (bS 2000) (cB 2000) (aS 2000) x0 x1 x2 (fun r0 r1=>k (r0,r1))) (fun k=>Yw _ _ _ _ (Ka (D+8)) (Kb D) (Kd (D+7)) (Tn (D+7)) x0 x1 x2 k))
theorem aaa:(rO (dE 2000)).holds (A (D+2)):=fun (x0,x1,_)=>.trans (aW (fd:=d68) rfl rfl rfl rfl rfl) (q2 (fun {R} k=>Cl (dT 2000) x0 x1 k) (fun k=>YP _ (Tt D) x0 x1 k))
theorem Z0:(rK (dB 2000)).holds (A (D+3)):=fun (x0,_)=>.trans (aW (fd:=d36) rfl rfl rfl rfl rfl) (q2 (fun {R} k=>sw 2000 (dE 2000) x0 k) (fun k=>Yz _ (aaa D) x0 k))
theorem ary (D:Nat) (x0:dU) (x1:V4):bz table kW 2000 (D+13) 10 [.v fi x0,.v .str x1]=(Dv 2000 x0 x1).bind fun b=>some [.v .bool b]:=(aW (fd:=d10) rfl rfl rfl rfl rfl).trans (q2 (fun {R} k=>g10 2000 (eO 2000) (cg 2000) (dy 2000) (ck 2000) (dz 2000) (dA 2000) (fD 2000) (dB 2000) x0 x1 k) (fun k=>XL _ _ _ _ _ _ _ _ (Zg D) (J9 (D+2)) (ZU (D+2)) (Tj (D+2)) (ZV (D+2)) (ZX (D+2)) (ZY (D+4)) (Z0 (D+9)) x0 x1 k))
end Go.Fw.L19
