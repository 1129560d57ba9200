/- Own work. -/
import Derived.Test.YtooiookccchmeaaGreatFwMm13
import Derived.Test.YtooiookccchmeaaGreatFwB6
set_option linter.unusedVariables false
set_option linter.unusedSimpArgs false
namespace Go.Fw.L19
open Go Go.Fw
set_option maxRecDepth 100000
abbrev A (D:Nat):ay:=bz table kj 2000 D
theorem q0 {cl:ay} {N:Nat} {fd:FD} {env:Env} (g:{R:Type}→(aD→Option R)→Option R) (hg:∀ {R:Type} (k:List E→Option R),exec cl N fd.body env (fun e env=>(ah fd e env).bind k)=g (fun b=>k [.own true 9 .str .no b])):exec cl N fd.body env (ah fd)=(g some).bind fun b=>some [.own true 9 .str .no b]:=dD (dr:=fun es=>((bc (mh .str) bY) es).map fun q=>(q.1)) (by intro b; kernel_rfl) g hg
theorem q1 {cl:ay} {N:Nat} {fd:FD} {env:Env} (g:{R:Type}→(V3→Option R)→Option R) (hg:∀ {R:Type} (k:List E→Option R),exec cl N fd.body env (fun e env=>(ah fd e env).bind k)=g (fun b=>k [.v .str b])):exec cl N fd.body env (ah fd)=(g some).bind fun b=>some [.v .str b]:=dD (dr:=fun es=>((bc (bG .str) bY) es).map fun q=>(q.1)) (by intro b; kernel_rfl) g hg
theorem q2 {cl:ay} {N:Nat} {fd:FD} {env:Env} (g:{R:Type}→(Bool→Option R)→Option R) (hg:∀ {R:Type} (k:List E→Option R),exec cl N fd.body env (fun e env=>(ah fd e env).bind k)=g (fun b=>k [.v .bool b])):exec cl N fd.body env (ah fd)=(g some).bind fun b=>some [.v .bool b]:=dD (dr:=fun es=>((bc (bG .bool) bY) es).map fun q=>(q.1)) (by intro b; kernel_rfl) g hg
theorem q3 {cl:ay} {N:Nat} {fd:FD} {env:Env} (g:{R:Type}→(Int→Option R)→Option R) (hg:∀ {R:Type} (k:List E→Option R),exec cl N fd.body env (fun e env=>(ah fd e env).bind k)=g (fun b=>k [.v U2 b])):exec cl N fd.body env (ah fd)=(g some).bind fun b=>some [.v U2 b]:=dD (dr:=fun es=>((bc (bG U2) bY) es).map fun q=>(q.1)) (by intro b; kernel_rfl) g hg
theorem q4 {cl:ay} {N:Nat} {fd:FD} {env:Env} (g:{R:Type}→(aN×Bool→Option R)→Option R) (hg:∀ {R:Type} (k:List E→Option R),exec cl N fd.body env (fun e env=>(ah fd e env).bind k)=g (fun b=>k [.v aA b.1,.v .bool b.2])):exec cl N fd.body env (ah fd)=(g some).bind fun b=>some [.v aA b.1,.v .bool b.2]:=dD (dr:=fun es=>((bc (bG aA) (bc (bG .bool) bY)) es).map fun q=>(q.1,q.2.1)) (by intro b; kernel_rfl) g hg
theorem q5 {cl:ay} {N:Nat} {fd:FD} {env:Env} (g:{R:Type}→(aB×Int→Option R)→Option R) (hg:∀ {R:Type} (k:List E→Option R),exec cl N fd.body env (fun e env=>(ah fd e env).bind k)=g (fun b=>k [.own true 40 aA .no b.1,.v U2 b.2])):exec cl N fd.body env (ah fd)=(g some).bind fun b=>some [.own true 40 aA .no b.1,.v U2 b.2]:=dD (dr:=fun es=>((bc (mh aA) (bc (bG U2) bY)) es).map fun q=>(q.1,q.2.1)) (by intro b; kernel_rfl) g hg
theorem q6 {cl:ay} {N:Nat} {fd:FD} {env:Env} (g:{R:Type}→(Int×Bool→Option R)→Option R) (hg:∀ {R:Type} (k:List E→Option R),exec cl N fd.body env (fun e env=>(ah fd e env).bind k)=g (fun b=>k [.v U2 b.1,.v .bool b.2])):exec cl N fd.body env (ah fd)=(g some).bind fun b=>some [.v U2 b.1,.v .bool b.2]:=dD (dr:=fun es=>((bc (bG U2) (bc (bG .bool) bY)) es).map fun q=>(q.1,q.2.1)) (by intro b; kernel_rfl) g hg
theorem q7 {cl:ay} {N:Nat} {fd:FD} {env:Env} (g:{R:Type}→(aT×Bool→Option R)→Option R) (hg:∀ {R:Type} (k:List E→Option R),exec cl N fd.body env (fun e env=>(ah fd e env).bind k)=g (fun b=>k [.v aG b.1,.v .bool b.2])):exec cl N fd.body env (ah fd)=(g some).bind fun b=>some [.v aG b.1,.v .bool b.2]:=dD (dr:=fun es=>((bc (bG aG) (bc (bG .bool) bY)) es).map fun q=>(q.1,q.2.1)) (by intro b; kernel_rfl) g hg
theorem q8 {cl:ay} {N:Nat} {fd:FD} {env:Env} (g:{R:Type}→(Int×Int→Option R)→Option R) (hg:∀ {R:Type} (k:List E→Option R),exec cl N fd.body env (fun e env=>(ah fd e env).bind k)=g (fun b=>k [.v U2 b.1,.v U2 b.2])):exec cl N fd.body env (ah fd)=(g some).bind fun b=>some [.v U2 b.1,.v U2 b.2]:=dD (dr:=fun es=>((bc (bG U2) (bc (bG U2) bY)) es).map fun q=>(q.1,q.2.1)) (by intro b; kernel_rfl) g hg
theorem q9 {cl:ay} {N:Nat} {fd:FD} {env:Env} (g:{R:Type}→(ag×Int×Int→Option R)→Option R) (hg:∀ {R:Type} (k:List E→Option R),exec cl N fd.body env (fun e env=>(ah fd e env).bind k)=g (fun b=>k [.v az b.1,.v U2 b.2.1,.v U2 b.2.2])):exec cl N fd.body env (ah fd)=(g some).bind fun b=>some [.v az b.1,.v U2 b.2.1,.v U2 b.2.2]:=dD (dr:=fun es=>((bc (bG az) (bc (bG U2) (bc (bG U2) bY))) es).map fun q=>(q.1,q.2.1,q.2.2.1)) (by intro b; kernel_rfl) g hg
theorem q10 {cl:ay} {N:Nat} {fd:FD} {env:Env} (g:{R:Type}→(ag→Option R)→Option R) (hg:∀ {R:Type} (k:List E→Option R),exec cl N fd.body env (fun e env=>(ah fd e env).bind k)=g (fun b=>k [.v az b])):exec cl N fd.body env (ah fd)=(g some).bind fun b=>some [.v az b]:=dD (dr:=fun es=>((bc (bG az) bY) es).map fun q=>(q.1)) (by intro b; kernel_rfl) g hg
theorem q11 {cl:ay} {N:Nat} {fd:FD} {env:Env} (g:{R:Type}→(fU×Int→Option R)→Option R) (hg:∀ {R:Type} (k:List E→Option R),exec cl N fd.body env (fun e env=>(ah fd e env).bind k)=g (fun b=>k [.own true 179 dK .no b.1,.v U2 b.2])):exec cl N fd.body env (ah fd)=(g some).bind fun b=>some [.own true 179 dK .no b.1,.v U2 b.2]:=dD (dr:=fun es=>((bc (mh dK) (bc (bG U2) bY)) es).map fun q=>(q.1,q.2.1)) (by intro b; kernel_rfl) g hg
theorem q12 {cl:ay} {N:Nat} {fd:FD} {env:Env} (g:{R:Type}→(V3×Int→Option R)→Option R) (hg:∀ {R:Type} (k:List E→Option R),exec cl N fd.body env (fun e env=>(ah fd e env).bind k)=g (fun b=>k [.v .str b.1,.v U2 b.2])):exec cl N fd.body env (ah fd)=(g some).bind fun b=>some [.v .str b.1,.v U2 b.2]:=dD (dr:=fun es=>((bc (bG .str) (bc (bG U2) bY)) es).map fun q=>(q.1,q.2.1)) (by intro b; kernel_rfl) g hg
theorem q13 {cl:ay} {N:Nat} {fd:FD} {env:Env} (g:{R:Type}→(aB→Option R)→Option R) (hg:∀ {R:Type} (k:List E→Option R),exec cl N fd.body env (fun e env=>(ah fd e env).bind k)=g (fun b=>k [.v bD b])):exec cl N fd.body env (ah fd)=(g some).bind fun b=>some [.v bD b]:=dD (dr:=fun es=>((bc (bG bD) bY) es).map fun q=>(q.1)) (by intro b; kernel_rfl) g hg
theorem q14 {cl:ay} {N:Nat} {fd:FD} {env:Env} (g:{R:Type}→(bS→Option R)→Option R) (hg:∀ {R:Type} (k:List E→Option R),exec cl N fd.body env (fun e env=>(ah fd e env).bind k)=g (fun b=>k [.own true 73 aX .no b])):exec cl N fd.body env (ah fd)=(g some).bind fun b=>some [.own true 73 aX .no b]:=dD (dr:=fun es=>((bc (mh aX) bY) es).map fun q=>(q.1)) (by intro b; kernel_rfl) g hg
theorem q15 {cl:ay} {N:Nat} {fd:FD} {env:Env} (g:{R:Type}→(V7×Int→Option R)→Option R) (hg:∀ {R:Type} (k:List E→Option R),exec cl N fd.body env (fun e env=>(ah fd e env).bind k)=g (fun b=>k [.own true 27 U5 .no b.1,.v U2 b.2])):exec cl N fd.body env (ah fd)=(g some).bind fun b=>some [.own true 27 U5 .no b.1,.v U2 b.2]:=dD (dr:=fun es=>((bc (mh U5) (bc (bG U2) bY)) es).map fun q=>(q.1,q.2.1)) (by intro b; kernel_rfl) g hg
theorem q16 {cl:ay} {N:Nat} {fd:FD} {env:Env} (g:{R:Type}→(V0×Int×Int→Option R)→Option R) (hg:∀ {R:Type} (k:List E→Option R),exec cl N fd.body env (fun e env=>(ah fd e env).bind k)=g (fun b=>k [.v U5 b.1,.v U2 b.2.1,.v U2 b.2.2])):exec cl N fd.body env (ah fd)=(g some).bind fun b=>some [.v U5 b.1,.v U2 b.2.1,.v U2 b.2.2]:=dD (dr:=fun es=>((bc (bG U5) (bc (bG U2) (bc (bG U2) bY))) es).map fun q=>(q.1,q.2.1,q.2.2.1)) (by intro b; kernel_rfl) g hg
theorem q17 {cl:ay} {N:Nat} {fd:FD} {env:Env} (g:{R:Type}→(V3×Bool→Option R)→Option R) (hg:∀ {R:Type} (k:List E→Option R),exec cl N fd.body env (fun e env=>(ah fd e env).bind k)=g (fun b=>k [.v .str b.1,.v .bool b.2])):exec cl N fd.body env (ah fd)=(g some).bind fun b=>some [.v .str b.1,.v .bool b.2]:=dD (dr:=fun es=>((bc (bG .str) (bc (bG .bool) bY)) es).map fun q=>(q.1,q.2.1)) (by intro b; kernel_rfl) g hg
theorem q18 {cl:ay} {N:Nat} {fd:FD} {env:Env} (g:{R:Type}→(V0×Int→Option R)→Option R) (hg:∀ {R:Type} (k:List E→Option R),exec cl N fd.body env (fun e env=>(ah fd e env).bind k)=g (fun b=>k [.own true 3 U2 .no b.1,.v U2 b.2])):exec cl N fd.body env (ah fd)=(g some).bind fun b=>some [.own true 3 U2 .no b.1,.v U2 b.2]:=dD (dr:=fun es=>((bc (mh U2) (bc (bG U2) bY)) es).map fun q=>(q.1,q.2.1)) (by intro b; kernel_rfl) g hg
variable (D:Nat)
theorem W2:(jv (eE 2000)).holds (A (D+1)):=Bh rfl (by intro a; kernel_rfl)
theorem Xh:(gZ (cg 2000)).holds (A (D+1)):=Bh rfl (by intro a; kernel_rfl)
theorem Xi:(iV (dJ 2000)).holds (A (D+1)):=Bh rfl (by intro a; kernel_rfl)
theorem WE:(jL (eX 2000)).holds (A (D+1)):=Bh rfl (by intro a; kernel_rfl)
theorem Xn:(zS (fK 2000)).holds (A (D+1)):=fun (x0,_)=>.trans (aW (fd:=d92) rfl rfl rfl rfl rfl) (q0 (fun {R} k=>HI 2000 x0 k) (fun k=>VT x0 k))
theorem QI:(kF (bJ 2000)).holds (A (D+1)):=fun (x0,_)=>.trans (aW (fd:=d93) rfl rfl rfl rfl rfl) (q0 (fun {R} k=>HJ 2000 x0 k) (fun k=>VU x0 k))
theorem Wx:(zJ (fH 2000)).holds (A (D+1)):=fun (x0,_)=>.trans (aW (fd:=d138) rfl rfl rfl rfl rfl) (q0 (fun {R} k=>G6 2000 x0 k) (fun k=>UX x0 k))
theorem Xu {cl:ay} (S:Option V6) (h:cl.run 148 []=S.bind fun b=>some [.v .str b]):(nX S).holds cl:=fun _=>h
theorem WG:(nX (dq 2000)).holds (A (D+1)):=Xu (dq 2000) ((aW (fd:=d148) rfl rfl rfl rfl rfl).trans (q1 (fun {R} k=>Hc (fun r0=>k (r0))) (fun k=>Ve k)))
theorem Wi:(zE (fe 2000)).holds (A (D+1)):=fun (x0,_)=>.trans (aW (fd:=d114) rfl rfl rfl rfl rfl) (q2 (fun {R} k=>Ai x0 k) (fun k=>UE x0 k))
theorem Ww:(qa (dd 2000)).holds (A (D+1)):=fun (x0,_)=>.trans (aW (fd:=d137) rfl rfl rfl rfl rfl) (q2 (fun {R} k=>Ap x0 k) (fun k=>UW x0 k))
theorem Qz:(me (bH 2000)).holds (A (D+2)):=fun (x0,_)=>.trans (aW (fd:=d117) rfl rfl rfl rfl rfl) (q3 (fun {R} k=>qC 2000 (dd 2000) x0 k) (fun k=>UH _ (Ww D) x0 k))
theorem Wy:(qb (dA 2000)).holds (A (D+3)):=fun (x0,_)=>.trans (aW (fd:=d139) rfl rfl rfl rfl rfl) (q4 (fun {R} k=>G7 2000 (fe 2000) (bH 2000) (dq 2000) x0 (fun r0 r1=>k (r0,r1))) (fun k=>UY _ _ _ (Wi (D+1)) (Qz D) (WG (D+1)) x0 k))
theorem Wl:(zG (fF 2000)).holds (A (D+4)):=fun (x0,_)=>.trans (aW (fd:=d118) rfl rfl rfl rfl rfl) (q5 (fun {R} k=>GR 2000 (fH 2000) (dA 2000) x0 (fun r0 r1=>k (r0,r1))) (fun k=>UI _ _ (Wx (D+2)) (Wy D) x0 k))
theorem QB:(j0 (bt 2000)).holds (A (D+1)):=fun (x0,_)=>.trans (aW (fd:=d136) rfl rfl rfl rfl rfl) (q2 (fun {R} k=>Ao x0 k) (fun k=>UU x0 k))
theorem Wz:(zK (fI 2000)).holds (A (D+2)):=fun (x0,_)=>.trans (aW (fd:=d140) rfl rfl rfl rfl rfl) (q3 (fun {R} k=>G9 2000 (bt 2000) x0 k) (fun k=>UZ _ (QB D) x0 k))
theorem Wm:(zH (fG 2000)).holds (A (D+3)):=fun (x0,_)=>.trans (aW (fd:=d119) rfl rfl rfl rfl rfl) (q6 (fun {R} k=>GS 2000 (fI 2000) x0 (fun r0 r1=>k (r0,r1))) (fun k=>UJ _ (Wz D) x0 k))
theorem Wn:(p6 (dz 2000)).holds (A (D+1)):=fun (x0,_)=>.trans (aW (fd:=d120) rfl rfl rfl rfl rfl) (q1 (fun {R} k=>GV x0 k) (fun k=>UK x0 k))
theorem Xo:(n8 (cR 2000)).holds (A (D+5)):=fun (x0,_)=>.trans (aW (fd:=d94) rfl rfl rfl rfl rfl) (q7 (fun {R} k=>HK 2000 (bJ 2000) (fF 2000) (fG 2000) (dz 2000) x0 (fun r0 r1=>k (r0,r1))) (fun k=>VV _ _ _ _ (QI (D+3)) (Wl D) (Wm (D+1)) (Wn (D+3)) x0 k))
theorem Wv:(nW (cw 2000)).holds (A (D+1)):=fun (x0,_)=>.trans (aW (fd:=d135) rfl rfl rfl rfl rfl) (q2 (fun {R} k=>Am x0 k) (fun k=>UT x0 k))
theorem Wj:(Fk (gH 2000)).holds (A (D+2)):=fun (x0,_)=>.trans (aW (fd:=d115) rfl rfl rfl rfl rfl) (q3 (fun {R} k=>qA 2000 (cw 2000) (bt 2000) x0 k) (fun k=>UF _ _ (Wv D) (QB D) x0 k))
theorem Xl:(zR (eR 2000)).holds (A (D+3)):=fun (x0,_)=>.trans (aW (fd:=d90) rfl rfl rfl rfl rfl) (q2 (fun {R} k=>AP (gH 2000) x0 k) (fun k=>VR _ (Wj D) x0 k))
theorem Wh:(p5 (c5 2000)).holds (A (D+1)):=fun (x0,_)=>.trans (aW (fd:=d111) rfl rfl rfl rfl rfl) (q2 (fun {R} k=>GP 2000 x0 k) (fun k=>UD x0 k))
theorem Wk:(zF (ff 2000)).holds (A (D+2)):=fun (x0,_)=>.trans (aW (fd:=d116) rfl rfl rfl rfl rfl) (q3 (fun {R} k=>qB 2000 (c5 2000) x0 k) (fun k=>UG _ (Wh D) x0 k))
theorem Xm:(n7 (cG 2000)).holds (A (D+3)):=fun (x0,_)=>.trans (aW (fd:=d91) rfl rfl rfl rfl rfl) (q3 (fun {R} k=>rA 2000 (ff 2000) (bH 2000) x0 k) (fun k=>VS _ _ (Wk D) (Qz D) x0 k))
theorem Xj:(FO (gy 2000)).holds (A (D+1)):=fun (x0,x1,_)=>.trans (aW (fd:=d86) rfl rfl rfl rfl rfl) (q3 (fun {R} k=>AO x0 x1 k) (fun k=>VQ x0 x1 k))
theorem W9:(qg (df 2000)).holds (A (D+2)):=fun (x0,x1,_)=>.trans (aW (fd:=d59) rfl rfl rfl rfl rfl) (q3 (fun {R} k=>AL (gy 2000) x0 x1 k) (fun k=>VI _ (Xj D) x0 x1 k))
theorem WX:(mf (bF 2000)).holds (A (D+3)):=fun (x0,x1,_)=>.trans (aW (fd:=d28) rfl rfl rfl rfl rfl) (q2 (fun {R} k=>qK 2000 (df 2000) x0 x1 k) (fun k=>Vv _ (W9 D) x0 x1 k))
theorem Xb:(zQ (fJ 2000)).holds (A (D+4)):=fun (x0,_)=>.trans (aW (fd:=d67) rfl rfl rfl rfl rfl) (q8 (fun {R} k=>oU 2000 (bF 2000) (eR 2000) (cG 2000) x0 (fun r0 r1=>k (r0,r1))) (fun k=>VK _ _ _ (WX D) (Xl D) (Xm D) x0 k))
theorem Xc:(FL (iS 2000)).holds (A (D+6)):=fun (x0,_)=>.trans (aW (fd:=d69) rfl rfl rfl rfl rfl) (q9 (fun {R} k=>Hz 2000 (fJ 2000) (fK 2000) (bJ 2000) (cR 2000) x0 (fun r0 r1 r2=>k (r0,r1,r2))) (fun k=>VL _ _ _ _ (Xb (D+1)) (Xn (D+4)) (QI (D+4)) (Xo D) x0 k))
theorem Xv {cl:ay} (S:Option sN) (h:cl.run 37 []=S.bind fun b=>some [.v az b]):(zO S).holds cl:=fun _=>h
theorem WY:(zO (gR 2000)).holds (A (D+7)):=Xv (gR 2000) ((aW (fd:=d37) rfl rfl rfl rfl rfl).trans (q10 (fun {R} k=>Hm (iS 2000) k) (fun k=>Vw _ (Xc D) k)))
theorem WH:(nY (cF 2000)).holds (A (D+1)):=fun (x0,_)=>.trans (aW (fd:=d149) rfl rfl rfl rfl rfl) (q2 (fun {R} k=>Ay x0 k) (fun k=>Vf x0 k))
theorem WJ:(qd (c9 2000)).holds (A (D+1)):=fun (x0,_)=>.trans (aW (fd:=d150) rfl rfl rfl rfl rfl) (q2 (fun {R} k=>Az x0 k) (fun k=>Vh x0 k))
theorem WA:(Fp (gJ 2000)).holds (A (D+2)):=fun (x0,_)=>.trans (aW (fd:=d141) rfl rfl rfl rfl rfl) (q3 (fun {R} k=>uB 2000 (cF 2000) (c9 2000) x0 k) (fun k=>Va _ _ (WH D) (WJ D) x0 k))
theorem Wo:(zI (eW 2000)).holds (A (D+3)):=fun (x0,_)=>.trans (aW (fd:=d121) rfl rfl rfl rfl rfl) (q2 (fun {R} k=>Aj (gJ 2000) x0 k) (fun k=>UL _ (WA D) x0 k))
theorem QH:(ti (dX 2000)).holds (A (D+1)):=fun (x0,_)=>.trans (aW (fd:=d72) rfl rfl rfl rfl rfl) (q1 (fun {R} k=>rq 2000 x0 k) (fun k=>VO x0 k))
theorem WQ:(zN (fi 2000)).holds (A (D+1)):=fun (x0,_)=>.trans (aW (fd:=d158) rfl rfl rfl rfl rfl) (q3 (fun {R} k=>qI 2000 x0 k) (fun k=>Vn x0 k))
theorem Wu:(Fo (iR 2000)).holds (A (D+2)):=fun (x0,x1,_)=>.trans (aW (fd:=d127) rfl rfl rfl rfl rfl) (q3 (fun {R} k=>GZ (eX 2000) x0 x1 k) (fun k=>UR _ (WE D) x0 x1 k))
theorem QJ:(mX (bT 2000)).holds (A (D+3)):=fun (x0,_)=>.trans (aW (fd:=d98) rfl rfl rfl rfl rfl) (q2 (fun {R} k=>HN (iR 2000) x0 k) (fun k=>VZ _ (Wu D) x0 k))
theorem WK:(Ft (iq 2000)).holds (A (D+4)):=fun (x0,_)=>.trans (aW (fd:=d151) rfl rfl rfl rfl rfl) (q11 (fun {R} k=>qH 2000 (bT 2000) (fi 2000) x0 (fun r0 r1=>k (r0,r1))) (fun k=>Vi _ _ (QJ D) (WQ (D+2)) x0 k))
theorem WB:(zL (fh 2000)).holds (A (D+5)):=fun (x0,_)=>.trans (aW (fd:=d142) rfl rfl rfl rfl rfl) (q3 (fun {R} k=>Aw (dX 2000) (iq 2000) x0 k) (fun k=>Vb _ _ (QH (D+3)) (WK D) x0 k))
theorem WL:(Fu (gK 2000)).holds (A (D+1)):=fun (x0,_)=>.trans (aW (fd:=d152) rfl rfl rfl rfl rfl) (q2 (fun {R} k=>AA x0 k) (fun k=>Vj x0 k))
theorem WO:(Fy (gN 2000)).holds (A (D+1)):=fun (x0,_)=>.trans (aW (fd:=d155) rfl rfl rfl rfl rfl) (q2 (fun {R} k=>AE x0 k) (fun k=>Vm x0 k))
theorem WN:(Fx (gM 2000)).holds (A (D+2)):=fun (x0,_)=>.trans (aW (fd:=d154) rfl rfl rfl rfl rfl) (q2 (fun {R} k=>AD (gN 2000) x0 k) (fun k=>Vl _ (WO D) x0 k))
theorem WS:(FB (gP 2000)).holds (A (D+1)):=fun (x0,x1,x2,_)=>.trans (aW (fd:=d160) rfl rfl rfl rfl rfl) (q3 (fun {R} k=>qJ 2000 x0 x1 x2 k) (fun k=>Vq x0 x1 x2 k))
theorem WR:(FA (gO 2000)).holds (A (D+2)):=fun (x0,x1,_)=>.trans (aW (fd:=d159) rfl rfl rfl rfl rfl) (q3 (fun {R} k=>AF (gP 2000) x0 x1 k) (fun k=>Vo _ (WS D) x0 x1 k))
theorem WM:(Fv (gL 2000)).holds (A (D+3)):=fun (x0,x1,_)=>.trans (aW (fd:=d153) rfl rfl rfl rfl rfl) (q2 (fun {R} k=>AB (gO 2000) x0 x1 k) (fun k=>Vk _ (WR D) x0 x1 k))
theorem WC:(qc (de 2000)).holds (A (D+4)):=fun (x0,_)=>.trans (aW (fd:=d143) rfl rfl rfl rfl rfl) (q3 (fun {R} k=>Ax (gK 2000) (gL 2000) (gM 2000) x0 k) (fun k=>Vc _ _ _ (WL (D+2)) (WM D) (WN (D+1)) x0 k))
theorem Wp:(p7 (c7 2000)).holds (A (D+6)):=fun (x0,_)=>.trans (aW (fd:=d122) rfl rfl rfl rfl rfl) (q3 (fun {R} k=>qD 2000 (fh 2000) (de 2000) x0 k) (fun k=>UM _ _ (WB D) (WC (D+1)) x0 k))
theorem Ws:(Fl (gI 2000)).holds (A (D+1)):=fun (x0,x1,_)=>.trans (aW (fd:=d125) rfl rfl rfl rfl rfl) (q2 (fun {R} k=>qE 2000 x0 x1 k) (fun k=>UP x0 x1 k))
theorem Wr:(p9 (c8 2000)).holds (A (D+2)):=fun (x0,x1,_)=>.trans (aW (fd:=d124) rfl rfl rfl rfl rfl) (q2 (fun {R} k=>Al (gI 2000) x0 x1 k) (fun k=>UO _ (Ws D) x0 x1 k))
theorem WD:(Fq (im 2000)).holds (A (D+1)):=fun (x0,x1,_)=>.trans (aW (fd:=d144) rfl rfl rfl rfl rfl) (q3 (fun {R} k=>qG 2000 x0 x1 k) (fun k=>Vd x0 x1 k))
theorem Wq:(p8 (cX 2000)).holds (A (D+2)):=fun (x0,x1,_)=>.trans (aW (fd:=d123) rfl rfl rfl rfl rfl) (q2 (fun {R} k=>Ak (im 2000) x0 x1 k) (fun k=>UN _ (WD D) x0 x1 k))
theorem Xp:(FP (iv 2000)).holds (A (D+7)):=fun (x0,_)=>.trans (aW (fd:=d95) rfl rfl rfl rfl rfl) (q8 (fun {R} k=>rB 2000 (eW 2000) (c7 2000) (cX 2000) (c8 2000) x0 (fun r0 r1=>k (r0,r1))) (fun k=>VW _ _ _ _ (Wo (D+3)) (Wp D) (Wq (D+4)) (Wr (D+4)) x0 k))
theorem QG:(th (dW 2000)).holds (A (D+8)):=fun (x0,_)=>.trans (aW (fd:=d70) rfl rfl rfl rfl rfl) (q3 (fun {R} k=>AM (iv 2000) x0 k) (fun k=>VM _ (Xp D) x0 k))
theorem Xr:(qi (da 2000)).holds (A (D+4)):=fun (x0,_)=>.trans (aW (fd:=d97) rfl rfl rfl rfl rfl) (q2 (fun {R} k=>AR (bT 2000) x0 k) (fun k=>VY _ (QJ D) x0 k))
theorem Wt:(Fm (il 2000)).holds (A (D+1)):=fun (x0,x1,_)=>.trans (aW (fd:=d126) rfl rfl rfl rfl rfl) (q3 (fun {R} k=>qF 2000 x0 x1 k) (fun k=>UQ x0 x1 k))
theorem Xq:(qh (cY 2000)).holds (A (D+2)):=fun (x0,x1,_)=>.trans (aW (fd:=d96) rfl rfl rfl rfl rfl) (q2 (fun {R} k=>AQ (il 2000) x0 x1 k) (fun k=>VX _ (Wt D) x0 x1 k))
theorem Xs:(zT (fk 2000)).holds (A (D+1)):=fun (x0,x1,_)=>.trans (aW (fd:=d99) rfl rfl rfl rfl rfl) (q1 (fun {R} k=>AS 2000 x0 x1 k) (fun k=>Wa x0 x1 k))
theorem Xd:(FM (gV 2000)).holds (A (D+5)):=fun (x0,_)=>.trans (aW (fd:=d71) rfl rfl rfl rfl rfl) (q12 (fun {R} k=>rp 2000 (cY 2000) (da 2000) (fk 2000) x0 (fun r0 r1=>k (r0,r1))) (fun k=>VN _ _ _ (Xq (D+2)) (Xr D) (Xs (D+3)) x0 k))
theorem QD:(qe (dt 2000)).holds (A (D+9)):=fun (x0,x1,_)=>.trans (aW (fd:=d40) rfl rfl rfl rfl rfl) (q3 (fun {R} k=>AG (dW 2000) (gV 2000) (dX 2000) x0 x1 k) (fun k=>Vy _ _ _ (QG D) (Xd (D+3)) (QH (D+7)) x0 x1 k))
theorem Xe:(iU (bx 2000)).holds (A (D+1)):=fun (x0,x1,_)=>.trans (aW (fd:=d73) rfl rfl rfl rfl rfl) (q13 (fun {R} k=>ru x0 x1 k) (fun k=>HW x0 x1 k))
theorem Xk:(mg (cQ 2000)).holds (A (D+1)):=fun (x0,_)=>.trans (aW (fd:=d87) rfl rfl rfl rfl rfl) (q2 (fun {R} k=>rz x0 k) (fun k=>HZ x0 k))
theorem Xa:(iT (bw 2000)).holds (A (D+2)):=fun (x0,x1,x2,x3,_)=>.trans (aW (fd:=d60) rfl rfl rfl rfl rfl) (q2 (fun {R} k=>qW (cQ 2000) x0 x1 x2 x3 k) (fun k=>HV _ (Xk D) x0 x1 x2 x3 k))
theorem Xg:(n0 (eM 2000)).holds (A (D+1)):=fun (x0,x1,_)=>.trans (aW (fd:=d83) rfl rfl rfl rfl rfl) (q2 (fun {R} k=>ry x0 x1 k) (fun k=>HY x0 x1 k))
theorem QF:(fW (aQ 2000)).holds (A (D+2)):=fun (x0,x1,_)=>.trans (aW (fd:=d54) rfl rfl rfl rfl rfl) (q2 (fun {R} k=>qU (eM 2000) x0 x1 k) (fun k=>HU _ (Xg D) x0 x1 k))
theorem an5:(j7 (bX 2000)).holds (A (D+3)):=fun (x0,x1,_)=>.trans (aW (fd:=d74) rfl rfl rfl rfl rfl) (q14 (fun {R} k=>nr 2000 (aQ 2000) (bw 2000) (bx 2000) x0 x1 k) (fun k=>HX _ _ _ (QF D) (Xa D) (Xe (D+1)) x0 x1 k))
theorem ani (D:Nat) (x0:aI) (x1:Int):bz table dv 2000 (D+1) 73 [.at bB x0,.v U2 x1]=(bx 2000 x0 x1).bind fun b=>some [.v bD b]:=by
 have e1:=aW (tb:=table) (pr:=dv) (N:=2000) (D:=D+0) (f:=73) (fd:=d73) (es:=[.at bB x0,.v U2 x1]) rfl rfl rfl rfl rfl
 exact e1.trans (dD (fd:=d73) (B:=aB) (au:=fun b=> [.v bD b]) (dr:=fun es=>((bc (bG bD) bY) es).map fun q=>(q.1)) (by intro b; kernel_rfl) (fun {R} k=>ru x0 x1 (fun (r0:aB)=>k (r0))) (fun k=>HW x0 x1 k))
theorem QL (D:Nat):(iU (bx 2000)).holds (bz table dv 2000 (D+1)):=fun a=>ani D a.1 a.2.1
theorem anl (D:Nat) (x0:aN):bz table dv 2000 (D+1) 87 [.v aA x0]=(cQ 2000 x0).bind fun b=>some [.v .bool b]:=by
 have e1:=aW (tb:=table) (pr:=dv) (N:=2000) (D:=D+0) (f:=87) (fd:=d87) (es:=[.v aA x0]) rfl rfl rfl rfl rfl
 exact e1.trans (dD (fd:=d87) (B:=Bool) (au:=fun b=> [.v .bool b]) (dr:=fun es=>((bc (bG .bool) bY) es).map fun q=>(q.1)) (by intro b; kernel_rfl) (fun {R} k=>rz x0 (fun (r0:Bool)=>k (r0))) (fun k=>HZ x0 k))
theorem Xz (D:Nat):(mg (cQ 2000)).holds (bz table dv 2000 (D+1)):=fun a=>anl D a.1
theorem anh (D:Nat) (x0:ag) (x1:Int) (x2:aB) (x3:aB):bz table dv 2000 (D+2) 60 [.v az x0,.v U2 x1,.v bD x2,.v bD x3]=(bw 2000 x0 x1 x2 x3).bind fun b=>some [.v .bool b]:=by
 have h87:(mg (cQ 2000)).holds (bz table dv 2000 (D+1)):=by have:=Xz (D+0); rwa [show D+0+1=D+1 by omega] at this
 have e1:=aW (tb:=table) (pr:=dv) (N:=2000) (D:=D+1) (f:=60) (fd:=d60) (es:=[.v az x0,.v U2 x1,.v bD x2,.v bD x3]) rfl rfl rfl rfl rfl
 exact e1.trans (dD (fd:=d60) (B:=Bool) (au:=fun b=> [.v .bool b]) (dr:=fun es=>((bc (bG .bool) bY) es).map fun q=>(q.1)) (by intro b; kernel_rfl) (fun {R} k=>qW (cQ 2000) x0 x1 x2 x3 (fun (r0:Bool)=>k (r0))) (fun k=>HV (cQ 2000) h87 x0 x1 x2 x3 k))
theorem QK (D:Nat):(iT (bw 2000)).holds (bz table dv 2000 (D+2)):=fun a=>anh D a.1 a.2.1 a.2.2.1 a.2.2.2.1
theorem ank (D:Nat) (x0:V3) (x1:V3):bz table dv 2000 (D+1) 83 [.v .str x0,.v .str x1]=(eM 2000 x0 x1).bind fun b=>some [.v .bool b]:=by
 have e1:=aW (tb:=table) (pr:=dv) (N:=2000) (D:=D+0) (f:=83) (fd:=d83) (es:=[.v .str x0,.v .str x1]) rfl rfl rfl rfl rfl
 exact e1.trans (dD (fd:=d83) (B:=Bool) (au:=fun b=> [.v .bool b]) (dr:=fun es=>((bc (bG .bool) bY) es).map fun q=>(q.1)) (by intro b; kernel_rfl) (fun {R} k=>ry x0 x1 (fun (r0:Bool)=>k (r0))) (fun k=>HY x0 x1 k))
theorem Xy (D:Nat):(n0 (eM 2000)).holds (bz table dv 2000 (D+1)):=fun a=>ank D a.1 a.2.1
theorem ang (D:Nat) (x0:V3) (x1:V3):bz table dv 2000 (D+2) 54 [.v .str x0,.v .str x1]=(aQ 2000 x0 x1).bind fun b=>some [.v .bool b]:=by
 have h83:(n0 (eM 2000)).holds (bz table dv 2000 (D+1)):=by have:=Xy (D+0); rwa [show D+0+1=D+1 by omega] at this
 have e1:=aW (tb:=table) (pr:=dv) (N:=2000) (D:=D+1) (f:=54) (fd:=d54) (es:=[.v .str x0,.v .str x1]) rfl rfl rfl rfl rfl
 exact e1.trans (dD (fd:=d54) (B:=Bool) (au:=fun b=> [.v .bool b]) (dr:=fun es=>((bc (bG .bool) bY) es).map fun q=>(q.1)) (by intro b; kernel_rfl) (fun {R} k=>qU (eM 2000) x0 x1 (fun (r0:Bool)=>k (r0))) (fun k=>HU (eM 2000) h83 x0 x1 k))
theorem Xw (D:Nat):(fW (aQ 2000)).holds (bz table dv 2000 (D+2)):=fun a=>ang D a.1 a.2.1
theorem anj (D:Nat) (x0:aI) (x1:a6):bz table dv 2000 (D+3) 74 [.at bB x0,.v aX x1]=(bX 2000 x0 x1).bind fun b=>some [.own true 73 aX .no b]:=by
 have h54:(fW (aQ 2000)).holds (bz table dv 2000 (D+2)):=by have:=Xw (D+0); rwa [show D+0+2=D+2 by omega] at this
 have h60:(iT (bw 2000)).holds (bz table dv 2000 (D+2)):=by have:=QK (D+0); rwa [show D+0+2=D+2 by omega] at this
 have h73:(iU (bx 2000)).holds (bz table dv 2000 (D+2)):=by have:=QL (D+1); rwa [show D+1+1=D+2 by omega] at this
 have e1:=aW (tb:=table) (pr:=dv) (N:=2000) (D:=D+2) (f:=74) (fd:=d74) (es:=[.at bB x0,.v aX x1]) rfl rfl rfl rfl rfl
 exact e1.trans (dD (fd:=d74) (B:=bS) (au:=fun b=> [.own true 73 aX .no b]) (dr:=fun es=>((bc (mh aX) bY) es).map fun q=>(q.1)) (by intro b; kernel_rfl) (fun {R} k=>nr 2000 (aQ 2000) (bw 2000) (bx 2000) x0 x1 (fun (r0:bS)=>k (r0))) (fun k=>HX (aQ 2000) (bw 2000) (bx 2000) h54 h60 h73 x0 x1 k))
theorem Xx (D:Nat):(j7 (bX 2000)).holds (bz table dv 2000 (D+3)):=fun a=>anj D a.1 a.2.1
theorem H7 (N:Nat):∀ m,(gk (mJ 2000 m)).holds (px m)
 | 0=>fun a=>by kernel_rfl
 | m+1=>fun a=>by
   have h60:(iT (bw 2000)).holds (px m):=wK (by decide) (QK 2) m
   have h73:(iU (bx 2000)).holds (px m):=wK (by decide) (QL 3) m
   have h74:(j7 (bX 2000)).holds (px m):=wK (by decide) (Xx 1) m
   have h41:=H7 2000 m
   have e1:=Ss (n:=41) (fd:=d41) (N:=2000) (base:=bz table dv 2000 4) (m:=m) (es:=[.loc bB (.pair .no (.pair .no (.pair .mp .no))) a.1,.v aX a.2.1]) rfl rfl rfl
   exact e1.trans (dD (fd:=d41) (B:=aI×Int) (au:=fun b=> [.loc bB (.pair .no (.pair .no (.pair .mp .no))) b.1,.v U2 b.2]) (dr:=fun es=>((bc (N7 bB) (bc (bG U2) bY)) es).map fun q=>(q.1,q.2.1)) (by intro b; kernel_rfl) (fun {R} k=>qM 2000 (mJ 2000 m) (bw 2000) (bx 2000) (bX 2000) a.1 a.2.1 (fun (r0:aI) (r1:Int)=>k (r0,r1))) (fun k=>Vz (mJ 2000 m) (bw 2000) (bx 2000) (bX 2000) h41 h60 h73 h74 a.1 a.2.1 k))
theorem WZ:(gk (aU 2000)).holds (A (D+1)):=fun a=>(xB rfl).trans (H7 2000 250 a)
theorem XA (D:Nat):(gk (aU 2000)).holds (bz table dx 2000 (D+1)):=fun a=>(xB rfl).trans (H7 2000 250 a)
theorem ano (D:Nat) (x0:aI) (x1:Int):bz table dx 2000 (D+1) 73 [.at bB x0,.v U2 x1]=(bx 2000 x0 x1).bind fun b=>some [.v bD b]:=by
 have e1:=aW (tb:=table) (pr:=dx) (N:=2000) (D:=D+0) (f:=73) (fd:=d73) (es:=[.at bB x0,.v U2 x1]) rfl rfl rfl rfl rfl
 exact e1.trans (dD (fd:=d73) (B:=aB) (au:=fun b=> [.v bD b]) (dr:=fun es=>((bc (bG bD) bY) es).map fun q=>(q.1)) (by intro b; kernel_rfl) (fun {R} k=>ru x0 x1 (fun (r0:aB)=>k (r0))) (fun k=>HW x0 x1 k))
theorem XD (D:Nat):(iU (bx 2000)).holds (bz table dx 2000 (D+1)):=fun a=>ano D a.1 a.2.1
theorem anr (D:Nat) (x0:aN):bz table dx 2000 (D+1) 87 [.v aA x0]=(cQ 2000 x0).bind fun b=>some [.v .bool b]:=by
 have e1:=aW (tb:=table) (pr:=dx) (N:=2000) (D:=D+0) (f:=87) (fd:=d87) (es:=[.v aA x0]) rfl rfl rfl rfl rfl
 exact e1.trans (dD (fd:=d87) (B:=Bool) (au:=fun b=> [.v .bool b]) (dr:=fun es=>((bc (bG .bool) bY) es).map fun q=>(q.1)) (by intro b; kernel_rfl) (fun {R} k=>rz x0 (fun (r0:Bool)=>k (r0))) (fun k=>HZ x0 k))
theorem XG (D:Nat):(mg (cQ 2000)).holds (bz table dx 2000 (D+1)):=fun a=>anr D a.1
theorem ann (D:Nat) (x0:ag) (x1:Int) (x2:aB) (x3:aB):bz table dx 2000 (D+2) 60 [.v az x0,.v U2 x1,.v bD x2,.v bD x3]=(bw 2000 x0 x1 x2 x3).bind fun b=>some [.v .bool b]:=by
 have h87:(mg (cQ 2000)).holds (bz table dx 2000 (D+1)):=by have:=XG (D+0); rwa [show D+0+1=D+1 by omega] at this
 have e1:=aW (tb:=table) (pr:=dx) (N:=2000) (D:=D+1) (f:=60) (fd:=d60) (es:=[.v az x0,.v U2 x1,.v bD x2,.v bD x3]) rfl rfl rfl rfl rfl
 exact e1.trans (dD (fd:=d60) (B:=Bool) (au:=fun b=> [.v .bool b]) (dr:=fun es=>((bc (bG .bool) bY) es).map fun q=>(q.1)) (by intro b; kernel_rfl) (fun {R} k=>qW (cQ 2000) x0 x1 x2 x3 (fun (r0:Bool)=>k (r0))) (fun k=>HV (cQ 2000) h87 x0 x1 x2 x3 k))
theorem XC (D:Nat):(iT (bw 2000)).holds (bz table dx 2000 (D+2)):=fun a=>ann D a.1 a.2.1 a.2.2.1 a.2.2.2.1
theorem anq (D:Nat) (x0:V3) (x1:V3):bz table dx 2000 (D+1) 83 [.v .str x0,.v .str x1]=(eM 2000 x0 x1).bind fun b=>some [.v .bool b]:=by
 have e1:=aW (tb:=table) (pr:=dx) (N:=2000) (D:=D+0) (f:=83) (fd:=d83) (es:=[.v .str x0,.v .str x1]) rfl rfl rfl rfl rfl
 exact e1.trans (dD (fd:=d83) (B:=Bool) (au:=fun b=> [.v .bool b]) (dr:=fun es=>((bc (bG .bool) bY) es).map fun q=>(q.1)) (by intro b; kernel_rfl) (fun {R} k=>ry x0 x1 (fun (r0:Bool)=>k (r0))) (fun k=>HY x0 x1 k))
theorem XF (D:Nat):(n0 (eM 2000)).holds (bz table dx 2000 (D+1)):=fun a=>anq D a.1 a.2.1
theorem anm (D:Nat) (x0:V3) (x1:V3):bz table dx 2000 (D+2) 54 [.v .str x0,.v .str x1]=(aQ 2000 x0 x1).bind fun b=>some [.v .bool b]:=by
 have h83:(n0 (eM 2000)).holds (bz table dx 2000 (D+1)):=by have:=XF (D+0); rwa [show D+0+1=D+1 by omega] at this
 have e1:=aW (tb:=table) (pr:=dx) (N:=2000) (D:=D+1) (f:=54) (fd:=d54) (es:=[.v .str x0,.v .str x1]) rfl rfl rfl rfl rfl
 exact e1.trans (dD (fd:=d54) (B:=Bool) (au:=fun b=> [.v .bool b]) (dr:=fun es=>((bc (bG .bool) bY) es).map fun q=>(q.1)) (by intro b; kernel_rfl) (fun {R} k=>qU (eM 2000) x0 x1 (fun (r0:Bool)=>k (r0))) (fun k=>HU (eM 2000) h83 x0 x1 k))
theorem XB (D:Nat):(fW (aQ 2000)).holds (bz table dx 2000 (D+2)):=fun a=>anm D a.1 a.2.1
theorem anp (D:Nat) (x0:aI) (x1:a6):bz table dx 2000 (D+3) 74 [.at bB x0,.v aX x1]=(bX 2000 x0 x1).bind fun b=>some [.own true 73 aX .no b]:=by
 have h54:(fW (aQ 2000)).holds (bz table dx 2000 (D+2)):=by have:=XB (D+0); rwa [show D+0+2=D+2 by omega] at this
 have h60:(iT (bw 2000)).holds (bz table dx 2000 (D+2)):=by have:=XC (D+0); rwa [show D+0+2=D+2 by omega] at this
 have h73:(iU (bx 2000)).holds (bz table dx 2000 (D+2)):=by have:=XD (D+1); rwa [show D+1+1=D+2 by omega] at this
 have e1:=aW (tb:=table) (pr:=dx) (N:=2000) (D:=D+2) (f:=74) (fd:=d74) (es:=[.at bB x0,.v aX x1]) rfl rfl rfl rfl rfl
 exact e1.trans (dD (fd:=d74) (B:=bS) (au:=fun b=> [.own true 73 aX .no b]) (dr:=fun es=>((bc (mh aX) bY) es).map fun q=>(q.1)) (by intro b; kernel_rfl) (fun {R} k=>nr 2000 (aQ 2000) (bw 2000) (bx 2000) x0 x1 (fun (r0:bS)=>k (r0))) (fun k=>HX (aQ 2000) (bw 2000) (bx 2000) h54 h60 h73 x0 x1 k))
theorem XE (D:Nat):(j7 (bX 2000)).holds (bz table dx 2000 (D+3)):=fun a=>anp D a.1 a.2.1
theorem QM (N:Nat):∀ m,(j6 (mK 2000 m)).holds (wJ m)
 | 0=>fun a=>by kernel_rfl
 | m+1=>fun a=>by
   have h41:(gk (aU 2000)).holds (wJ m):=wK (by decide) (XA 3) m
   have h74:(j7 (bX 2000)).holds (wJ m):=wK (by decide) (XE 1) m
   have h42:=QM 2000 m
   have e1:=Ss (n:=42) (fd:=d42) (N:=2000) (base:=bz table dx 2000 4) (m:=m) (es:=[.loc bB (.pair .no (.pair .no (.pair .mp .no))) a.1,.v aX a.2.1]) rfl rfl rfl
   exact e1.trans (dD (fd:=d42) (B:=aI×V7) (au:=fun b=> [.loc bB (.pair .no (.pair .no (.pair .mp .no))) b.1,.own true 27 U5 .no b.2]) (dr:=fun es=>((bc (N7 bB) (bc (mh U5) bY)) es).map fun q=>(q.1,q.2.1)) (by intro b; kernel_rfl) (fun {R} k=>mo 2000 (aU 2000) (mK 2000 m) (bX 2000) a.1 a.2.1 (fun (r0:aI) (r1:V7)=>k (r0,r1))) (fun k=>VA (aU 2000) (mK 2000 m) (bX 2000) h41 h42 h74 a.1 a.2.1 k))
theorem W1:(j6 (bL 2000)).holds (A (D+1)):=fun a=>(xB rfl).trans (QM 2000 250 a)
theorem QC:(tg (dR 2000)).holds (A (D+1)):=fun (x0,x1,_)=>.trans (aW (fd:=d38) rfl rfl rfl rfl rfl) (q3 (fun {R} k=>qL 2000 x0 x1 k) (fun k=>Vx x0 x1 k))
theorem Xf:(FN (gx 2000)).holds (A (D+1)):=fun (x0,_)=>.trans (aW (fd:=d77) rfl rfl rfl rfl rfl) (q2 (fun {R} k=>AN x0 k) (fun k=>VP x0 k))
theorem QE:(mW (bW 2000)).holds (A (D+2)):=fun (x0,x1,_)=>.trans (aW (fd:=d46) rfl rfl rfl rfl rfl) (q3 (fun {R} k=>AJ (gx 2000) x0 x1 k) (fun k=>VD _ (Xf D) x0 x1 k))
theorem W5:(FJ (gT 2000)).holds (A (D+3)):=fun (x0,x1,_)=>.trans (aW (fd:=d47) rfl rfl rfl rfl rfl) (q3 (fun {R} k=>qT 2000 (bW 2000) x0 x1 k) (fun k=>VE _ (QE D) x0 x1 k))
theorem W4:(FI (gS 2000)).holds (A (D+1)):=fun (x0,_)=>.trans (aW (fd:=d45) rfl rfl rfl rfl rfl) (q3 (fun {R} k=>oT 2000 x0 k) (fun k=>VC x0 k))
theorem W3:(FH (gh 2000)).holds (A (D+4)):=fun (x0,x1,x2,_)=>.trans (aW (fd:=d44) rfl rfl rfl rfl rfl) (q3 (fun {R} k=>AH (dR 2000) (gS 2000) (bW 2000) (gT 2000) x0 x1 x2 k) (fun k=>VB _ _ _ _ (QC (D+2)) (W4 (D+2)) (QE (D+1)) (W5 D) x0 x1 x2 k))
theorem H6:(nZ (cx 2000)).holds (A (D+10)):=fun (x0,x1,_)=>.trans (aW (fd:=d16) rfl rfl rfl rfl rfl) (q15 (fun {R} k=>g16 (dt 2000) (aU 2000) (bL 2000) (eE 2000) (gh 2000) x0 x1 (fun r0 r1=>k (r0,r1))) (fun k=>Vp _ _ _ _ _ (QD D) (WZ (D+8)) (W1 (D+8)) (W2 (D+8)) (W3 (D+5)) x0 x1 k))
theorem QA:(tf (dQ 2000)).holds (A (D+11)):=fun (x0,x1,_)=>.trans (aW (fd:=d13) rfl rfl rfl rfl rfl) (q16 (fun {R} k=>g13 (cx 2000) (dR 2000) x0 x1 (fun r0 r1 r2=>k (r0,r1,r2))) (fun k=>US _ _ (H6 D) (QC (D+9)) x0 x1 k))
theorem W8:(FK (gU 2000)).holds (A (D+2)):=fun (x0,x1,_)=>.trans (aW (fd:=d57) rfl rfl rfl rfl rfl) (q17 (fun {R} k=>qV 2000 (cg 2000) (dJ 2000) x0 x1 (fun r0 r1=>k (r0,r1))) (fun k=>VH _ _ (Xh D) (Xi D) x0 x1 k))
theorem W7:(zP (fj 2000)).holds (A (D+9)):=fun (x0,x1,_)=>.trans (aW (fd:=d55) rfl rfl rfl rfl rfl) (q3 (fun {R} k=>AK (gU 2000) (dW 2000) x0 x1 k) (fun k=>VG _ _ (W8 (D+6)) (QG D) x0 x1 k))
theorem WW:(FG (gw 2000)).holds (A (D+10)):=fun (x0,x1,_)=>.trans (aW (fd:=d24) rfl rfl rfl rfl rfl) (q18 (fun {R} k=>g24 2000 (fj 2000) x0 x1 (fun r0 r1=>k (r0,r1))) (fun k=>Vu _ (W7 D) x0 x1 k))
theorem WV:(FF (iu 2000)).holds (A (D+10)):=fun (x0,x1,_)=>.trans (aW (fd:=d20) rfl rfl rfl rfl rfl) (q8 (fun {R} k=>g20 2000 (dt 2000) (aQ 2000) x0 x1 (fun r0 r1=>k (r0,r1))) (fun k=>Vt _ _ (QD D) (QF (D+7)) x0 x1 k))
theorem W6:(qf (dB 2000)).holds (A (D+1)):=fun (x0,x1,_)=>.trans (aW (fd:=d53) rfl rfl rfl rfl rfl) (q2 (fun {R} k=>Hq 2000 x0 x1 k) (fun k=>VF x0 x1 k))
theorem WU:(FE (ir 2000)).holds (A (D+2)):=fun (x0,x1,_)=>.trans (aW (fd:=d19) rfl rfl rfl rfl rfl) (q2 (fun {R} k=>g19 2000 (dB 2000) x0 x1 k) (fun k=>Vs _ (W6 D) x0 x1 k))
theorem WI:(Fs (gu 2000)).holds (A (D+1)):=fun (x0,x1,_)=>.trans (aW (fd:=d15) rfl rfl rfl rfl rfl) (q2 (fun {R} k=>g15 2000 x0 x1 k) (fun k=>Vg x0 x1 k))
theorem Xt {cl:ay} (S:Option (Bool)) (h:cl.run 11 []=S.bind fun b=>some [.v .bool b]):(zD S).holds cl:=fun _=>h
theorem Wg:(zD (fT 2000)).holds (A (D+12)):=Xt (fT 2000) ((aW (fd:=d11) rfl rfl rfl rfl rfl).trans (q2 (fun {R} k=>g11 (dQ 2000) (gu 2000) (cx 2000) (ir 2000) (iu 2000) (gw 2000) (gR 2000) k) (fun k=>UC _ _ _ _ _ _ _ (QA D) (WI (D+10)) (H6 (D+1)) (WU (D+9)) (WV (D+1)) (WW (D+1)) (WY (D+4)) k)))
theorem WT:(FC (gQ 2000)).holds (A (D+11)):=fun (x0,x1,_)=>.trans (aW (fd:=d18) rfl rfl rfl rfl rfl) (q8 (fun {R} k=>g18 (cx 2000) x0 x1 (fun r0 r1=>k (r0,r1))) (fun k=>Vr _ (H6 D) x0 x1 k))
theorem va6 (D:Nat) (x0:Int) (x1:Int):bz table kj 2000 (D+13) 6 [.v U0 x0,.v U0 x1]=(S6 2000 x0 x1).bind fun b=>some [.v .bool b]:=(aW (fd:=d6) rfl rfl rfl rfl rfl).trans (q2 (fun {R} k=>g6 (fT 2000) (dQ 2000) (gQ 2000) x0 x1 k) (fun k=>VJ _ _ _ (Wg D) (QA (D+1)) (WT (D+1)) x0 x1 k))
end Go.Fw.L19
