/- Own work. -/
import Derived.Test.YtbdlccajpcomjaaDoorFwMb17
import Derived.Test.YtbdlccajpcomjaaDoorFwB6
import Derived.Test.YtbdlccajpcomjaaDoorFwXb17
set_option linter.unusedVariables false
set_option linter.unusedSimpArgs false
namespace Go.Fw.L19
open Go Go.Fw
set_option maxRecDepth 100000
theorem q0 {cl:aH} {N:Nat} {fd:FD} {env:Env} (g:{R:Type}→(Int→Option R)→Option R) (hg:∀ {R:Type} (k:List E→Option R),exec cl N fd.body env (fun e env=>(au fd e env).bind k)=g (fun b=>k [.v U2 b])):exec cl N fd.body env (au fd)=(g some).bind fun b=>some [.v U2 b]:=jr (dr:=fun es=>((bZ (cO U2) dZ) es).map fun q=>(q.1)) (by intro b; kernel_rfl) g hg
theorem q1 {cl:aH} {N:Nat} {fd:FD} {env:Env} (g:{R:Type}→(Bool→Option R)→Option R) (hg:∀ {R:Type} (k:List E→Option R),exec cl N fd.body env (fun e env=>(au fd e env).bind k)=g (fun b=>k [.v .bool b])):exec cl N fd.body env (au fd)=(g some).bind fun b=>some [.v .bool b]:=jr (dr:=fun es=>((bZ (cO .bool) dZ) es).map fun q=>(q.1)) (by intro b; kernel_rfl) g hg
theorem q2 {cl:aH} {N:Nat} {fd:FD} {env:Env} (g:{R:Type}→(ad→Option R)→Option R) (hg:∀ {R:Type} (k:List E→Option R),exec cl N fd.body env (fun e env=>(au fd e env).bind k)=g (fun b=>k [.v af b])):exec cl N fd.body env (au fd)=(g some).bind fun b=>some [.v af b]:=jr (dr:=fun es=>((bZ (cO af) dZ) es).map fun q=>(q.1)) (by intro b; kernel_rfl) g hg
theorem q3 {cl:aH} {N:Nat} {fd:FD} {env:Env} (g:{R:Type}→(V1→Option R)→Option R) (hg:∀ {R:Type} (k:List E→Option R),exec cl N fd.body env (fun e env=>(au fd e env).bind k)=g (fun b=>k [.v .str b])):exec cl N fd.body env (au fd)=(g some).bind fun b=>some [.v .str b]:=jr (dr:=fun es=>((bZ (cO .str) dZ) es).map fun q=>(q.1)) (by intro b; kernel_rfl) g hg
theorem q4 {cl:aH} {N:Nat} {fd:FD} {env:Env} (g:{R:Type}→(V1×Int→Option R)→Option R) (hg:∀ {R:Type} (k:List E→Option R),exec cl N fd.body env (fun e env=>(au fd e env).bind k)=g (fun b=>k [.v .str b.1,.v U2 b.2])):exec cl N fd.body env (au fd)=(g some).bind fun b=>some [.v .str b.1,.v U2 b.2]:=jr (dr:=fun es=>((bZ (cO .str) (bZ (cO U2) dZ)) es).map fun q=>(q.1,q.2.1)) (by intro b; kernel_rfl) g hg
theorem q5 {cl:aH} {N:Nat} {fd:FD} {env:Env} (g:{R:Type}→(V6→Option R)→Option R) (hg:∀ {R:Type} (k:List E→Option R),exec cl N fd.body env (fun e env=>(au fd e env).bind k)=g (fun b=>k [.own true 9 .str .no b])):exec cl N fd.body env (au fd)=(g some).bind fun b=>some [.own true 9 .str .no b]:=jr (dr:=fun es=>((bZ (adQ .str) dZ) es).map fun q=>(q.1)) (by intro b; kernel_rfl) g hg
theorem q6 {cl:aH} {N:Nat} {fd:FD} {env:Env} (g:{R:Type}→(Int×Bool→Option R)→Option R) (hg:∀ {R:Type} (k:List E→Option R),exec cl N fd.body env (fun e env=>(au fd e env).bind k)=g (fun b=>k [.v U2 b.1,.v .bool b.2])):exec cl N fd.body env (au fd)=(g some).bind fun b=>some [.v U2 b.1,.v .bool b.2]:=jr (dr:=fun es=>((bZ (cO U2) (bZ (cO .bool) dZ)) es).map fun q=>(q.1,q.2.1)) (by intro b; kernel_rfl) g hg
theorem q7 {cl:aH} {N:Nat} {fd:FD} {env:Env} (g:{R:Type}→(aT×Int×Int→Option R)→Option R) (hg:∀ {R:Type} (k:List E→Option R),exec cl N fd.body env (fun e env=>(au fd e env).bind k)=g (fun b=>k [.v ax b.1,.v U2 b.2.1,.v U2 b.2.2])):exec cl N fd.body env (au fd)=(g some).bind fun b=>some [.v ax b.1,.v U2 b.2.1,.v U2 b.2.2]:=jr (dr:=fun es=>((bZ (cO ax) (bZ (cO U2) (bZ (cO U2) dZ))) es).map fun q=>(q.1,q.2.1,q.2.2.1)) (by intro b; kernel_rfl) g hg
theorem q8 {cl:aH} {N:Nat} {fd:FD} {env:Env} (g:{R:Type}→(aq×Int×Int→Option R)→Option R) (hg:∀ {R:Type} (k:List E→Option R),exec cl N fd.body env (fun e env=>(au fd e env).bind k)=g (fun b=>k [.own true 58 ax .no b.1,.v U2 b.2.1,.v U2 b.2.2])):exec cl N fd.body env (au fd)=(g some).bind fun b=>some [.own true 58 ax .no b.1,.v U2 b.2.1,.v U2 b.2.2]:=jr (dr:=fun es=>((bZ (adQ ax) (bZ (cO U2) (bZ (cO U2) dZ))) es).map fun q=>(q.1,q.2.1,q.2.2.1)) (by intro b; kernel_rfl) g hg
theorem q9 {cl:aH} {N:Nat} {fd:FD} {env:Env} (g:{R:Type}→(aG×V1→Option R)→Option R) (hg:∀ {R:Type} (k:List E→Option R),exec cl N fd.body env (fun e env=>(au fd e env).bind k)=g (fun b=>k [.loc bl .no b.1,.v .str b.2])):exec cl N fd.body env (au fd)=(g some).bind fun b=>some [.loc bl .no b.1,.v .str b.2]:=jr (dr:=fun es=>((bZ (adS bl) (bZ (cO .str) dZ)) es).map fun q=>(q.1,q.2.1)) (by intro b; kernel_rfl) g hg
theorem q10 {cl:aH} {N:Nat} {fd:FD} {env:Env} (g:{R:Type}→(aG×ay×V1→Option R)→Option R) (hg:∀ {R:Type} (k:List E→Option R),exec cl N fd.body env (fun e env=>(au fd e env).bind k)=g (fun b=>k [.loc bl .no b.1,.v aw b.2.1,.v .str b.2.2])):exec cl N fd.body env (au fd)=(g some).bind fun b=>some [.loc bl .no b.1,.v aw b.2.1,.v .str b.2.2]:=jr (dr:=fun es=>((bZ (adS bl) (bZ (cO aw) (bZ (cO .str) dZ))) es).map fun q=>(q.1,q.2.1,q.2.2.1)) (by intro b; kernel_rfl) g hg
theorem R7 {cl:aH} {N:Nat} {fd:FD} {env:Env} (g:{R:Type}→(ad×Int×Int→Option R)→Option R) (hg:∀ {R:Type} (k:List E→Option R),exec cl N fd.body env (fun e env=>(au fd e env).bind k)=g (fun b=>k [.v af b.1,.v U2 b.2.1,.v U2 b.2.2])):exec cl N fd.body env (au fd)=(g some).bind fun b=>some [.v af b.1,.v U2 b.2.1,.v U2 b.2.2]:=jr (dr:=fun es=>((bZ (cO af) (bZ (cO U2) (bZ (cO U2) dZ))) es).map fun q=>(q.1,q.2.1,q.2.2.1)) (by intro b; kernel_rfl) g hg
theorem q12 {cl:aH} {N:Nat} {fd:FD} {env:Env} (g:{R:Type}→(ay×Int×Bool→Option R)→Option R) (hg:∀ {R:Type} (k:List E→Option R),exec cl N fd.body env (fun e env=>(au fd e env).bind k)=g (fun b=>k [.v aw b.1,.v U2 b.2.1,.v .bool b.2.2])):exec cl N fd.body env (au fd)=(g some).bind fun b=>some [.v aw b.1,.v U2 b.2.1,.v .bool b.2.2]:=jr (dr:=fun es=>((bZ (cO aw) (bZ (cO U2) (bZ (cO .bool) dZ))) es).map fun q=>(q.1,q.2.1,q.2.2.1)) (by intro b; kernel_rfl) g hg
variable (D:Nat)
theorem anB:(fU (a6 30000)).holds (A (D+1)):=vi rfl (by intro a; kernel_rfl)
theorem anC:(jd (cb 30000)).holds (A (D+1)):=vi rfl (by intro a; kernel_rfl)
theorem anD:(j9 (eg 30000)).holds (A (D+1)):=vi rfl (by intro a; kernel_rfl)
theorem anF:(lN (eD 30000)).holds (A (D+1)):=vi rfl (by intro a; kernel_rfl)
theorem anG:(je (cj 30000)).holds (A (D+1)):=vi rfl (by intro a; kernel_rfl)
theorem aoa:(lP (eM 30000)).holds (A (D+1)):=vi rfl (by intro a; kernel_rfl)
theorem ho5:(nF (S5 30000)).holds (A (D+12)):=fun a=>fd5 D
theorem anE:(qU (cR 30000)).holds (A (D+1)):=fun (x0,x1,_)=>.trans (bI (fd:=d34) rfl rfl rfl rfl rfl) (q0 (fun {R} k=>tV 30000 x0 x1 k) (fun k=>ajU x0 x1 k))
theorem anp:(Ew (fH 30000)).holds (A (D+2)):=fun (x0,_)=>.trans (bI (fd:=d10) rfl rfl rfl rfl rfl) (q1 (fun {R} k=>g10 30000 (cR 30000) x0 k) (fun k=>ajB _ (anE D) x0 k))
theorem anq:(Ey (fI 30000)).holds (A (D+2)):=fun (x0,_)=>.trans (bI (fd:=d11) rfl rfl rfl rfl rfl) (q2 (fun {R} k=>g11 30000 (eD 30000) (cj 30000) x0 k) (fun k=>ajC _ _ (anF D) (anG D) x0 k))
theorem afY:(ka (bE 30000)).holds (A (D+1)):=fun (x0,_)=>.trans (bI (fd:=d61) rfl rfl rfl rfl rfl) (q1 (fun {R} k=>Hq x0 k) (fun k=>aki x0 k))
theorem Rj:(gW (aW 30000)).holds (A (D+1)):=fun (x0,_)=>.trans (bI (fd:=d62) rfl rfl rfl rfl rfl) (q1 (fun {R} k=>Hr x0 k) (fun k=>akj x0 k))
theorem afV:(rh (cK 30000)).holds (A (D+2)):=fun (x0,_)=>.trans (bI (fd:=d55) rfl rfl rfl rfl rfl) (q0 (fun {R} k=>ud 30000 (bE 30000) (aW 30000) x0 k) (fun k=>akb _ _ (afY D) (Rj D) x0 k))
theorem anI:(EC (ft 30000)).holds (A (D+3)):=fun (x0,_)=>.trans (bI (fd:=d38) rfl rfl rfl rfl rfl) (q1 (fun {R} k=>Hi (cK 30000) x0 k) (fun k=>ajW _ (afV D) x0 k))
theorem af0:(rp (df 30000)).holds (A (D+2)):=fun (x0,x1,_)=>.trans (bI (fd:=d65) rfl rfl rfl rfl rfl) (q0 (fun {R} k=>QU (eM 30000) x0 x1 k) (fun k=>akm _ (aoa D) x0 x1 k))
theorem aoe:(EP (fR 30000)).holds (A (D+3)):=fun (x0,_)=>.trans (bI (fd:=d86) rfl rfl rfl rfl rfl) (q1 (fun {R} k=>Q9 (df 30000) x0 k) (fun k=>akC _ (af0 D) x0 k))
theorem aod:(rB (cN 30000)).holds (A (D+4)):=fun (x0,_)=>.trans (bI (fd:=d85) rfl rfl rfl rfl rfl) (q1 (fun {R} k=>Hx (fR 30000) x0 k) (fun k=>akB _ (aoe D) x0 k))
theorem aog:(ES (fS 30000)).holds (A (D+1)):=fun (x0,x1,_)=>.trans (bI (fd:=d94) rfl rfl rfl rfl rfl) (q0 (fun {R} k=>ur 30000 x0 x1 k) (fun k=>akF x0 x1 k))
theorem aoc:(rA (dc 30000)).holds (A (D+2)):=fun (x0,x1,_)=>.trans (bI (fd:=d84) rfl rfl rfl rfl rfl) (q1 (fun {R} k=>Hw (fS 30000) x0 x1 k) (fun k=>akA _ (aog D) x0 x1 k))
theorem aof:(ER (ga 30000)).holds (A (D+1)):=fun (x0,x1,_)=>.trans (bI (fd:=d87) rfl rfl rfl rfl rfl) (q3 (fun {R} k=>Ra 30000 x0 x1 k) (fun k=>akD x0 x1 k))
theorem an4:(EM (fO 30000)).holds (A (D+5)):=fun (x0,_)=>.trans (bI (fd:=d71) rfl rfl rfl rfl rfl) (q4 (fun {R} k=>uk 30000 (dc 30000) (cN 30000) (ga 30000) x0 (fun r0 r1=>k (r0,r1))) (fun k=>akr _ _ _ (aoc (D+2)) (aod D) (aof (D+3)) x0 k))
theorem anN:(EE (fL 30000)).holds (A (D+1)):=fun (x0,_)=>.trans (bI (fd:=d42) rfl rfl rfl rfl rfl) (q3 (fun {R} k=>tY 30000 x0 k) (fun k=>aj1 x0 k))
theorem anW:(ri (cW 30000)).holds (A (D+6)):=fun (x0,_)=>.trans (bI (fd:=d56) rfl rfl rfl rfl rfl) (q0 (fun {R} k=>Ho (fL 30000) (fO 30000) x0 k) (fun k=>akc _ _ (anN (D+4)) (an4 D) x0 k))
theorem an5:(EN (fP 30000)).holds (A (D+1)):=fun (x0,x1,_)=>.trans (bI (fd:=d72) rfl rfl rfl rfl rfl) (q0 (fun {R} k=>uo 30000 x0 x1 k) (fun k=>aks x0 x1 k))
theorem anX:(rj (cX 30000)).holds (A (D+2)):=fun (x0,x1,_)=>.trans (bI (fd:=d57) rfl rfl rfl rfl rfl) (q1 (fun {R} k=>Hp (fP 30000) x0 x1 k) (fun k=>akd _ (an5 D) x0 x1 k))
theorem anJ:(qV (cS 30000)).holds (A (D+7)):=fun (x0,_)=>.trans (bI (fd:=d39) rfl rfl rfl rfl rfl) (q0 (fun {R} k=>tW 30000 (cW 30000) (cX 30000) x0 k) (fun k=>ajX _ _ (anW D) (anX (D+4)) x0 k))
theorem Rf:(mh (bQ 30000)).holds (A (D+8)):=fun (x0,_)=>.trans (bI (fd:=d13) rfl rfl rfl rfl rfl) (q0 (fun {R} k=>g13 30000 (ft 30000) (cS 30000) x0 k) (fun k=>ajE _ _ (anI (D+4)) (anJ D) x0 k))
theorem anV:(EH (gn 30000)).holds (A (D+1)):=fun _=>.trans (bI (fd:=d53) rfl rfl rfl rfl rfl) (q5 (fun {R} k=>QG (fun r0=>k (r0))) (fun k=>aka k))
theorem anU:(EG (gm 30000)).holds (A (D+1)):=fun (x0,x1,_)=>.trans (bI (fd:=d52) rfl rfl rfl rfl rfl) (q3 (fun {R} k=>QF x0 x1 k) (fun k=>aj9 x0 x1 k))
theorem afS:(jJ (bw 30000)).holds (A (D+2)):=fun (x0,_)=>.trans (bI (fd:=d31) rfl rfl rfl rfl rfl) (q3 (fun {R} k=>PE (gm 30000) (gn 30000) x0 k) (fun k=>ajT _ _ (anU D) (anV D) x0 k))
theorem ho9:(rC (S9 30000)).holds (A (D+9)):=fun (x0,_)=>.trans (bI (fd:=d9) rfl rfl rfl rfl rfl) (q4 (fun {R} k=>g9 30000 (bQ 30000) (a6 30000) (bw 30000) (cb 30000) (eg 30000) x0 (fun r0 r1=>k (r0,r1))) (fun k=>akE _ _ _ _ _ (Rf D) (anB (D+7)) (afS (D+6)) (anC (D+7)) (anD (D+7)) x0 k))
theorem an6:(nG (bT 30000)).holds (A (D+1)):=fun (x0,_)=>.trans (bI (fd:=d73) rfl rfl rfl rfl rfl) (q1 (fun {R} k=>Hs x0 k) (fun k=>akt x0 k))
theorem af2:(jf (bc 30000)).holds (A (D+1)):=fun (x0,_)=>.trans (bI (fd:=d74) rfl rfl rfl rfl rfl) (q1 (fun {R} k=>Ht x0 k) (fun k=>aku x0 k))
theorem afW:(rk (cL 30000)).holds (A (D+2)):=fun (x0,_)=>.trans (bI (fd:=d58) rfl rfl rfl rfl rfl) (q0 (fun {R} k=>mV 30000 (bT 30000) (bc 30000) x0 k) (fun k=>ake _ _ (an6 D) (af2 D) x0 k))
theorem anL:(ED (eY 30000)).holds (A (D+3)):=fun (x0,_)=>.trans (bI (fd:=d40) rfl rfl rfl rfl rfl) (q1 (fun {R} k=>yW (cL 30000) x0 k) (fun k=>ajZ _ (afW D) x0 k))
theorem an7:(EO (fQ 30000)).holds (A (D+1)):=fun (x0,_)=>.trans (bI (fd:=d75) rfl rfl rfl rfl rfl) (q3 (fun {R} k=>uq 30000 x0 k) (fun k=>akv x0 k))
theorem an8:(ru (cM 30000)).holds (A (D+1)):=fun (x0,_)=>.trans (bI (fd:=d76) rfl rfl rfl rfl rfl) (q1 (fun {R} k=>Q0 30000 x0 k) (fun k=>akw x0 k))
theorem anY:(rl (cY 30000)).holds (A (D+2)):=fun (x0,_)=>.trans (bI (fd:=d59) rfl rfl rfl rfl rfl) (q0 (fun {R} k=>ue 30000 (fQ 30000) (cM 30000) x0 k) (fun k=>akf _ _ (an7 D) (an8 D) x0 k))
theorem anZ:(rm (cZ 30000)).holds (A (D+1)):=fun (x0,x1,_)=>.trans (bI (fd:=d60) rfl rfl rfl rfl rfl) (q1 (fun {R} k=>uf 30000 x0 x1 k) (fun k=>akh x0 x1 k))
theorem anM:(qW (cT 30000)).holds (A (D+3)):=fun (x0,_)=>.trans (bI (fd:=d41) rfl rfl rfl rfl rfl) (q0 (fun {R} k=>tX 30000 (cY 30000) (cZ 30000) x0 k) (fun k=>aj0 _ _ (anY D) (anZ (D+1)) x0 k))
theorem Rg:(mi (bR 30000)).holds (A (D+4)):=fun (x0,_)=>.trans (bI (fd:=d14) rfl rfl rfl rfl rfl) (q0 (fun {R} k=>g14 30000 (eY 30000) (cT 30000) x0 k) (fun k=>ajF _ _ (anL D) (anM D) x0 k))
theorem afR:(gV (aV 30000)).holds (A (D+1)):=fun (x0,_)=>.trans (bI (fd:=d28) rfl rfl rfl rfl rfl) (q3 (fun {R} k=>PD x0 k) (fun k=>ajQ x0 k))
theorem af5 (N:Nat):∀ m,(lO (vN 30000 m)).holds (R8 m)
 | 0=>fun a=>by kernel_rfl
 | m+1=>fun a=>by
   have h37:=af5 30000 m
   have e1:=ayv (n:=37) (fd:=d37) (N:=30000) (base:=eN table oz 30000 1) (m:=m) (es:=[.v U2 a.1]) rfl rfl rfl
   exact e1.trans (jr (fd:=d37) (B:=V1) (ag:=fun b=> [.v .str b]) (dr:=fun es=>((bZ (cO .str) dZ) es).map fun q=>(q.1)) (by intro b; kernel_rfl) (fun {R} k=>PF (vN 30000 m) a.1 (fun (r0:V1)=>k (r0))) (fun k=>ajV (vN 30000 m) h37 a.1 k))
theorem anH:(lO (bS 30000)).holds (A (D+1)):=fun a=>(SP rfl).trans (af5 30000 250 a)
theorem anr:(Ez (fh 30000)).holds (A (D+5)):=fun (x0,_)=>.trans (bI (fd:=d12) rfl rfl rfl rfl rfl) (q4 (fun {R} k=>g12 30000 (bR 30000) (aV 30000) (bS 30000) x0 (fun r0 r1=>k (r0,r1))) (fun k=>ajD _ _ _ (Rg D) (afR (D+3)) (anH (D+3)) x0 k))
theorem afZ:(rn (de 30000)).holds (A (D+2)):=fun (x0,_)=>.trans (bI (fd:=d63) rfl rfl rfl rfl rfl) (q0 (fun {R} k=>ug 30000 (aW 30000) x0 k) (fun k=>akk _ (Rj D) x0 k))
theorem afT:(qY (cU 30000)).holds (A (D+3)):=fun (x0,_)=>.trans (bI (fd:=d45) rfl rfl rfl rfl rfl) (q6 (fun {R} k=>tZ 30000 (de 30000) x0 (fun r0 r1=>k (r0,r1))) (fun k=>aj3 _ (afZ D) x0 k))
theorem an9:(ry (da 30000)).holds (A (D+1)):=fun (x0,_)=>.trans (bI (fd:=d77) rfl rfl rfl rfl rfl) (q1 (fun {R} k=>Hu x0 k) (fun k=>akx x0 k))
theorem an0:(EI (S64 30000)).holds (A (D+2)):=fun (x0,_)=>.trans (bI (fd:=d64) rfl rfl rfl rfl rfl) (q4 (fun {R} k=>uh 30000 (da 30000) x0 (fun r0 r1=>k (r0,r1))) (fun k=>akl _ (an9 D) x0 k))
theorem anO:(qX (cq 30000)).holds (A (D+4)):=fun (x0,_)=>.trans (bI (fd:=d44) rfl rfl rfl rfl rfl) (q7 (fun {R} k=>Hl (cU 30000) (cK 30000) (bE 30000) (aW 30000) (de 30000) (S64 30000) (df 30000) x0 (fun r0 r1 r2=>k (r0,r1,r2))) (fun k=>aj2 _ _ _ _ _ _ _ (afT D) (afV (D+1)) (afY (D+2)) (Rj (D+2)) (afZ (D+1)) (an0 (D+1)) (af0 (D+1)) x0 k))
theorem ans:(EA (fJ 30000)).holds (A (D+5)):=fun (x0,_)=>.trans (bI (fd:=d18) rfl rfl rfl rfl rfl) (q8 (fun {R} k=>g18 30000 (cq 30000) x0 (fun r0 r1 r2=>k (r0,r1,r2))) (fun k=>ajG _ (anO D) x0 k))
theorem Ri:(gL (aL 30000)).holds (A (D+1)):=fun (x0,x1,x2,_)=>.trans (bI (fd:=d20) rfl rfl rfl rfl rfl) (q1 (fun {R} k=>g20 x0 x1 x2 k) (fun k=>ajI x0 x1 x2 k))
theorem Rh:(j8 (bn 30000)).holds (A (D+2)):=fun (x0,x1,x2,_)=>.trans (bI (fd:=d19) rfl rfl rfl rfl rfl) (q9 (fun {R} k=>g19 (aL 30000) x0 x1 x2 (fun r0 r1=>k (r0,r1))) (fun k=>ajH _ (Ri D) x0 x1 x2 k))
theorem ant:(oV (bY 30000)).holds (A (D+1)):=fun (x0,_)=>.trans (bI (fd:=d21) rfl rfl rfl rfl rfl) (q0 (fun {R} k=>g21 x0 k) (fun k=>ajJ x0 k))
theorem anP:(nE (bV 30000)).holds (A (D+3)):=fun (x0,_)=>.trans (bI (fd:=d46) rfl rfl rfl rfl rfl) (q9 (fun {R} k=>Hm (bn 30000) x0 (fun r0 r1=>k (r0,r1))) (fun k=>aj4 _ (Rh D) x0 k))
theorem anu:(qQ (ca 30000)).holds (A (D+4)):=fun (x0,_)=>.trans (bI (fd:=d22) rfl rfl rfl rfl rfl) (q10 (fun {R} k=>g22 30000 (bn 30000) (aL 30000) (cU 30000) (bV 30000) x0 (fun r0 r1 r2=>k (r0,r1,r2))) (fun k=>ajK _ _ _ _ (Rh (D+1)) (Ri (D+2)) (afT D) (anP D) x0 k))
theorem anv:(qR (cy 30000)).holds (A (D+3)):=fun (x0,_)=>.trans (bI (fd:=d23) rfl rfl rfl rfl rfl) (q0 (fun {R} k=>g23 30000 (bw 30000) x0 k) (fun k=>ajL _ (afS D) x0 k))
theorem ho6:(oW (S6 30000)).holds (A (D+9)):=fun (x0,_)=>.trans (bI (fd:=d6) rfl rfl rfl rfl rfl) (R7 (fun {R} k=>g6 30000 (bQ 30000) (fJ 30000) (bn 30000) (aL 30000) (bY 30000) (ca 30000) (cy 30000) x0 (fun r0 r1 r2=>k (r0,r1,r2))) (fun k=>akg _ _ _ _ _ _ _ (Rf D) (ans (D+3)) (Rh (D+6)) (Ri (D+7)) (ant (D+7)) (anu (D+4)) (anv (D+5)) x0 k))
theorem anA:(qT (cQ 30000)).holds (A (D+1)):=fun (x0,x1,_)=>.trans (bI (fd:=d29) rfl rfl rfl rfl rfl) (q1 (fun {R} k=>tU 30000 x0 x1 k) (fun k=>ajR x0 x1 k))
theorem ho8:(nH (S8 30000)).holds (A (D+2)):=fun (x0,x1,_)=>.trans (bI (fd:=d8) rfl rfl rfl rfl rfl) (q1 (fun {R} k=>g8 30000 (cQ 30000) x0 x1 k) (fun k=>akz _ (anA D) x0 x1 k))
theorem ho4:(aiO (S4 30000)).holds (A (D+13)):=fun (x0,_)=>.trans (bI (fd:=d4) rfl rfl rfl rfl rfl) (q1 (fun {R} k=>g4 (S5 30000) (S6 30000) (S8 30000) (S9 30000) (fH 30000) (fI 30000) (fh 30000) (bQ 30000) (bR 30000) x0 k) (fun k=>ajY _ _ _ _ _ _ _ _ _ (ho5 D) (ho6 (D+3)) (ho8 (D+10)) (ho9 (D+3)) (anp (D+10)) (anq (D+10)) (anr (D+7)) (Rf (D+4)) (Rg (D+8)) x0 k))
theorem va4 (D:Nat) (x0:ad):eN table nk 30000 (D+13) 4 [.v af x0]=(S4 30000 x0).bind fun b=>some [.v .bool b]:=ho4 D (x0,())
theorem anQ:(qZ (cI 30000)).holds (A (D+1)):=fun (x0,_)=>.trans (bI (fd:=d47) rfl rfl rfl rfl rfl) (q0 (fun {R} k=>nV 30000 x0 k) (fun k=>aj5 x0 k))
theorem anR:(ra (cJ 30000)).holds (A (D+1)):=fun (x0,_)=>.trans (bI (fd:=d48) rfl rfl rfl rfl rfl) (q0 (fun {R} k=>ua 30000 x0 k) (fun k=>aj6 x0 k))
theorem af1:(rq (dh 30000)).holds (A (D+2)):=fun (x0,_)=>.trans (bI (fd:=d66) rfl rfl rfl rfl rfl) (q0 (fun {R} k=>ui 30000 (bc 30000) x0 k) (fun k=>akn _ (af2 D) x0 k))
theorem aob:(rz (db 30000)).holds (A (D+1)):=fun (x0,_)=>.trans (bI (fd:=d79) rfl rfl rfl rfl rfl) (q1 (fun {R} k=>Hv x0 k) (fun k=>aky x0 k))
theorem an1:(EJ (fN 30000)).holds (A (D+2)):=fun (x0,_)=>.trans (bI (fd:=d67) rfl rfl rfl rfl rfl) (q7 (fun {R} k=>uj 30000 (db 30000) x0 (fun r0 r1 r2=>k (r0,r1,r2))) (fun k=>ako _ (aob D) x0 k))
theorem an2:(EK (fu 30000)).holds (A (D+1)):=fun (x0,_)=>.trans (bI (fd:=d68) rfl rfl rfl rfl rfl) (q1 (fun {R} k=>QV 30000 x0 k) (fun k=>akp x0 k))
theorem anS:(rb (cV 30000)).holds (A (D+3)):=fun (x0,_)=>.trans (bI (fd:=d49) rfl rfl rfl rfl rfl) (q7 (fun {R} k=>Hn (cL 30000) (dh 30000) (fN 30000) (fu 30000) x0 (fun r0 r1 r2=>k (r0,r1,r2))) (fun k=>aj7 _ _ _ _ (afW D) (af1 D) (an1 D) (an2 (D+1)) x0 k))
theorem anw:(EB (fK 30000)).holds (A (D+4)):=fun (x0,_)=>.trans (bI (fd:=d24) rfl rfl rfl rfl rfl) (q8 (fun {R} k=>g24 30000 (cI 30000) (cJ 30000) (cV 30000) x0 (fun r0 r1 r2=>k (r0,r1,r2))) (fun k=>ajM _ _ _ (anQ (D+2)) (anR (D+2)) (anS D) x0 k))
theorem afQ:(fT (aE 30000)).holds (A (D+1)):=fun (x0,x1,x2,x3,_)=>.trans (bI (fd:=d25) rfl rfl rfl rfl rfl) (q1 (fun {R} k=>Hg x0 x1 x2 x3 k) (fun k=>ajN x0 x1 x2 x3 k))
theorem anx:(lM (bD 30000)).holds (A (D+1)):=fun (x0,x1,_)=>.trans (bI (fd:=d26) rfl rfl rfl rfl rfl) (R7 (fun {R} k=>Hh x0 x1 (fun r0 r1 r2=>k (r0,r1,r2))) (fun k=>ajO x0 x1 k))
theorem anT:(EF (fM 30000)).holds (A (D+3)):=fun (x0,_)=>.trans (bI (fd:=d50) rfl rfl rfl rfl rfl) (q6 (fun {R} k=>uc 30000 (dh 30000) x0 (fun r0 r1=>k (r0,r1))) (fun k=>aj8 _ (af1 D) x0 k))
theorem anz:(qS (cg 30000)).holds (A (D+4)):=fun (x0,x1,_)=>.trans (bI (fd:=d27) rfl rfl rfl rfl rfl) (q12 (fun {R} k=>pM 30000 (aE 30000) (fM 30000) x0 x1 (fun r0 r1 r2=>k (r0,r1,r2))) (fun k=>ajP _ _ (afQ (D+2)) (anT D) x0 x1 k))
theorem ho7:(EL (S7 30000)).holds (A (D+5)):=fun (x0,_)=>.trans (bI (fd:=d7) rfl rfl rfl rfl rfl) (R7 (fun {R} k=>g7 30000 (bR 30000) (fK 30000) (aE 30000) (bD 30000) (cg 30000) (aV 30000) x0 (fun r0 r1 r2=>k (r0,r1,r2))) (fun k=>akq _ _ _ _ _ _ (Rg D) (anw D) (afQ (D+3)) (anx (D+3)) (anz D) (afR (D+3)) x0 k))
theorem ho3:(aiN (S3 30000)).holds (A (D+13)):=fun (x0,_)=>.trans (bI (fd:=d3) rfl rfl rfl rfl rfl) (q1 (fun {R} k=>g3 (S5 30000) (S6 30000) (S7 30000) (S8 30000) (S9 30000) x0 k) (fun k=>ajS _ _ _ _ _ (ho5 D) (ho6 (D+3)) (ho7 (D+7)) (ho8 (D+10)) (ho9 (D+3)) x0 k))
end Go.Fw.L19
