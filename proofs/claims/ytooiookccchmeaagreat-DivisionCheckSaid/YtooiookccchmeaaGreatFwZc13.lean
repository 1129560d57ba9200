/- Own work. -/
import Derived.Test.YtooiookccchmeaaGreatFwMc13
import Derived.Test.YtooiookccchmeaaGreatFwB6
set_option linter.unusedVariables false
set_option linter.unusedSimpArgs false
namespace Go.Fw.L19
open Go Go.Fw
set_option maxRecDepth 100000
abbrev A (D:Nat):aA:=bE table kV 2000 D
theorem q0 {cl:aA} {N:Nat} {fd:FD} {env:Env} (g:{R:Type}→(aF→Option R)→Option R) (hg:∀ {R:Type} (k:List E→Option R),exec cl N fd.body env (fun e env=>(ag fd e env).bind k)=g (fun b=>k [.own true 9 .str .no b])):exec cl N fd.body env (ag fd)=(g some).bind fun b=>some [.own true 9 .str .no b]:=dV (dr:=fun es=>((bj (mX .str) cz) es).map fun q=>(q.1)) (by intro b; kernel_rfl) g hg
theorem q1 {cl:aA} {N:Nat} {fd:FD} {env:Env} (g:{R:Type}→(V3→Option R)→Option R) (hg:∀ {R:Type} (k:List E→Option R),exec cl N fd.body env (fun e env=>(ag fd e env).bind k)=g (fun b=>k [.v .str b])):exec cl N fd.body env (ag fd)=(g some).bind fun b=>some [.v .str b]:=dV (dr:=fun es=>((bj (bM .str) cz) es).map fun q=>(q.1)) (by intro b; kernel_rfl) g hg
theorem q2 {cl:aA} {N:Nat} {fd:FD} {env:Env} (g:{R:Type}→(Bool→Option R)→Option R) (hg:∀ {R:Type} (k:List E→Option R),exec cl N fd.body env (fun e env=>(ag fd e env).bind k)=g (fun b=>k [.v .bool b])):exec cl N fd.body env (ag fd)=(g some).bind fun b=>some [.v .bool b]:=dV (dr:=fun es=>((bj (bM .bool) cz) es).map fun q=>(q.1)) (by intro b; kernel_rfl) g hg
theorem q3 {cl:aA} {N:Nat} {fd:FD} {env:Env} (g:{R:Type}→(Int→Option R)→Option R) (hg:∀ {R:Type} (k:List E→Option R),exec cl N fd.body env (fun e env=>(ag fd e env).bind k)=g (fun b=>k [.v U2 b])):exec cl N fd.body env (ag fd)=(g some).bind fun b=>some [.v U2 b]:=dV (dr:=fun es=>((bj (bM U2) cz) es).map fun q=>(q.1)) (by intro b; kernel_rfl) g hg
theorem q4 {cl:aA} {N:Nat} {fd:FD} {env:Env} (g:{R:Type}→(aQ×Bool→Option R)→Option R) (hg:∀ {R:Type} (k:List E→Option R),exec cl N fd.body env (fun e env=>(ag fd e env).bind k)=g (fun b=>k [.v aC b.1,.v .bool b.2])):exec cl N fd.body env (ag fd)=(g some).bind fun b=>some [.v aC b.1,.v .bool b.2]:=dV (dr:=fun es=>((bj (bM aC) (bj (bM .bool) cz)) es).map fun q=>(q.1,q.2.1)) (by intro b; kernel_rfl) g hg
theorem q5 {cl:aA} {N:Nat} {fd:FD} {env:Env} (g:{R:Type}→(av×Int→Option R)→Option R) (hg:∀ {R:Type} (k:List E→Option R),exec cl N fd.body env (fun e env=>(ag fd e env).bind k)=g (fun b=>k [.own true 40 aC .no b.1,.v U2 b.2])):exec cl N fd.body env (ag fd)=(g some).bind fun b=>some [.own true 40 aC .no b.1,.v U2 b.2]:=dV (dr:=fun es=>((bj (mX aC) (bj (bM U2) cz)) es).map fun q=>(q.1,q.2.1)) (by intro b; kernel_rfl) g hg
theorem q6 {cl:aA} {N:Nat} {fd:FD} {env:Env} (g:{R:Type}→(Int×Bool→Option R)→Option R) (hg:∀ {R:Type} (k:List E→Option R),exec cl N fd.body env (fun e env=>(ag fd e env).bind k)=g (fun b=>k [.v U2 b.1,.v .bool b.2])):exec cl N fd.body env (ag fd)=(g some).bind fun b=>some [.v U2 b.1,.v .bool b.2]:=dV (dr:=fun es=>((bj (bM U2) (bj (bM .bool) cz)) es).map fun q=>(q.1,q.2.1)) (by intro b; kernel_rfl) g hg
theorem q7 {cl:aA} {N:Nat} {fd:FD} {env:Env} (g:{R:Type}→(aW×Bool→Option R)→Option R) (hg:∀ {R:Type} (k:List E→Option R),exec cl N fd.body env (fun e env=>(ag fd e env).bind k)=g (fun b=>k [.v aE b.1,.v .bool b.2])):exec cl N fd.body env (ag fd)=(g some).bind fun b=>some [.v aE b.1,.v .bool b.2]:=dV (dr:=fun es=>((bj (bM aE) (bj (bM .bool) cz)) es).map fun q=>(q.1,q.2.1)) (by intro b; kernel_rfl) g hg
theorem q8 {cl:aA} {N:Nat} {fd:FD} {env:Env} (g:{R:Type}→(Int×Int→Option R)→Option R) (hg:∀ {R:Type} (k:List E→Option R),exec cl N fd.body env (fun e env=>(ag fd e env).bind k)=g (fun b=>k [.v U2 b.1,.v U2 b.2])):exec cl N fd.body env (ag fd)=(g some).bind fun b=>some [.v U2 b.1,.v U2 b.2]:=dV (dr:=fun es=>((bj (bM U2) (bj (bM U2) cz)) es).map fun q=>(q.1,q.2.1)) (by intro b; kernel_rfl) g hg
theorem q9 {cl:aA} {N:Nat} {fd:FD} {env:Env} (g:{R:Type}→(ae×Int×Int→Option R)→Option R) (hg:∀ {R:Type} (k:List E→Option R),exec cl N fd.body env (fun e env=>(ag fd e env).bind k)=g (fun b=>k [.v ar b.1,.v U2 b.2.1,.v U2 b.2.2])):exec cl N fd.body env (ag fd)=(g some).bind fun b=>some [.v ar b.1,.v U2 b.2.1,.v U2 b.2.2]:=dV (dr:=fun es=>((bj (bM ar) (bj (bM U2) (bj (bM U2) cz))) es).map fun q=>(q.1,q.2.1,q.2.2.1)) (by intro b; kernel_rfl) g hg
theorem q10 {cl:aA} {N:Nat} {fd:FD} {env:Env} (g:{R:Type}→(ae→Option R)→Option R) (hg:∀ {R:Type} (k:List E→Option R),exec cl N fd.body env (fun e env=>(ag fd e env).bind k)=g (fun b=>k [.v ar b])):exec cl N fd.body env (ag fd)=(g some).bind fun b=>some [.v ar b]:=dV (dr:=fun es=>((bj (bM ar) cz) es).map fun q=>(q.1)) (by intro b; kernel_rfl) g hg
theorem q11 {cl:aA} {N:Nat} {fd:FD} {env:Env} (g:{R:Type}→(gr×Int→Option R)→Option R) (hg:∀ {R:Type} (k:List E→Option R),exec cl N fd.body env (fun e env=>(ag fd e env).bind k)=g (fun b=>k [.own true 179 ei .no b.1,.v U2 b.2])):exec cl N fd.body env (ag fd)=(g some).bind fun b=>some [.own true 179 ei .no b.1,.v U2 b.2]:=dV (dr:=fun es=>((bj (mX ei) (bj (bM U2) cz)) es).map fun q=>(q.1,q.2.1)) (by intro b; kernel_rfl) g hg
theorem q12 {cl:aA} {N:Nat} {fd:FD} {env:Env} (g:{R:Type}→(V3×Int→Option R)→Option R) (hg:∀ {R:Type} (k:List E→Option R),exec cl N fd.body env (fun e env=>(ag fd e env).bind k)=g (fun b=>k [.v .str b.1,.v U2 b.2])):exec cl N fd.body env (ag fd)=(g some).bind fun b=>some [.v .str b.1,.v U2 b.2]:=dV (dr:=fun es=>((bj (bM .str) (bj (bM U2) cz)) es).map fun q=>(q.1,q.2.1)) (by intro b; kernel_rfl) g hg
theorem Xq {cl:aA} {N:Nat} {fd:FD} {env:Env} (g:{R:Type}→(av→Option R)→Option R) (hg:∀ {R:Type} (k:List E→Option R),exec cl N fd.body env (fun e env=>(ag fd e env).bind k)=g (fun b=>k [.v ba b])):exec cl N fd.body env (ag fd)=(g some).bind fun b=>some [.v ba b]:=dV (dr:=fun es=>((bj (bM ba) cz) es).map fun q=>(q.1)) (by intro b; kernel_rfl) g hg
theorem q14 {cl:aA} {N:Nat} {fd:FD} {env:Env} (g:{R:Type}→(cj→Option R)→Option R) (hg:∀ {R:Type} (k:List E→Option R),exec cl N fd.body env (fun e env=>(ag fd e env).bind k)=g (fun b=>k [.own true 73 a6 .no b])):exec cl N fd.body env (ag fd)=(g some).bind fun b=>some [.own true 73 a6 .no b]:=dV (dr:=fun es=>((bj (mX a6) cz) es).map fun q=>(q.1)) (by intro b; kernel_rfl) g hg
theorem q15 {cl:aA} {N:Nat} {fd:FD} {env:Env} (g:{R:Type}→(V7×Int→Option R)→Option R) (hg:∀ {R:Type} (k:List E→Option R),exec cl N fd.body env (fun e env=>(ag fd e env).bind k)=g (fun b=>k [.own true 27 U5 .no b.1,.v U2 b.2])):exec cl N fd.body env (ag fd)=(g some).bind fun b=>some [.own true 27 U5 .no b.1,.v U2 b.2]:=dV (dr:=fun es=>((bj (mX U5) (bj (bM U2) cz)) es).map fun q=>(q.1,q.2.1)) (by intro b; kernel_rfl) g hg
theorem q16 {cl:aA} {N:Nat} {fd:FD} {env:Env} (g:{R:Type}→(V0×Int×Int→Option R)→Option R) (hg:∀ {R:Type} (k:List E→Option R),exec cl N fd.body env (fun e env=>(ag fd e env).bind k)=g (fun b=>k [.v U5 b.1,.v U2 b.2.1,.v U2 b.2.2])):exec cl N fd.body env (ag fd)=(g some).bind fun b=>some [.v U5 b.1,.v U2 b.2.1,.v U2 b.2.2]:=dV (dr:=fun es=>((bj (bM U5) (bj (bM U2) (bj (bM U2) cz))) es).map fun q=>(q.1,q.2.1,q.2.2.1)) (by intro b; kernel_rfl) g hg
theorem q17 {cl:aA} {N:Nat} {fd:FD} {env:Env} (g:{R:Type}→(V3×Bool→Option R)→Option R) (hg:∀ {R:Type} (k:List E→Option R),exec cl N fd.body env (fun e env=>(ag fd e env).bind k)=g (fun b=>k [.v .str b.1,.v .bool b.2])):exec cl N fd.body env (ag fd)=(g some).bind fun b=>some [.v .str b.1,.v .bool b.2]:=dV (dr:=fun es=>((bj (bM .str) (bj (bM .bool) cz)) es).map fun q=>(q.1,q.2.1)) (by intro b; kernel_rfl) g hg
theorem q18 {cl:aA} {N:Nat} {fd:FD} {env:Env} (g:{R:Type}→(V0×Int→Option R)→Option R) (hg:∀ {R:Type} (k:List E→Option R),exec cl N fd.body env (fun e env=>(ag fd e env).bind k)=g (fun b=>k [.own true 3 U2 .no b.1,.v U2 b.2])):exec cl N fd.body env (ag fd)=(g some).bind fun b=>some [.own true 3 U2 .no b.1,.v U2 b.2]:=dV (dr:=fun es=>((bj (mX U2) (bj (bM U2) cz)) es).map fun q=>(q.1,q.2.1)) (by intro b; kernel_rfl) g hg
variable (D:Nat)
theorem abI:(jV (eQ 2000)).holds (A (D+1)):=DU rfl (by intro a; kernel_rfl)
theorem ab0:(iE (cH 2000)).holds (A (D+1)):=DU rfl (by intro a; kernel_rfl)
theorem ab1:(ju (eg 2000)).holds (A (D+1)):=DU rfl (by intro a; kernel_rfl)
theorem abh:(kh (fo 2000)).holds (A (D+1)):=DU rfl (by intro a; kernel_rfl)
theorem ab8:(Cz (fZ 2000)).holds (A (D+1)):=fun (x0,_)=>.trans (aU (fd:=d92) rfl rfl rfl rfl rfl) (q0 (fun {R} k=>Ld 2000 x0 k) (fun k=>aaG x0 k))
theorem Vp:(ll (bP 2000)).holds (A (D+1)):=fun (x0,_)=>.trans (aU (fd:=d93) rfl rfl rfl rfl rfl) (q0 (fun {R} k=>Le 2000 x0 k) (fun k=>aaH x0 k))
theorem aba:(Co (fX 2000)).holds (A (D+1)):=fun (x0,_)=>.trans (aU (fd:=d138) rfl rfl rfl rfl rfl) (q0 (fun {R} k=>Kv 2000 x0 k) (fun k=>ZG x0 k))
theorem acg {cl:aA} (S:Option V6) (h:cl.run 148 []=S.bind fun b=>some [.v .str b]):(oT S).holds cl:=fun _=>h
theorem abi:(oT (dH 2000)).holds (A (D+1)):=acg (dH 2000) ((aU (fd:=d148) rfl rfl rfl rfl rfl).trans (q1 (fun {R} k=>KB (fun r0=>k (r0))) (fun k=>ZN k)))
theorem LB:(nM (cB 2000)).holds (A (D+1)):=fun (x0,_)=>.trans (aU (fd:=d114) rfl rfl rfl rfl rfl) (q2 (fun {R} k=>CU x0 k) (fun k=>Zn x0 k))
theorem aa9:(rb (dB 2000)).holds (A (D+1)):=fun (x0,_)=>.trans (aU (fd:=d137) rfl rfl rfl rfl rfl) (q2 (fun {R} k=>C0 x0 k) (fun k=>ZF x0 k))
theorem Ve:(mT (bN 2000)).holds (A (D+2)):=fun (x0,_)=>.trans (aU (fd:=d117) rfl rfl rfl rfl rfl) (q3 (fun {R} k=>rU 2000 (dB 2000) x0 k) (fun k=>Zq _ (aa9 D) x0 k))
theorem abb:(rh (dQ 2000)).holds (A (D+3)):=fun (x0,_)=>.trans (aU (fd:=d139) rfl rfl rfl rfl rfl) (q4 (fun {R} k=>Kw 2000 (cB 2000) (bN 2000) (dH 2000) x0 (fun r0 r1=>k (r0,r1))) (fun k=>ZH _ _ _ (LB (D+1)) (Ve D) (abi (D+1)) x0 k))
theorem aaX:(Cl (fV 2000)).holds (A (D+4)):=fun (x0,_)=>.trans (aU (fd:=d118) rfl rfl rfl rfl rfl) (q5 (fun {R} k=>Kj 2000 (fX 2000) (dQ 2000) x0 (fun r0 r1=>k (r0,r1))) (fun k=>Zr _ _ (aba (D+2)) (abb D) x0 k))
theorem Vg:(kK (bA 2000)).holds (A (D+1)):=fun (x0,_)=>.trans (aU (fd:=d136) rfl rfl rfl rfl rfl) (q2 (fun {R} k=>CZ x0 k) (fun k=>ZE x0 k))
theorem abc:(Cp (fY 2000)).holds (A (D+2)):=fun (x0,_)=>.trans (aU (fd:=d140) rfl rfl rfl rfl rfl) (q3 (fun {R} k=>Ky 2000 (bA 2000) x0 k) (fun k=>ZI _ (Vg D) x0 k))
theorem aaY:(Cm (fW 2000)).holds (A (D+3)):=fun (x0,_)=>.trans (aU (fd:=d119) rfl rfl rfl rfl rfl) (q6 (fun {R} k=>Kk 2000 (fY 2000) x0 (fun r0 r1=>k (r0,r1))) (fun k=>Zs _ (abc D) x0 k))
theorem aa0:(qX (dP 2000)).holds (A (D+1)):=fun (x0,_)=>.trans (aU (fd:=d120) rfl rfl rfl rfl rfl) (q1 (fun {R} k=>Km x0 k) (fun k=>Zu x0 k))
theorem ab9:(oY (c7 2000)).holds (A (D+5)):=fun (x0,_)=>.trans (aU (fd:=d94) rfl rfl rfl rfl rfl) (q7 (fun {R} k=>Lf 2000 (bP 2000) (fV 2000) (fW 2000) (dP 2000) x0 (fun r0 r1=>k (r0,r1))) (fun k=>aaI _ _ _ _ (Vp (D+3)) (aaX D) (aaY (D+1)) (aa0 (D+3)) x0 k))
theorem aa8:(oS (cJ 2000)).holds (A (D+1)):=fun (x0,_)=>.trans (aU (fd:=d135) rfl rfl rfl rfl rfl) (q2 (fun {R} k=>CY x0 k) (fun k=>ZD x0 k))
theorem aaV:(IN (hQ 2000)).holds (A (D+2)):=fun (x0,_)=>.trans (aU (fd:=d115) rfl rfl rfl rfl rfl) (q3 (fun {R} k=>rS 2000 (cJ 2000) (bA 2000) x0 k) (fun k=>Zo _ _ (aa8 D) (Vg D) x0 k))
theorem ab6:(Cy (fe 2000)).holds (A (D+3)):=fun (x0,_)=>.trans (aU (fd:=d90) rfl rfl rfl rfl rfl) (q2 (fun {R} k=>Du (hQ 2000) x0 k) (fun k=>aaE _ (aaV D) x0 k))
theorem Vd:(kJ (bz 2000)).holds (A (D+1)):=fun (x0,_)=>.trans (aU (fd:=d111) rfl rfl rfl rfl rfl) (q2 (fun {R} k=>Kh 2000 x0 k) (fun k=>Zm x0 k))
theorem aaW:(Ck (fx 2000)).holds (A (D+2)):=fun (x0,_)=>.trans (aU (fd:=d116) rfl rfl rfl rfl rfl) (q3 (fun {R} k=>rT 2000 (bz 2000) x0 k) (fun k=>Zp _ (Vd D) x0 k))
theorem ab7:(oX (cN 2000)).holds (A (D+3)):=fun (x0,_)=>.trans (aU (fd:=d91) rfl rfl rfl rfl rfl) (q3 (fun {R} k=>sN 2000 (fx 2000) (bN 2000) x0 k) (fun k=>aaF _ _ (aaW D) (Ve D) x0 k))
theorem ab2:(Jj (gS 2000)).holds (A (D+1)):=fun (x0,x1,_)=>.trans (aU (fd:=d86) rfl rfl rfl rfl rfl) (q3 (fun {R} k=>Dr x0 x1 k) (fun k=>aaB x0 x1 k))
theorem abP:(rl (dD 2000)).holds (A (D+2)):=fun (x0,x1,_)=>.trans (aU (fd:=d59) rfl rfl rfl rfl rfl) (q3 (fun {R} k=>Dl (gS 2000) x0 x1 k) (fun k=>aao _ (ab2 D) x0 x1 k))
theorem aby:(mU (bL 2000)).holds (A (D+3)):=fun (x0,x1,_)=>.trans (aU (fd:=d28) rfl rfl rfl rfl rfl) (q2 (fun {R} k=>r8 2000 (dD 2000) x0 x1 k) (fun k=>Z3 _ (abP D) x0 x1 k))
theorem Vm:(ru (dM 2000)).holds (A (D+4)):=fun (x0,_)=>.trans (aU (fd:=d67) rfl rfl rfl rfl rfl) (q8 (fun {R} k=>oc 2000 (bL 2000) (fe 2000) (cN 2000) x0 (fun r0 r1=>k (r0,r1))) (fun k=>aat _ _ _ (aby D) (ab6 D) (ab7 D) x0 k))
theorem abU:(Jf (jq 2000)).holds (A (D+6)):=fun (x0,_)=>.trans (aU (fd:=d69) rfl rfl rfl rfl rfl) (q9 (fun {R} k=>K2 2000 (dM 2000) (fZ 2000) (bP 2000) (c7 2000) x0 (fun r0 r1 r2=>k (r0,r1,r2))) (fun k=>aau _ _ _ _ (Vm (D+1)) (ab8 (D+4)) (Vp (D+4)) (ab9 D) x0 k))
theorem ach {cl:aA} (S:Option uh) (h:cl.run 37 []=S.bind fun b=>some [.v ar b]):(Cs S).holds cl:=fun _=>h
theorem abE:(Cs (iu 2000)).holds (A (D+7)):=ach (iu 2000) ((aU (fd:=d37) rfl rfl rfl rfl rfl).trans (q10 (fun {R} k=>KM (jq 2000) k) (fun k=>Z9 _ (abU D) k)))
theorem abj:(oU (cM 2000)).holds (A (D+1)):=fun (x0,_)=>.trans (aU (fd:=d149) rfl rfl rfl rfl rfl) (q2 (fun {R} k=>C8 x0 k) (fun k=>ZO x0 k))
theorem abl:(rj (dw 2000)).holds (A (D+1)):=fun (x0,_)=>.trans (aU (fd:=d150) rfl rfl rfl rfl rfl) (q2 (fun {R} k=>C9 x0 k) (fun k=>ZQ x0 k))
theorem abd:(IU (hY 2000)).holds (A (D+2)):=fun (x0,_)=>.trans (aU (fd:=d141) rfl rfl rfl rfl rfl) (q3 (fun {R} k=>wb 2000 (cM 2000) (dw 2000) x0 k) (fun k=>ZJ _ _ (abj D) (abl D) x0 k))
theorem aa1:(Cn (fm 2000)).holds (A (D+3)):=fun (x0,_)=>.trans (aU (fd:=d121) rfl rfl rfl rfl rfl) (q2 (fun {R} k=>CV (hY 2000) x0 k) (fun k=>Zv _ (abd D) x0 k))
theorem Vo:(uO (ez 2000)).holds (A (D+1)):=fun (x0,_)=>.trans (aU (fd:=d72) rfl rfl rfl rfl rfl) (q1 (fun {R} k=>sI 2000 x0 k) (fun k=>aax x0 k))
theorem abr:(Cr (fB 2000)).holds (A (D+1)):=fun (x0,_)=>.trans (aU (fd:=d158) rfl rfl rfl rfl rfl) (q3 (fun {R} k=>r6 2000 x0 k) (fun k=>ZW x0 k))
theorem aa7:(IT (jo 2000)).holds (A (D+2)):=fun (x0,x1,_)=>.trans (aU (fd:=d127) rfl rfl rfl rfl rfl) (q3 (fun {R} k=>Kq (fo 2000) x0 x1 k) (fun k=>ZB _ (abh D) x0 x1 k))
theorem Vq:(nP (ck 2000)).holds (A (D+3)):=fun (x0,_)=>.trans (aU (fd:=d98) rfl rfl rfl rfl rfl) (q2 (fun {R} k=>Li (jo 2000) x0 k) (fun k=>aaM _ (aa7 D) x0 k))
theorem abm:(IX (iU 2000)).holds (A (D+4)):=fun (x0,_)=>.trans (aU (fd:=d151) rfl rfl rfl rfl rfl) (q11 (fun {R} k=>rZ 2000 (ck 2000) (fB 2000) x0 (fun r0 r1=>k (r0,r1))) (fun k=>ZR _ _ (Vq D) (abr (D+2)) x0 k))
theorem abe:(Cq (fy 2000)).holds (A (D+5)):=fun (x0,_)=>.trans (aU (fd:=d142) rfl rfl rfl rfl rfl) (q3 (fun {R} k=>C6 (ez 2000) (iU 2000) x0 k) (fun k=>ZK _ _ (Vo (D+3)) (abm D) x0 k))
theorem abn:(IY (hZ 2000)).holds (A (D+1)):=fun (x0,_)=>.trans (aU (fd:=d152) rfl rfl rfl rfl rfl) (q2 (fun {R} k=>Da x0 k) (fun k=>ZS x0 k))
theorem abq:(I1 (ic 2000)).holds (A (D+1)):=fun (x0,_)=>.trans (aU (fd:=d155) rfl rfl rfl rfl rfl) (q2 (fun {R} k=>Dd x0 k) (fun k=>ZV x0 k))
theorem abp:(I0 (ib 2000)).holds (A (D+2)):=fun (x0,_)=>.trans (aU (fd:=d154) rfl rfl rfl rfl rfl) (q2 (fun {R} k=>Dc (ic 2000) x0 k) (fun k=>ZU _ (abq D) x0 k))
theorem abu:(I3 (ij 2000)).holds (A (D+1)):=fun (x0,x1,x2,_)=>.trans (aU (fd:=d160) rfl rfl rfl rfl rfl) (q3 (fun {R} k=>r7 2000 x0 x1 x2 k) (fun k=>ZZ x0 x1 x2 k))
theorem abt:(I2 (ig 2000)).holds (A (D+2)):=fun (x0,x1,_)=>.trans (aU (fd:=d159) rfl rfl rfl rfl rfl) (q3 (fun {R} k=>De (ij 2000) x0 x1 k) (fun k=>ZX _ (abu D) x0 x1 k))
theorem abo:(IZ (ia 2000)).holds (A (D+3)):=fun (x0,x1,_)=>.trans (aU (fd:=d153) rfl rfl rfl rfl rfl) (q2 (fun {R} k=>Db (ig 2000) x0 x1 k) (fun k=>ZT _ (abt D) x0 x1 k))
theorem abf:(ri (dC 2000)).holds (A (D+4)):=fun (x0,_)=>.trans (aU (fd:=d143) rfl rfl rfl rfl rfl) (q3 (fun {R} k=>C7 (hZ 2000) (ia 2000) (ib 2000) x0 k) (fun k=>ZL _ _ _ (abn (D+2)) (abo D) (abp (D+1)) x0 k))
theorem aa2:(qY (du 2000)).holds (A (D+6)):=fun (x0,_)=>.trans (aU (fd:=d122) rfl rfl rfl rfl rfl) (q3 (fun {R} k=>rV 2000 (fy 2000) (dC 2000) x0 k) (fun k=>Zw _ _ (abe D) (abf (D+1)) x0 k))
theorem aa5:(IQ (hX 2000)).holds (A (D+1)):=fun (x0,x1,_)=>.trans (aU (fd:=d125) rfl rfl rfl rfl rfl) (q2 (fun {R} k=>rW 2000 x0 x1 k) (fun k=>Zz x0 x1 k))
theorem aa4:(ra (dv 2000)).holds (A (D+2)):=fun (x0,x1,_)=>.trans (aU (fd:=d124) rfl rfl rfl rfl rfl) (q2 (fun {R} k=>CX (hX 2000) x0 x1 k) (fun k=>Zy _ (aa5 D) x0 x1 k))
theorem abg:(IV (iT 2000)).holds (A (D+1)):=fun (x0,x1,_)=>.trans (aU (fd:=d144) rfl rfl rfl rfl rfl) (q3 (fun {R} k=>rY 2000 x0 x1 k) (fun k=>ZM x0 x1 k))
theorem aa3:(qZ (de 2000)).holds (A (D+2)):=fun (x0,x1,_)=>.trans (aU (fd:=d123) rfl rfl rfl rfl rfl) (q2 (fun {R} k=>CW (iT 2000) x0 x1 k) (fun k=>Zx _ (abg D) x0 x1 k))
theorem aca:(Jm (iY 2000)).holds (A (D+7)):=fun (x0,_)=>.trans (aU (fd:=d95) rfl rfl rfl rfl rfl) (q8 (fun {R} k=>sO 2000 (fm 2000) (du 2000) (de 2000) (dv 2000) x0 (fun r0 r1=>k (r0,r1))) (fun k=>aaJ _ _ _ _ (aa1 (D+3)) (aa2 D) (aa3 (D+4)) (aa4 (D+4)) x0 k))
theorem Vn:(uN (ey 2000)).holds (A (D+8)):=fun (x0,_)=>.trans (aU (fd:=d70) rfl rfl rfl rfl rfl) (q3 (fun {R} k=>Dp (iY 2000) x0 k) (fun k=>aav _ (aca D) x0 k))
theorem acd:(rz (dz 2000)).holds (A (D+4)):=fun (x0,_)=>.trans (aU (fd:=d97) rfl rfl rfl rfl rfl) (q2 (fun {R} k=>Dw (ck 2000) x0 k) (fun k=>aaL _ (Vq D) x0 k))
theorem aa6:(IS (iS 2000)).holds (A (D+1)):=fun (x0,x1,_)=>.trans (aU (fd:=d126) rfl rfl rfl rfl rfl) (q3 (fun {R} k=>rX 2000 x0 x1 k) (fun k=>ZA x0 x1 k))
theorem acb:(ry (df 2000)).holds (A (D+2)):=fun (x0,x1,_)=>.trans (aU (fd:=d96) rfl rfl rfl rfl rfl) (q2 (fun {R} k=>Dv (iS 2000) x0 x1 k) (fun k=>aaK _ (aa6 D) x0 x1 k))
theorem ace:(CA (fH 2000)).holds (A (D+1)):=fun (x0,x1,_)=>.trans (aU (fd:=d99) rfl rfl rfl rfl rfl) (q1 (fun {R} k=>Dx 2000 x0 x1 k) (fun k=>aaN x0 x1 k))
theorem abV:(Jg (iz 2000)).holds (A (D+5)):=fun (x0,_)=>.trans (aU (fd:=d71) rfl rfl rfl rfl rfl) (q12 (fun {R} k=>sH 2000 (df 2000) (dz 2000) (fH 2000) x0 (fun r0 r1=>k (r0,r1))) (fun k=>aaw _ _ _ (acb (D+2)) (acd D) (ace (D+3)) x0 k))
theorem LF:(mV (cd 2000)).holds (A (D+9)):=fun (x0,x1,_)=>.trans (aU (fd:=d40) rfl rfl rfl rfl rfl) (q3 (fun {R} k=>Dg (ey 2000) (iz 2000) (ez 2000) x0 x1 k) (fun k=>aac _ _ _ (Vn D) (abV (D+3)) (Vo (D+7)) x0 x1 k))
theorem abW:(jt (bD 2000)).holds (A (D+1)):=fun (x0,x1,_)=>.trans (aU (fd:=d73) rfl rfl rfl rfl rfl) (Xq (fun {R} k=>sJ x0 x1 k) (fun k=>Ls x0 x1 k))
theorem ab3:(mW (c6 2000)).holds (A (D+1)):=fun (x0,_)=>.trans (aU (fd:=d87) rfl rfl rfl rfl rfl) (q2 (fun {R} k=>sM x0 k) (fun k=>Lv x0 k))
theorem Vl:(gy (aS 2000)).holds (A (D+2)):=fun (x0,x1,x2,x3,_)=>.trans (aU (fd:=d60) rfl rfl rfl rfl rfl) (q2 (fun {R} k=>sz (c6 2000) x0 x1 x2 x3 k) (fun k=>Lr _ (ab3 D) x0 x1 x2 x3 k))
theorem abZ:(oW (eW 2000)).holds (A (D+1)):=fun (x0,x1,_)=>.trans (aU (fd:=d83) rfl rfl rfl rfl rfl) (q2 (fun {R} k=>sL x0 x1 k) (fun k=>Lu x0 x1 k))
theorem Vj:(gx (aV 2000)).holds (A (D+2)):=fun (x0,x1,_)=>.trans (aU (fd:=d54) rfl rfl rfl rfl rfl) (q2 (fun {R} k=>sv (eW 2000) x0 x1 k) (fun k=>Lq _ (abZ D) x0 x1 k))
theorem avz:(kN (cy 2000)).holds (A (D+3)):=fun (x0,x1,_)=>.trans (aU (fd:=d74) rfl rfl rfl rfl rfl) (q14 (fun {R} k=>od 2000 (aV 2000) (aS 2000) (bD 2000) x0 x1 k) (fun k=>Lt _ _ _ (Vj D) (Vl D) (abW (D+1)) x0 x1 k))
theorem auS (D:Nat) (x0:aI) (x1:Int):bE table dK 2000 (D+1) 73 [.at bG x0,.v U2 x1]=(bD 2000 x0 x1).bind fun b=>some [.v ba b]:=by
 have e1:=aU (tb:=table) (pr:=dK) (N:=2000) (D:=D+0) (f:=73) (fd:=d73) (es:=[.at bG x0,.v U2 x1]) rfl rfl rfl rfl rfl
 exact e1.trans (dV (fd:=d73) (B:=av) (aw:=fun b=> [.v ba b]) (dr:=fun es=>((bj (bM ba) cz) es).map fun q=>(q.1)) (by intro b; kernel_rfl) (fun {R} k=>sJ x0 x1 (fun (r0:av)=>k (r0))) (fun k=>Ls x0 x1 k))
theorem Vs (D:Nat):(jt (bD 2000)).holds (bE table dK 2000 (D+1)):=fun a=>auS D a.1 a.2.1
theorem auV (D:Nat) (x0:aQ):bE table dK 2000 (D+1) 87 [.v aC x0]=(c6 2000 x0).bind fun b=>some [.v .bool b]:=by
 have e1:=aU (tb:=table) (pr:=dK) (N:=2000) (D:=D+0) (f:=87) (fd:=d87) (es:=[.v aC x0]) rfl rfl rfl rfl rfl
 exact e1.trans (dV (fd:=d87) (B:=Bool) (aw:=fun b=> [.v .bool b]) (dr:=fun es=>((bj (bM .bool) cz) es).map fun q=>(q.1)) (by intro b; kernel_rfl) (fun {R} k=>sM x0 (fun (r0:Bool)=>k (r0))) (fun k=>Lv x0 k))
theorem acm (D:Nat):(mW (c6 2000)).holds (bE table dK 2000 (D+1)):=fun a=>auV D a.1
theorem auR (D:Nat) (x0:ae) (x1:Int) (x2:av) (x3:av):bE table dK 2000 (D+2) 60 [.v ar x0,.v U2 x1,.v ba x2,.v ba x3]=(aS 2000 x0 x1 x2 x3).bind fun b=>some [.v .bool b]:=by
 have h87:(mW (c6 2000)).holds (bE table dK 2000 (D+1)):=by have:=acm (D+0); rwa [show D+0+1=D+1 by omega] at this
 have e1:=aU (tb:=table) (pr:=dK) (N:=2000) (D:=D+1) (f:=60) (fd:=d60) (es:=[.v ar x0,.v U2 x1,.v ba x2,.v ba x3]) rfl rfl rfl rfl rfl
 exact e1.trans (dV (fd:=d60) (B:=Bool) (aw:=fun b=> [.v .bool b]) (dr:=fun es=>((bj (bM .bool) cz) es).map fun q=>(q.1)) (by intro b; kernel_rfl) (fun {R} k=>sz (c6 2000) x0 x1 x2 x3 (fun (r0:Bool)=>k (r0))) (fun k=>Lr (c6 2000) h87 x0 x1 x2 x3 k))
theorem Vr (D:Nat):(gy (aS 2000)).holds (bE table dK 2000 (D+2)):=fun a=>auR D a.1 a.2.1 a.2.2.1 a.2.2.2.1
theorem auU (D:Nat) (x0:V3) (x1:V3):bE table dK 2000 (D+1) 83 [.v .str x0,.v .str x1]=(eW 2000 x0 x1).bind fun b=>some [.v .bool b]:=by
 have e1:=aU (tb:=table) (pr:=dK) (N:=2000) (D:=D+0) (f:=83) (fd:=d83) (es:=[.v .str x0,.v .str x1]) rfl rfl rfl rfl rfl
 exact e1.trans (dV (fd:=d83) (B:=Bool) (aw:=fun b=> [.v .bool b]) (dr:=fun es=>((bj (bM .bool) cz) es).map fun q=>(q.1)) (by intro b; kernel_rfl) (fun {R} k=>sL x0 x1 (fun (r0:Bool)=>k (r0))) (fun k=>Lu x0 x1 k))
theorem ack (D:Nat):(oW (eW 2000)).holds (bE table dK 2000 (D+1)):=fun a=>auU D a.1 a.2.1
theorem auQ (D:Nat) (x0:V3) (x1:V3):bE table dK 2000 (D+2) 54 [.v .str x0,.v .str x1]=(aV 2000 x0 x1).bind fun b=>some [.v .bool b]:=by
 have h83:(oW (eW 2000)).holds (bE table dK 2000 (D+1)):=by have:=ack (D+0); rwa [show D+0+1=D+1 by omega] at this
 have e1:=aU (tb:=table) (pr:=dK) (N:=2000) (D:=D+1) (f:=54) (fd:=d54) (es:=[.v .str x0,.v .str x1]) rfl rfl rfl rfl rfl
 exact e1.trans (dV (fd:=d54) (B:=Bool) (aw:=fun b=> [.v .bool b]) (dr:=fun es=>((bj (bM .bool) cz) es).map fun q=>(q.1)) (by intro b; kernel_rfl) (fun {R} k=>sv (eW 2000) x0 x1 (fun (r0:Bool)=>k (r0))) (fun k=>Lq (eW 2000) h83 x0 x1 k))
theorem aci (D:Nat):(gx (aV 2000)).holds (bE table dK 2000 (D+2)):=fun a=>auQ D a.1 a.2.1
theorem auT (D:Nat) (x0:aI) (x1:a8):bE table dK 2000 (D+3) 74 [.at bG x0,.v a6 x1]=(cy 2000 x0 x1).bind fun b=>some [.own true 73 a6 .no b]:=by
 have h54:(gx (aV 2000)).holds (bE table dK 2000 (D+2)):=by have:=aci (D+0); rwa [show D+0+2=D+2 by omega] at this
 have h60:(gy (aS 2000)).holds (bE table dK 2000 (D+2)):=by have:=Vr (D+0); rwa [show D+0+2=D+2 by omega] at this
 have h73:(jt (bD 2000)).holds (bE table dK 2000 (D+2)):=by have:=Vs (D+1); rwa [show D+1+1=D+2 by omega] at this
 have e1:=aU (tb:=table) (pr:=dK) (N:=2000) (D:=D+2) (f:=74) (fd:=d74) (es:=[.at bG x0,.v a6 x1]) rfl rfl rfl rfl rfl
 exact e1.trans (dV (fd:=d74) (B:=cj) (aw:=fun b=> [.own true 73 a6 .no b]) (dr:=fun es=>((bj (mX a6) cz) es).map fun q=>(q.1)) (by intro b; kernel_rfl) (fun {R} k=>od 2000 (aV 2000) (aS 2000) (bD 2000) x0 x1 (fun (r0:cj)=>k (r0))) (fun k=>Lt (aV 2000) (aS 2000) (bD 2000) h54 h60 h73 x0 x1 k))
theorem acj (D:Nat):(kN (cy 2000)).holds (bE table dK 2000 (D+3)):=fun a=>auT D a.1 a.2.1
theorem LG (N:Nat):∀ m,(gI (nz 2000 m)).holds (qp m)
 | 0=>fun a=>by kernel_rfl
 | m+1=>fun a=>by
   have h60:(gy (aS 2000)).holds (qp m):=zB (by decide) (Vr 2) m
   have h73:(jt (bD 2000)).holds (qp m):=zB (by decide) (Vs 3) m
   have h74:(kN (cy 2000)).holds (qp m):=zB (by decide) (acj 1) m
   have h41:=LG 2000 m
   have e1:=Xr (n:=41) (fd:=d41) (N:=2000) (base:=bE table dK 2000 4) (m:=m) (es:=[.loc bG (.pair .no (.pair .no (.pair .mp .no))) a.1,.v a6 a.2.1]) rfl rfl rfl
   exact e1.trans (dV (fd:=d41) (B:=aI×Int) (aw:=fun b=> [.loc bG (.pair .no (.pair .no (.pair .mp .no))) b.1,.v U2 b.2]) (dr:=fun es=>((bj (SB bG) (bj (bM U2) cz)) es).map fun q=>(q.1,q.2.1)) (by intro b; kernel_rfl) (fun {R} k=>sh 2000 (nz 2000 m) (aS 2000) (bD 2000) (cy 2000) a.1 a.2.1 (fun (r0:aI) (r1:Int)=>k (r0,r1))) (fun k=>aad (nz 2000 m) (aS 2000) (bD 2000) (cy 2000) h41 h60 h73 h74 a.1 a.2.1 k))
theorem abG:(gI (aY 2000)).holds (A (D+1)):=fun a=>(Am rfl).trans (LG 2000 250 a)
theorem acn (D:Nat):(gI (aY 2000)).holds (bE table dO 2000 (D+1)):=fun a=>(Am rfl).trans (LG 2000 250 a)
theorem auY (D:Nat) (x0:aI) (x1:Int):bE table dO 2000 (D+1) 73 [.at bG x0,.v U2 x1]=(bD 2000 x0 x1).bind fun b=>some [.v ba b]:=by
 have e1:=aU (tb:=table) (pr:=dO) (N:=2000) (D:=D+0) (f:=73) (fd:=d73) (es:=[.at bG x0,.v U2 x1]) rfl rfl rfl rfl rfl
 exact e1.trans (dV (fd:=d73) (B:=av) (aw:=fun b=> [.v ba b]) (dr:=fun es=>((bj (bM ba) cz) es).map fun q=>(q.1)) (by intro b; kernel_rfl) (fun {R} k=>sJ x0 x1 (fun (r0:av)=>k (r0))) (fun k=>Ls x0 x1 k))
theorem acq (D:Nat):(jt (bD 2000)).holds (bE table dO 2000 (D+1)):=fun a=>auY D a.1 a.2.1
theorem au1 (D:Nat) (x0:aQ):bE table dO 2000 (D+1) 87 [.v aC x0]=(c6 2000 x0).bind fun b=>some [.v .bool b]:=by
 have e1:=aU (tb:=table) (pr:=dO) (N:=2000) (D:=D+0) (f:=87) (fd:=d87) (es:=[.v aC x0]) rfl rfl rfl rfl rfl
 exact e1.trans (dV (fd:=d87) (B:=Bool) (aw:=fun b=> [.v .bool b]) (dr:=fun es=>((bj (bM .bool) cz) es).map fun q=>(q.1)) (by intro b; kernel_rfl) (fun {R} k=>sM x0 (fun (r0:Bool)=>k (r0))) (fun k=>Lv x0 k))
theorem acu (D:Nat):(mW (c6 2000)).holds (bE table dO 2000 (D+1)):=fun a=>au1 D a.1
theorem auX (D:Nat) (x0:ae) (x1:Int) (x2:av) (x3:av):bE table dO 2000 (D+2) 60 [.v ar x0,.v U2 x1,.v ba x2,.v ba x3]=(aS 2000 x0 x1 x2 x3).bind fun b=>some [.v .bool b]:=by
 have h87:(mW (c6 2000)).holds (bE table dO 2000 (D+1)):=by have:=acu (D+0); rwa [show D+0+1=D+1 by omega] at this
 have e1:=aU (tb:=table) (pr:=dO) (N:=2000) (D:=D+1) (f:=60) (fd:=d60) (es:=[.v ar x0,.v U2 x1,.v ba x2,.v ba x3]) rfl rfl rfl rfl rfl
 exact e1.trans (dV (fd:=d60) (B:=Bool) (aw:=fun b=> [.v .bool b]) (dr:=fun es=>((bj (bM .bool) cz) es).map fun q=>(q.1)) (by intro b; kernel_rfl) (fun {R} k=>sz (c6 2000) x0 x1 x2 x3 (fun (r0:Bool)=>k (r0))) (fun k=>Lr (c6 2000) h87 x0 x1 x2 x3 k))
theorem acp (D:Nat):(gy (aS 2000)).holds (bE table dO 2000 (D+2)):=fun a=>auX D a.1 a.2.1 a.2.2.1 a.2.2.2.1
theorem au0 (D:Nat) (x0:V3) (x1:V3):bE table dO 2000 (D+1) 83 [.v .str x0,.v .str x1]=(eW 2000 x0 x1).bind fun b=>some [.v .bool b]:=by
 have e1:=aU (tb:=table) (pr:=dO) (N:=2000) (D:=D+0) (f:=83) (fd:=d83) (es:=[.v .str x0,.v .str x1]) rfl rfl rfl rfl rfl
 exact e1.trans (dV (fd:=d83) (B:=Bool) (aw:=fun b=> [.v .bool b]) (dr:=fun es=>((bj (bM .bool) cz) es).map fun q=>(q.1)) (by intro b; kernel_rfl) (fun {R} k=>sL x0 x1 (fun (r0:Bool)=>k (r0))) (fun k=>Lu x0 x1 k))
theorem acs (D:Nat):(oW (eW 2000)).holds (bE table dO 2000 (D+1)):=fun a=>au0 D a.1 a.2.1
theorem auW (D:Nat) (x0:V3) (x1:V3):bE table dO 2000 (D+2) 54 [.v .str x0,.v .str x1]=(aV 2000 x0 x1).bind fun b=>some [.v .bool b]:=by
 have h83:(oW (eW 2000)).holds (bE table dO 2000 (D+1)):=by have:=acs (D+0); rwa [show D+0+1=D+1 by omega] at this
 have e1:=aU (tb:=table) (pr:=dO) (N:=2000) (D:=D+1) (f:=54) (fd:=d54) (es:=[.v .str x0,.v .str x1]) rfl rfl rfl rfl rfl
 exact e1.trans (dV (fd:=d54) (B:=Bool) (aw:=fun b=> [.v .bool b]) (dr:=fun es=>((bj (bM .bool) cz) es).map fun q=>(q.1)) (by intro b; kernel_rfl) (fun {R} k=>sv (eW 2000) x0 x1 (fun (r0:Bool)=>k (r0))) (fun k=>Lq (eW 2000) h83 x0 x1 k))
theorem aco (D:Nat):(gx (aV 2000)).holds (bE table dO 2000 (D+2)):=fun a=>auW D a.1 a.2.1
theorem auZ (D:Nat) (x0:aI) (x1:a8):bE table dO 2000 (D+3) 74 [.at bG x0,.v a6 x1]=(cy 2000 x0 x1).bind fun b=>some [.own true 73 a6 .no b]:=by
 have h54:(gx (aV 2000)).holds (bE table dO 2000 (D+2)):=by have:=aco (D+0); rwa [show D+0+2=D+2 by omega] at this
 have h60:(gy (aS 2000)).holds (bE table dO 2000 (D+2)):=by have:=acp (D+0); rwa [show D+0+2=D+2 by omega] at this
 have h73:(jt (bD 2000)).holds (bE table dO 2000 (D+2)):=by have:=acq (D+1); rwa [show D+1+1=D+2 by omega] at this
 have e1:=aU (tb:=table) (pr:=dO) (N:=2000) (D:=D+2) (f:=74) (fd:=d74) (es:=[.at bG x0,.v a6 x1]) rfl rfl rfl rfl rfl
 exact e1.trans (dV (fd:=d74) (B:=cj) (aw:=fun b=> [.own true 73 a6 .no b]) (dr:=fun es=>((bj (mX a6) cz) es).map fun q=>(q.1)) (by intro b; kernel_rfl) (fun {R} k=>od 2000 (aV 2000) (aS 2000) (bD 2000) x0 x1 (fun (r0:cj)=>k (r0))) (fun k=>Lt (aV 2000) (aS 2000) (bD 2000) h54 h60 h73 x0 x1 k))
theorem acr (D:Nat):(kN (cy 2000)).holds (bE table dO 2000 (D+3)):=fun a=>auZ D a.1 a.2.1
theorem Vt (N:Nat):∀ m,(kL (nA 2000 m)).holds (zA m)
 | 0=>fun a=>by kernel_rfl
 | m+1=>fun a=>by
   have h41:(gI (aY 2000)).holds (zA m):=zB (by decide) (acn 3) m
   have h74:(kN (cy 2000)).holds (zA m):=zB (by decide) (acr 1) m
   have h42:=Vt 2000 m
   have e1:=Xr (n:=42) (fd:=d42) (N:=2000) (base:=bE table dO 2000 4) (m:=m) (es:=[.loc bG (.pair .no (.pair .no (.pair .mp .no))) a.1,.v a6 a.2.1]) rfl rfl rfl
   exact e1.trans (dV (fd:=d42) (B:=aI×V7) (aw:=fun b=> [.loc bG (.pair .no (.pair .no (.pair .mp .no))) b.1,.own true 27 U5 .no b.2]) (dr:=fun es=>((bj (SB bG) (bj (mX U5) cz)) es).map fun q=>(q.1,q.2.1)) (by intro b; kernel_rfl) (fun {R} k=>nc 2000 (aY 2000) (nA 2000 m) (cy 2000) a.1 a.2.1 (fun (r0:aI) (r1:V7)=>k (r0,r1))) (fun k=>aae (aY 2000) (nA 2000 m) (cy 2000) h41 h42 h74 a.1 a.2.1 k))
theorem abH:(kL (bV 2000)).holds (A (D+1)):=fun a=>(Am rfl).trans (Vt 2000 250 a)
theorem LD:(nN (ct 2000)).holds (A (D+1)):=fun (x0,x1,_)=>.trans (aU (fd:=d38) rfl rfl rfl rfl rfl) (q3 (fun {R} k=>se 2000 x0 x1 k) (fun k=>aaa x0 x1 k))
theorem abX:(Jh (gR 2000)).holds (A (D+1)):=fun (x0,_)=>.trans (aU (fd:=d77) rfl rfl rfl rfl rfl) (q2 (fun {R} k=>Dq x0 k) (fun k=>aay x0 k))
theorem Vh:(nO (cx 2000)).holds (A (D+2)):=fun (x0,x1,_)=>.trans (aU (fd:=d46) rfl rfl rfl rfl rfl) (q3 (fun {R} k=>Di (gR 2000) x0 x1 k) (fun k=>aah _ (abX D) x0 x1 k))
theorem abL:(Je (iw 2000)).holds (A (D+3)):=fun (x0,x1,_)=>.trans (aU (fd:=d47) rfl rfl rfl rfl rfl) (q3 (fun {R} k=>ss 2000 (cx 2000) x0 x1 k) (fun k=>aai _ (Vh D) x0 x1 k))
theorem abK:(Jd (iv 2000)).holds (A (D+1)):=fun (x0,_)=>.trans (aU (fd:=d45) rfl rfl rfl rfl rfl) (q3 (fun {R} k=>pH 2000 x0 k) (fun k=>aag x0 k))
theorem abJ:(Jc (gF 2000)).holds (A (D+4)):=fun (x0,x1,x2,_)=>.trans (aU (fd:=d44) rfl rfl rfl rfl rfl) (q3 (fun {R} k=>Dh (ct 2000) (iv 2000) (cx 2000) (iw 2000) x0 x1 x2 k) (fun k=>aaf _ _ _ _ (LD (D+2)) (abK (D+2)) (Vh (D+1)) (abL D) x0 x1 x2 k))
theorem LC:(oV (cK 2000)).holds (A (D+10)):=fun (x0,x1,_)=>.trans (aU (fd:=d16) rfl rfl rfl rfl rfl) (q15 (fun {R} k=>g16 (cd 2000) (aY 2000) (bV 2000) (eQ 2000) (gF 2000) x0 x1 (fun r0 r1=>k (r0,r1))) (fun k=>ZY _ _ _ _ _ (LF D) (abG (D+8)) (abH (D+8)) (abI (D+8)) (abJ (D+5)) x0 x1 k))
theorem Vf:(uM (er 2000)).holds (A (D+11)):=fun (x0,x1,_)=>.trans (aU (fd:=d13) rfl rfl rfl rfl rfl) (q16 (fun {R} k=>g13 (cK 2000) (ct 2000) x0 x1 (fun r0 r1 r2=>k (r0,r1,r2))) (fun k=>ZC _ _ (LC D) (LD (D+9)) x0 x1 k))
theorem Vk:(rk (dI 2000)).holds (A (D+2)):=fun (x0,x1,_)=>.trans (aU (fd:=d57) rfl rfl rfl rfl rfl) (q17 (fun {R} k=>sw 2000 (cH 2000) (eg 2000) x0 x1 (fun r0 r1=>k (r0,r1))) (fun k=>aam _ _ (ab0 D) (ab1 D) x0 x1 k))
theorem abN:(Cv (fE 2000)).holds (A (D+9)):=fun (x0,x1,_)=>.trans (aU (fd:=d55) rfl rfl rfl rfl rfl) (q3 (fun {R} k=>Dk (dI 2000) (ey 2000) x0 x1 k) (fun k=>aal _ _ (Vk (D+6)) (Vn D) x0 x1 k))
theorem abx:(I6 (gQ 2000)).holds (A (D+10)):=fun (x0,x1,_)=>.trans (aU (fd:=d24) rfl rfl rfl rfl rfl) (q18 (fun {R} k=>g24 2000 (fE 2000) x0 x1 (fun r0 r1=>k (r0,r1))) (fun k=>Z2 _ (abN D) x0 x1 k))
theorem abw:(I5 (iW 2000)).holds (A (D+10)):=fun (x0,x1,_)=>.trans (aU (fd:=d20) rfl rfl rfl rfl rfl) (q8 (fun {R} k=>g20 2000 (cd 2000) (aV 2000) x0 x1 (fun r0 r1=>k (r0,r1))) (fun k=>Z1 _ _ (LF D) (Vj (D+7)) x0 x1 k))
theorem Vi:(kM (bC 2000)).holds (A (D+1)):=fun (x0,x1,_)=>.trans (aU (fd:=d53) rfl rfl rfl rfl rfl) (q2 (fun {R} k=>su 2000 x0 x1 k) (fun k=>aak x0 x1 k))
theorem abv:(I4 (iV 2000)).holds (A (D+2)):=fun (x0,x1,_)=>.trans (aU (fd:=d19) rfl rfl rfl rfl rfl) (q2 (fun {R} k=>g19 2000 (bC 2000) x0 x1 k) (fun k=>Z0 _ (Vi D) x0 x1 k))
theorem abk:(IW (gP 2000)).holds (A (D+1)):=fun (x0,x1,_)=>.trans (aU (fd:=d15) rfl rfl rfl rfl rfl) (q2 (fun {R} k=>g15 2000 x0 x1 k) (fun k=>ZP x0 x1 k))
theorem acf {cl:aA} (S:Option (Bool)) (h:cl.run 11 []=S.bind fun b=>some [.v .bool b]):(Ci S).holds cl:=fun _=>h
theorem aaT:(Ci (gp 2000)).holds (A (D+12)):=acf (gp 2000) ((aU (fd:=d11) rfl rfl rfl rfl rfl).trans (q2 (fun {R} k=>g11 (er 2000) (gP 2000) (cK 2000) (iV 2000) (iW 2000) (gQ 2000) (iu 2000) k) (fun k=>Zk _ _ _ _ _ _ _ (Vf D) (abk (D+10)) (LC (D+1)) (abv (D+9)) (abw (D+1)) (abx (D+1)) (abE (D+4)) k)))
theorem abT:(rq (dy 2000)).holds (A (D+1)):=fun (x0,x1,_)=>.trans (aU (fd:=d66) rfl rfl rfl rfl rfl) (q2 (fun {R} k=>pI 2000 x0 x1 k) (fun k=>aas x0 x1 k))
theorem abC:(Ja (iq 2000)).holds (A (D+2)):=fun (x0,_)=>.trans (aU (fd:=d34) rfl rfl rfl rfl rfl) (q2 (fun {R} k=>sd 2000 (dy 2000) x0 k) (fun k=>Z7 _ (abT D) x0 k))
theorem aaZ:(IP (hR 2000)).holds (A (D+3)):=fun (x0,x1,x2,_)=>.trans (aU (fd:=d12) rfl rfl rfl rfl rfl) (q2 (fun {R} k=>g12 (iq 2000) x0 x1 x2 k) (fun k=>Zt _ (abC D) x0 x1 x2 k))
theorem abz:(I7 (ik 2000)).holds (A (D+10)):=fun (x0,x1,x2,_)=>.trans (aU (fd:=d29) rfl rfl rfl rfl rfl) (q8 (fun {R} k=>r9 2000 (ct 2000) (cd 2000) (dI 2000) (aS 2000) x0 x1 x2 (fun r0 r1=>k (r0,r1))) (fun k=>Z4 _ _ _ _ (LD (D+8)) (LF D) (Vk (D+7)) (Vl (D+7)) x0 x1 x2 k))
theorem abD:(Jb (ir 2000)).holds (A (D+5)):=fun (x0,_)=>.trans (aU (fd:=d35) rfl rfl rfl rfl rfl) (q3 (fun {R} k=>Df (dM 2000) x0 k) (fun k=>Z8 _ (Vm D) x0 k))
theorem aaU:(Cj (fw 2000)).holds (A (D+1)):=fun (x0,_)=>.trans (aU (fd:=d110) rfl rfl rfl rfl rfl) (q1 (fun {R} k=>rR 2000 x0 k) (fun k=>Zl x0 k))
theorem abY:(Ji (iX 2000)).holds (A (D+2)):=fun (x0,_)=>.trans (aU (fd:=d78) rfl rfl rfl rfl rfl) (q3 (fun {R} k=>sK 2000 (fw 2000) (bz 2000) x0 k) (fun k=>aaz _ _ (aaU D) (Vd D) x0 k))
theorem abM:(Cu (fD 2000)).holds (A (D+6)):=fun (x0,x1,_)=>.trans (aU (fd:=d48) rfl rfl rfl rfl rfl) (q3 (fun {R} k=>Dj (ir 2000) (iX 2000) x0 x1 k) (fun k=>aaj _ _ (abD D) (abY (D+3)) x0 x1 k))
theorem abQ:(Cx (fG 2000)).holds (A (D+1)):=fun (x0,x1,_)=>.trans (aU (fd:=d61) rfl rfl rfl rfl rfl) (q3 (fun {R} k=>sA 2000 x0 x1 k) (fun k=>aap x0 x1 k))
theorem abO:(Cw (fF 2000)).holds (A (D+1)):=fun (x0,x1,_)=>.trans (aU (fd:=d58) rfl rfl rfl rfl rfl) (q1 (fun {R} k=>sx 2000 x0 x1 k) (fun k=>aan x0 x1 k))
theorem abS:(rp (c5 2000)).holds (A (D+1)):=fun (x0,x1,x2,_)=>.trans (aU (fd:=d63) rfl rfl rfl rfl rfl) (Xq (fun {R} k=>Dn x0 x1 x2 k) (fun k=>aar x0 x1 x2 k))
theorem ab4:(Jk (gq 2000)).holds (A (D+2)):=fun (x0,_)=>.trans (aU (fd:=d88) rfl rfl rfl rfl rfl) (q2 (fun {R} k=>Ds (cB 2000) x0 k) (fun k=>aaC _ (LB D) x0 k))
theorem ab5:(Jl (iA 2000)).holds (A (D+2)):=fun (x0,_)=>.trans (aU (fd:=d89) rfl rfl rfl rfl rfl) (q2 (fun {R} k=>Dt (cB 2000) x0 k) (fun k=>aaD _ (LB D) x0 k))
theorem abR:(rn (dx 2000)).holds (A (D+3)):=fun (x0,x1,x2,x3,_)=>.trans (aU (fd:=d62) rfl rfl rfl rfl rfl) (q2 (fun {R} k=>Dm (gq 2000) (iA 2000) x0 x1 x2 x3 k) (fun k=>aaq _ _ (ab4 D) (ab5 D) x0 x1 x2 x3 k))
theorem abF:(Ct (fp 2000)).holds (A (D+1)):=fun (x0,x1,_)=>.trans (aU (fd:=d39) rfl rfl rfl rfl rfl) (q3 (fun {R} k=>sf 2000 x0 x1 k) (fun k=>aab x0 x1 k))
theorem abA:(I8 (il 2000)).holds (A (D+7)):=fun (x0,x1,x2,_)=>.trans (aU (fd:=d30) rfl rfl rfl rfl rfl) (q8 (fun {R} k=>sa 2000 (fp 2000) (fD 2000) (fF 2000) (fG 2000) (dx 2000) (c5 2000) x0 x1 x2 (fun r0 r1=>k (r0,r1))) (fun k=>Z5 _ _ _ _ _ _ (abF (D+5)) (abM D) (abO (D+5)) (abQ (D+5)) (abR (D+3)) (abS (D+5)) x0 x1 x2 k))
theorem abB:(I9 (im 2000)).holds (A (D+2)):=fun (x0,x1,_)=>.trans (aU (fd:=d31) rfl rfl rfl rfl rfl) (q2 (fun {R} k=>sc 2000 (bC 2000) x0 x1 k) (fun k=>Z6 _ (Vi D) x0 x1 k))
theorem va8 (D:Nat) (x0:ae) (x1:V3) (x2:V0):bE table kV 2000 (D+13) 8 [.v ar x0,.v .str x1,.v U5 x2]=(S8 2000 x0 x1 x2).bind fun b=>some [.v .bool b]:=(aU (fd:=d8) rfl rfl rfl rfl rfl).trans (q2 (fun {R} k=>g8 (gp 2000) (hR 2000) (er 2000) (cK 2000) (ik 2000) (il 2000) (im 2000) x0 x1 x2 k) (fun k=>aaA _ _ _ _ _ _ _ (aaT D) (aaZ (D+9)) (Vf (D+1)) (LC (D+2)) (abz (D+2)) (abA (D+5)) (abB (D+10)) x0 x1 x2 k))
end Go.Fw.L19
