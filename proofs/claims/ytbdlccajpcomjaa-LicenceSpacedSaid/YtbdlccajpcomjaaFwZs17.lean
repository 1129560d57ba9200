/- Printed by an own program for this claim: the machine's code of functions, or their typed forms with their equations; no conditions. -/
import Derived.Test.YtbdlccajpcomjaaFwMs17
import Derived.Test.YtbdlccajpcomjaaFwB6
import Derived.Test.YtbdlccajpcomjaaFwXs17
set_option linter.unusedVariables false
set_option linter.unusedSimpArgs false
namespace Go.Fw.L19
open Go Go.Fw
set_option maxRecDepth 100000
theorem q0 {cl:Cal} {N:Nat} {fd:FD} {env:Env} (g:{R:Type}→(Int→Option R)→Option R) (hg:∀ {R:Type} (k:List E→Option R),exec cl N fd.body env (fun e env=>(retK fd e env).bind k)=g (fun b=>k [.v U2 b])):exec cl N fd.body env (retK fd)=(g some).bind fun b=>some [.v U2 b]:=fn_of (dr:=fun es=>((decC (decV U2) dec0) es).map fun q=>(q.1)) (by intro b; kernel_rfl) g hg
theorem q1 {cl:Cal} {N:Nat} {fd:FD} {env:Env} (g:{R:Type}→(Bool→Option R)→Option R) (hg:∀ {R:Type} (k:List E→Option R),exec cl N fd.body env (fun e env=>(retK fd e env).bind k)=g (fun b=>k [.v .bool b])):exec cl N fd.body env (retK fd)=(g some).bind fun b=>some [.v .bool b]:=fn_of (dr:=fun es=>((decC (decV .bool) dec0) es).map fun q=>(q.1)) (by intro b; kernel_rfl) g hg
theorem q2 {cl:Cal} {N:Nat} {fd:FD} {env:Env} (g:{R:Type}→(V1→Option R)→Option R) (hg:∀ {R:Type} (k:List E→Option R),exec cl N fd.body env (fun e env=>(retK fd e env).bind k)=g (fun b=>k [.v .str b])):exec cl N fd.body env (retK fd)=(g some).bind fun b=>some [.v .str b]:=fn_of (dr:=fun es=>((decC (decV .str) dec0) es).map fun q=>(q.1)) (by intro b; kernel_rfl) g hg
theorem q3 {cl:Cal} {N:Nat} {fd:FD} {env:Env} (g:{R:Type}→(V1×Int→Option R)→Option R) (hg:∀ {R:Type} (k:List E→Option R),exec cl N fd.body env (fun e env=>(retK fd e env).bind k)=g (fun b=>k [.v .str b.1,.v U2 b.2])):exec cl N fd.body env (retK fd)=(g some).bind fun b=>some [.v .str b.1,.v U2 b.2]:=fn_of (dr:=fun es=>((decC (decV .str) (decC (decV U2) dec0)) es).map fun q=>(q.1,q.2.1)) (by intro b; kernel_rfl) g hg
theorem q4 {cl:Cal} {N:Nat} {fd:FD} {env:Env} (g:{R:Type}→(V14×Int×Int→Option R)→Option R) (hg:∀ {R:Type} (k:List E→Option R),exec cl N fd.body env (fun e env=>(retK fd e env).bind k)=g (fun b=>k [.v U12 b.1,.v U2 b.2.1,.v U2 b.2.2])):exec cl N fd.body env (retK fd)=(g some).bind fun b=>some [.v U12 b.1,.v U2 b.2.1,.v U2 b.2.2]:=fn_of (dr:=fun es=>((decC (decV U12) (decC (decV U2) (decC (decV U2) dec0))) es).map fun q=>(q.1,q.2.1,q.2.2.1)) (by intro b; kernel_rfl) g hg
theorem q5 {cl:Cal} {N:Nat} {fd:FD} {env:Env} (g:{R:Type}→(V16×Int×Int→Option R)→Option R) (hg:∀ {R:Type} (k:List E→Option R),exec cl N fd.body env (fun e env=>(retK fd e env).bind k)=g (fun b=>k [.own true 36 U12 .no b.1,.v U2 b.2.1,.v U2 b.2.2])):exec cl N fd.body env (retK fd)=(g some).bind fun b=>some [.own true 36 U12 .no b.1,.v U2 b.2.1,.v U2 b.2.2]:=fn_of (dr:=fun es=>((decC (decO U12) (decC (decV U2) (decC (decV U2) dec0))) es).map fun q=>(q.1,q.2.1,q.2.2.1)) (by intro b; kernel_rfl) g hg
theorem q6 {cl:Cal} {N:Nat} {fd:FD} {env:Env} (g:{R:Type}→(Int×Bool→Option R)→Option R) (hg:∀ {R:Type} (k:List E→Option R),exec cl N fd.body env (fun e env=>(retK fd e env).bind k)=g (fun b=>k [.v U2 b.1,.v .bool b.2])):exec cl N fd.body env (retK fd)=(g some).bind fun b=>some [.v U2 b.1,.v .bool b.2]:=fn_of (dr:=fun es=>((decC (decV U2) (decC (decV .bool) dec0)) es).map fun q=>(q.1,q.2.1)) (by intro b; kernel_rfl) g hg
theorem q7 {cl:Cal} {N:Nat} {fd:FD} {env:Env} (g:{R:Type}→(V21×V1→Option R)→Option R) (hg:∀ {R:Type} (k:List E→Option R),exec cl N fd.body env (fun e env=>(retK fd e env).bind k)=g (fun b=>k [.loc U18 .no b.1,.v .str b.2])):exec cl N fd.body env (retK fd)=(g some).bind fun b=>some [.loc U18 .no b.1,.v .str b.2]:=fn_of (dr:=fun es=>((decC (decX U18) (decC (decV .str) dec0)) es).map fun q=>(q.1,q.2.1)) (by intro b; kernel_rfl) g hg
theorem q8 {cl:Cal} {N:Nat} {fd:FD} {env:Env} (g:{R:Type}→(V21×V15×V1→Option R)→Option R) (hg:∀ {R:Type} (k:List E→Option R),exec cl N fd.body env (fun e env=>(retK fd e env).bind k)=g (fun b=>k [.loc U18 .no b.1,.v U13 b.2.1,.v .str b.2.2])):exec cl N fd.body env (retK fd)=(g some).bind fun b=>some [.loc U18 .no b.1,.v U13 b.2.1,.v .str b.2.2]:=fn_of (dr:=fun es=>((decC (decX U18) (decC (decV U13) (decC (decV .str) dec0))) es).map fun q=>(q.1,q.2.1,q.2.2.1)) (by intro b; kernel_rfl) g hg
theorem q9 {cl:Cal} {N:Nat} {fd:FD} {env:Env} (g:{R:Type}→(V6→Option R)→Option R) (hg:∀ {R:Type} (k:List E→Option R),exec cl N fd.body env (fun e env=>(retK fd e env).bind k)=g (fun b=>k [.own true 9 .str .no b])):exec cl N fd.body env (retK fd)=(g some).bind fun b=>some [.own true 9 .str .no b]:=fn_of (dr:=fun es=>((decC (decO .str) dec0) es).map fun q=>(q.1)) (by intro b; kernel_rfl) g hg
theorem q10 {cl:Cal} {N:Nat} {fd:FD} {env:Env} (g:{R:Type}→(V22×Int×Int→Option R)→Option R) (hg:∀ {R:Type} (k:List E→Option R),exec cl N fd.body env (fun e env=>(retK fd e env).bind k)=g (fun b=>k [.v U17 b.1,.v U2 b.2.1,.v U2 b.2.2])):exec cl N fd.body env (retK fd)=(g some).bind fun b=>some [.v U17 b.1,.v U2 b.2.1,.v U2 b.2.2]:=fn_of (dr:=fun es=>((decC (decV U17) (decC (decV U2) (decC (decV U2) dec0))) es).map fun q=>(q.1,q.2.1,q.2.2.1)) (by intro b; kernel_rfl) g hg
variable (D:Nat)
theorem ho47:(ctr47 (S47 30000)).holds (A (D+1)):=prim_holds rfl (by intro a; kernel_rfl)
theorem ho48:(ctr48 (S48 30000)).holds (A (D+1)):=prim_holds rfl (by intro a; kernel_rfl)
theorem ho86:(ctr86 (S86 30000)).holds (A (D+1)):=prim_holds rfl (by intro a; kernel_rfl)
theorem ho7:(ctr7 (S7 30000)).holds (A (D+12)):=fun a=>fd7 D
theorem ho26:(ctr26 (S26 30000)).holds (A (D+1)):=fun (x0,x1,_)=>.trans (acall_succ (fd:=d26) rfl rfl rfl rfl rfl) (q0 (fun {R} k=>g26 30000 x0 x1 k) (fun k=>gen26 x0 x1 k))
theorem ho8:(ctr8 (S8 30000)).holds (A (D+2)):=fun (x0,_)=>.trans (acall_succ (fd:=d8) rfl rfl rfl rfl rfl) (q1 (fun {R} k=>g8 30000 (S26 30000) x0 k) (fun k=>gen8 _ (ho26 D) x0 k))
theorem ho72:(ctr72 (S72 30000)).holds (A (D+1)):=fun (x0,_)=>.trans (acall_succ (fd:=d72) rfl rfl rfl rfl rfl) (q1 (fun {R} k=>g72 x0 k) (fun k=>gen72 x0 k))
theorem ho73:(ctr73 (S73 30000)).holds (A (D+1)):=fun (x0,_)=>.trans (acall_succ (fd:=d73) rfl rfl rfl rfl rfl) (q1 (fun {R} k=>g73 x0 k) (fun k=>gen73 x0 k))
theorem ho54:(ctr54 (S54 30000)).holds (A (D+2)):=fun (x0,_)=>.trans (acall_succ (fd:=d54) rfl rfl rfl rfl rfl) (q0 (fun {R} k=>g54 30000 (S72 30000) (S73 30000) x0 k) (fun k=>gen54 _ _ (ho72 D) (ho73 D) x0 k))
theorem ho27:(ctr27 (S27 30000)).holds (A (D+3)):=fun (x0,_)=>.trans (acall_succ (fd:=d27) rfl rfl rfl rfl rfl) (q1 (fun {R} k=>g27 (S54 30000) x0 k) (fun k=>gen27 _ (ho54 D) x0 k))
theorem ho49:(ctr49 (S49 30000)).holds (A (D+1)):=fun (x0,_)=>.trans (acall_succ (fd:=d49) rfl rfl rfl rfl rfl) (q2 (fun {R} k=>g49 30000 x0 k) (fun k=>gen49 x0 k))
theorem ho74:(ctr74 (S74 30000)).holds (A (D+1)):=fun (x0,_)=>.trans (acall_succ (fd:=d74) rfl rfl rfl rfl rfl) (q1 (fun {R} k=>g74 30000 x0 k) (fun k=>gen74 x0 k))
theorem ho55:(ctr55 (S55 30000)).holds (A (D+2)):=fun (x0,_)=>.trans (acall_succ (fd:=d55) rfl rfl rfl rfl rfl) (q0 (fun {R} k=>g55 30000 (S49 30000) (S74 30000) x0 k) (fun k=>gen55 _ _ (ho49 D) (ho74 D) x0 k))
theorem ho50:(ctr50 (S50 30000)).holds (A (D+1)):=fun (x0,x1,_)=>.trans (acall_succ (fd:=d50) rfl rfl rfl rfl rfl) (q1 (fun {R} k=>g50 30000 x0 x1 k) (fun k=>gen50 x0 x1 k))
theorem ho28:(ctr28 (S28 30000)).holds (A (D+3)):=fun (x0,_)=>.trans (acall_succ (fd:=d28) rfl rfl rfl rfl rfl) (q0 (fun {R} k=>g28 30000 (S50 30000) (S55 30000) x0 k) (fun k=>gen28 _ _ (ho50 (D+1)) (ho55 D) x0 k))
theorem ho9:(ctr9 (S9 30000)).holds (A (D+4)):=fun (x0,_)=>.trans (acall_succ (fd:=d9) rfl rfl rfl rfl rfl) (q0 (fun {R} k=>g9 30000 (S27 30000) (S28 30000) x0 k) (fun k=>gen9 _ _ (ho27 D) (ho28 D) x0 k))
theorem ho29:(ctr29 (S29 30000)).holds (A (D+1)):=fun (x0,_)=>.trans (acall_succ (fd:=d29) rfl rfl rfl rfl rfl) (q2 (fun {R} k=>g29 x0 k) (fun k=>gen29 x0 k))
theorem hr30 (N:Nat):∀ m,(ctr30 (R30 30000 m)).holds (rc30 m)
 | 0=>fun a=>by kernel_rfl
 | m+1=>fun a=>by
   have h30:=hr30 30000 m
   have e1:=recC_s (n:=30) (fd:=d30) (N:=30000) (base:=acall table prims0 30000 1) (m:=m) (es:=[.v U2 a.1]) rfl rfl rfl
   exact e1.trans (fn_of (fd:=d30) (B:=V1) (ent:=fun b=> [.v .str b]) (dr:=fun es=>((decC (decV .str) dec0) es).map fun q=>(q.1)) (by intro b; kernel_rfl) (fun {R} k=>g30 (R30 30000 m) a.1 (fun (r0:V1)=>k (r0))) (fun k=>gen30 (R30 30000 m) h30 a.1 k))
theorem ho30:(ctr30 (S30 30000)).holds (A (D+1)):=fun a=>(acall_prim rfl).trans (hr30 30000 250 a)
theorem ho10:(ctr10 (S10 30000)).holds (A (D+5)):=fun (x0,_)=>.trans (acall_succ (fd:=d10) rfl rfl rfl rfl rfl) (q3 (fun {R} k=>g10 30000 (S9 30000) (S29 30000) (S30 30000) x0 (fun r0 r1=>k (r0,r1))) (fun k=>gen10 _ _ _ (ho9 D) (ho29 (D+3)) (ho30 (D+3)) x0 k))
theorem ho31:(ctr31 (S31 30000)).holds (A (D+1)):=fun (x0,_)=>.trans (acall_succ (fd:=d31) rfl rfl rfl rfl rfl) (q0 (fun {R} k=>g31 30000 x0 k) (fun k=>gen31 x0 k))
theorem ho32:(ctr32 (S32 30000)).holds (A (D+1)):=fun (x0,_)=>.trans (acall_succ (fd:=d32) rfl rfl rfl rfl rfl) (q0 (fun {R} k=>g32 30000 x0 k) (fun k=>gen32 x0 k))
theorem ho56:(ctr56 (S56 30000)).holds (A (D+2)):=fun (x0,_)=>.trans (acall_succ (fd:=d56) rfl rfl rfl rfl rfl) (q0 (fun {R} k=>g56 30000 (S73 30000) x0 k) (fun k=>gen56 _ (ho73 D) x0 k))
theorem ho75:(ctr75 (S75 30000)).holds (A (D+1)):=fun (x0,_)=>.trans (acall_succ (fd:=d75) rfl rfl rfl rfl rfl) (q1 (fun {R} k=>g75 x0 k) (fun k=>gen75 x0 k))
theorem ho57:(ctr57 (S57 30000)).holds (A (D+2)):=fun (x0,_)=>.trans (acall_succ (fd:=d57) rfl rfl rfl rfl rfl) (q4 (fun {R} k=>g57 30000 (S75 30000) x0 (fun r0 r1 r2=>k (r0,r1,r2))) (fun k=>gen57 _ (ho75 D) x0 k))
theorem ho58:(ctr58 (S58 30000)).holds (A (D+1)):=fun (x0,_)=>.trans (acall_succ (fd:=d58) rfl rfl rfl rfl rfl) (q1 (fun {R} k=>g58 30000 x0 k) (fun k=>gen58 x0 k))
theorem ho33:(ctr33 (S33 30000)).holds (A (D+3)):=fun (x0,_)=>.trans (acall_succ (fd:=d33) rfl rfl rfl rfl rfl) (q4 (fun {R} k=>g33 (S54 30000) (S56 30000) (S57 30000) (S58 30000) x0 (fun r0 r1 r2=>k (r0,r1,r2))) (fun k=>gen33 _ _ _ _ (ho54 D) (ho56 D) (ho57 D) (ho58 (D+1)) x0 k))
theorem ho11:(ctr11 (S11 30000)).holds (A (D+4)):=fun (x0,_)=>.trans (acall_succ (fd:=d11) rfl rfl rfl rfl rfl) (q5 (fun {R} k=>g11 30000 (S31 30000) (S32 30000) (S33 30000) x0 (fun r0 r1 r2=>k (r0,r1,r2))) (fun k=>gen11 _ _ _ (ho31 (D+2)) (ho32 (D+2)) (ho33 D) x0 k))
theorem ho59:(ctr59 (S59 30000)).holds (A (D+3)):=fun (x0,_)=>.trans (acall_succ (fd:=d59) rfl rfl rfl rfl rfl) (q6 (fun {R} k=>g59 30000 (S56 30000) x0 (fun r0 r1=>k (r0,r1))) (fun k=>gen59 _ (ho56 D) x0 k))
theorem ho60:(ctr60 (S60 30000)).holds (A (D+2)):=fun (x0,_)=>.trans (acall_succ (fd:=d60) rfl rfl rfl rfl rfl) (q3 (fun {R} k=>g60 30000 (S75 30000) x0 (fun r0 r1=>k (r0,r1))) (fun k=>gen60 _ (ho75 D) x0 k))
theorem ho34:(ctr34 (S34 30000)).holds (A (D+4)):=fun (x0,_)=>.trans (acall_succ (fd:=d34) rfl rfl rfl rfl rfl) (q1 (fun {R} k=>g34 (S27 30000) (S58 30000) (S59 30000) (S60 30000) x0 k) (fun k=>gen34 _ _ _ _ (ho27 D) (ho58 (D+2)) (ho59 D) (ho60 (D+1)) x0 k))
theorem ho12:(ctr12 (S12 30000)).holds (A (D+5)):=fun (x0,_)=>.trans (acall_succ (fd:=d12) rfl rfl rfl rfl rfl) (q3 (fun {R} k=>g12 30000 (S34 30000) x0 (fun r0 r1=>k (r0,r1))) (fun k=>gen12 _ (ho34 D) x0 k))
theorem ho76:(ctr76 (S76 30000)).holds (A (D+1)):=fun (x0,_)=>.trans (acall_succ (fd:=d76) rfl rfl rfl rfl rfl) (q1 (fun {R} k=>g76 x0 k) (fun k=>gen76 x0 k))
theorem ho77:(ctr77 (S77 30000)).holds (A (D+1)):=fun (x0,_)=>.trans (acall_succ (fd:=d77) rfl rfl rfl rfl rfl) (q1 (fun {R} k=>g77 x0 k) (fun k=>gen77 x0 k))
theorem ho65:(ctr65 (S65 30000)).holds (A (D+2)):=fun (x0,_)=>.trans (acall_succ (fd:=d65) rfl rfl rfl rfl rfl) (q0 (fun {R} k=>g65 30000 (S76 30000) (S77 30000) x0 k) (fun k=>gen65 _ _ (ho76 D) (ho77 D) x0 k))
theorem ho78:(ctr78 (S78 30000)).holds (A (D+2)):=fun (x0,_)=>.trans (acall_succ (fd:=d78) rfl rfl rfl rfl rfl) (q0 (fun {R} k=>g78 30000 (S77 30000) x0 k) (fun k=>gen78 _ (ho77 D) x0 k))
theorem ho62:(ctr62 (S62 30000)).holds (A (D+3)):=fun (x0,_)=>.trans (acall_succ (fd:=d62) rfl rfl rfl rfl rfl) (q6 (fun {R} k=>g62 30000 (S78 30000) x0 (fun r0 r1=>k (r0,r1))) (fun k=>gen62 _ (ho78 D) x0 k))
theorem ho85:(ctr85 (S85 30000)).holds (A (D+1)):=fun (x0,_)=>.trans (acall_succ (fd:=d85) rfl rfl rfl rfl rfl) (q1 (fun {R} k=>g85 x0 k) (fun k=>gen85 x0 k))
theorem ho79:(ctr79 (S79 30000)).holds (A (D+2)):=fun (x0,_)=>.trans (acall_succ (fd:=d79) rfl rfl rfl rfl rfl) (q3 (fun {R} k=>g79 30000 (S85 30000) x0 (fun r0 r1=>k (r0,r1))) (fun k=>gen79 _ (ho85 D) x0 k))
theorem ho80:(ctr80 (S80 30000)).holds (A (D+2)):=fun (x0,x1,_)=>.trans (acall_succ (fd:=d80) rfl rfl rfl rfl rfl) (q0 (fun {R} k=>g80 (S86 30000) x0 x1 k) (fun k=>gen80 _ (ho86 D) x0 x1 k))
theorem ho61:(ctr61 (S61 30000)).holds (A (D+4)):=fun (x0,_)=>.trans (acall_succ (fd:=d61) rfl rfl rfl rfl rfl) (q4 (fun {R} k=>g61 (S62 30000) (S65 30000) (S76 30000) (S77 30000) (S78 30000) (S79 30000) (S80 30000) x0 (fun r0 r1 r2=>k (r0,r1,r2))) (fun k=>gen61 _ _ _ _ _ _ _ (ho62 D) (ho65 (D+1)) (ho76 (D+2)) (ho77 (D+2)) (ho78 (D+1)) (ho79 (D+1)) (ho80 (D+1)) x0 k))
theorem ho35:(ctr35 (S35 30000)).holds (A (D+5)):=fun (x0,_)=>.trans (acall_succ (fd:=d35) rfl rfl rfl rfl rfl) (q5 (fun {R} k=>g35 30000 (S61 30000) x0 (fun r0 r1 r2=>k (r0,r1,r2))) (fun k=>gen35 _ (ho61 D) x0 k))
theorem ho37:(ctr37 (S37 30000)).holds (A (D+1)):=fun (x0,x1,x2,_)=>.trans (acall_succ (fd:=d37) rfl rfl rfl rfl rfl) (q1 (fun {R} k=>g37 x0 x1 x2 k) (fun k=>gen37 x0 x1 x2 k))
theorem ho36:(ctr36 (S36 30000)).holds (A (D+2)):=fun (x0,x1,x2,_)=>.trans (acall_succ (fd:=d36) rfl rfl rfl rfl rfl) (q7 (fun {R} k=>g36 (S37 30000) x0 x1 x2 (fun r0 r1=>k (r0,r1))) (fun k=>gen36 _ (ho37 D) x0 x1 x2 k))
theorem ho38:(ctr38 (S38 30000)).holds (A (D+1)):=fun (x0,_)=>.trans (acall_succ (fd:=d38) rfl rfl rfl rfl rfl) (q0 (fun {R} k=>g38 x0 k) (fun k=>gen38 x0 k))
theorem ho63:(ctr63 (S63 30000)).holds (A (D+3)):=fun (x0,_)=>.trans (acall_succ (fd:=d63) rfl rfl rfl rfl rfl) (q7 (fun {R} k=>g63 (S36 30000) x0 (fun r0 r1=>k (r0,r1))) (fun k=>gen63 _ (ho36 D) x0 k))
theorem ho39:(ctr39 (S39 30000)).holds (A (D+4)):=fun (x0,_)=>.trans (acall_succ (fd:=d39) rfl rfl rfl rfl rfl) (q8 (fun {R} k=>g39 30000 (S36 30000) (S37 30000) (S62 30000) (S63 30000) x0 (fun r0 r1 r2=>k (r0,r1,r2))) (fun k=>gen39 _ _ _ _ (ho36 (D+1)) (ho37 (D+2)) (ho62 D) (ho63 D) x0 k))
theorem ho82:(ctr82 (S82 30000)).holds (A (D+1)):=fun _=>.trans (acall_succ (fd:=d82) rfl rfl rfl rfl rfl) (q9 (fun {R} k=>g82 (fun r0=>k (r0))) (fun k=>gen82 k))
theorem ho81:(ctr81 (S81 30000)).holds (A (D+1)):=fun (x0,x1,_)=>.trans (acall_succ (fd:=d81) rfl rfl rfl rfl rfl) (q2 (fun {R} k=>g81 x0 x1 k) (fun k=>gen81 x0 x1 k))
theorem ho64:(ctr64 (S64 30000)).holds (A (D+2)):=fun (x0,_)=>.trans (acall_succ (fd:=d64) rfl rfl rfl rfl rfl) (q2 (fun {R} k=>g64 (S81 30000) (S82 30000) x0 k) (fun k=>gen64 _ _ (ho81 D) (ho82 D) x0 k))
theorem ho40:(ctr40 (S40 30000)).holds (A (D+3)):=fun (x0,_)=>.trans (acall_succ (fd:=d40) rfl rfl rfl rfl rfl) (q0 (fun {R} k=>g40 30000 (S64 30000) x0 k) (fun k=>gen40 _ (ho64 D) x0 k))
theorem ho42:(ctr42 (S42 30000)).holds (A (D+3)):=fun (x0,_)=>.trans (acall_succ (fd:=d42) rfl rfl rfl rfl rfl) (q1 (fun {R} k=>g42 (S65 30000) x0 k) (fun k=>gen42 _ (ho65 D) x0 k))
theorem ho89:(ctr89 (S89 30000)).holds (A (D+3)):=fun (x0,_)=>.trans (acall_succ (fd:=d89) rfl rfl rfl rfl rfl) (q1 (fun {R} k=>g89 (S80 30000) x0 k) (fun k=>gen89 _ (ho80 D) x0 k))
theorem ho88:(ctr88 (S88 30000)).holds (A (D+4)):=fun (x0,_)=>.trans (acall_succ (fd:=d88) rfl rfl rfl rfl rfl) (q1 (fun {R} k=>g88 (S89 30000) x0 k) (fun k=>gen88 _ (ho89 D) x0 k))
theorem ho92:(ctr92 (S92 30000)).holds (A (D+1)):=fun (x0,x1,_)=>.trans (acall_succ (fd:=d92) rfl rfl rfl rfl rfl) (q0 (fun {R} k=>g92 30000 x0 x1 k) (fun k=>gen92 x0 x1 k))
theorem ho87:(ctr87 (S87 30000)).holds (A (D+2)):=fun (x0,x1,_)=>.trans (acall_succ (fd:=d87) rfl rfl rfl rfl rfl) (q1 (fun {R} k=>g87 (S92 30000) x0 x1 k) (fun k=>gen87 _ (ho92 D) x0 x1 k))
theorem ho90:(ctr90 (S90 30000)).holds (A (D+1)):=fun (x0,x1,_)=>.trans (acall_succ (fd:=d90) rfl rfl rfl rfl rfl) (q2 (fun {R} k=>g90 30000 x0 x1 k) (fun k=>gen90 x0 x1 k))
theorem ho83:(ctr83 (S83 30000)).holds (A (D+5)):=fun (x0,_)=>.trans (acall_succ (fd:=d83) rfl rfl rfl rfl rfl) (q3 (fun {R} k=>g83 30000 (S87 30000) (S88 30000) (S90 30000) x0 (fun r0 r1=>k (r0,r1))) (fun k=>gen83 _ _ _ (ho87 (D+2)) (ho88 D) (ho90 (D+3)) x0 k))
theorem ho44:(ctr44 (S44 30000)).holds (A (D+1)):=fun (x0,_)=>.trans (acall_succ (fd:=d44) rfl rfl rfl rfl rfl) (q2 (fun {R} k=>g44 30000 x0 k) (fun k=>gen44 x0 k))
theorem ho66:(ctr66 (S66 30000)).holds (A (D+6)):=fun (x0,_)=>.trans (acall_succ (fd:=d66) rfl rfl rfl rfl rfl) (q0 (fun {R} k=>g66 (S44 30000) (S83 30000) x0 k) (fun k=>gen66 _ _ (ho44 (D+4)) (ho83 D) x0 k))
theorem ho84:(ctr84 (S84 30000)).holds (A (D+1)):=fun (x0,x1,_)=>.trans (acall_succ (fd:=d84) rfl rfl rfl rfl rfl) (q0 (fun {R} k=>g84 30000 x0 x1 k) (fun k=>gen84 x0 x1 k))
theorem ho67:(ctr67 (S67 30000)).holds (A (D+2)):=fun (x0,x1,_)=>.trans (acall_succ (fd:=d67) rfl rfl rfl rfl rfl) (q1 (fun {R} k=>g67 (S84 30000) x0 x1 k) (fun k=>gen67 _ (ho84 D) x0 x1 k))
theorem ho43:(ctr43 (S43 30000)).holds (A (D+7)):=fun (x0,_)=>.trans (acall_succ (fd:=d43) rfl rfl rfl rfl rfl) (q0 (fun {R} k=>g43 30000 (S66 30000) (S67 30000) x0 k) (fun k=>gen43 _ _ (ho66 D) (ho67 (D+4)) x0 k))
theorem ho16:(ctr16 (S16 30000)).holds (A (D+8)):=fun (x0,_)=>.trans (acall_succ (fd:=d16) rfl rfl rfl rfl rfl) (q0 (fun {R} k=>g16 30000 (S42 30000) (S43 30000) x0 k) (fun k=>gen16 _ _ (ho42 (D+4)) (ho43 D) x0 k))
theorem ho13:(ctr13 (S13 30000)).holds (A (D+9)):=fun (x0,_)=>.trans (acall_succ (fd:=d13) rfl rfl rfl rfl rfl) (q10 (fun {R} k=>g13 30000 (S16 30000) (S35 30000) (S36 30000) (S37 30000) (S38 30000) (S39 30000) (S40 30000) x0 (fun r0 r1 r2=>k (r0,r1,r2))) (fun k=>gen13 _ _ _ _ _ _ _ (ho16 D) (ho35 (D+3)) (ho36 (D+6)) (ho37 (D+7)) (ho38 (D+7)) (ho39 (D+4)) (ho40 (D+5)) x0 k))
theorem ho41:(ctr41 (S41 30000)).holds (A (D+1)):=fun (x0,x1,_)=>.trans (acall_succ (fd:=d41) rfl rfl rfl rfl rfl) (q1 (fun {R} k=>g41 30000 x0 x1 k) (fun k=>gen41 x0 x1 k))
theorem ho14:(ctr14 (S14 30000)).holds (A (D+2)):=fun (x0,x1,_)=>.trans (acall_succ (fd:=d14) rfl rfl rfl rfl rfl) (q1 (fun {R} k=>g14 30000 (S41 30000) x0 x1 k) (fun k=>gen14 _ (ho41 D) x0 x1 k))
theorem ho3:(ctr3 (S3 30000)).holds (A (D+13)):=fun (x0,x1,_)=>.trans (acall_succ (fd:=d3) rfl rfl rfl rfl rfl) (q1 (fun {R} k=>g3 30000 (S7 30000) (S8 30000) (S9 30000) (S10 30000) (S11 30000) (S12 30000) (S13 30000) (S14 30000) x0 x1 k) (fun k=>gen3 _ _ _ _ _ _ _ _ (ho7 D) (ho8 (D+10)) (ho9 (D+8)) (ho10 (D+7)) (ho11 (D+8)) (ho12 (D+7)) (ho13 (D+3)) (ho14 (D+10)) x0 x1 k))
theorem va3 (D:Nat) (x0:V22) (x1:V0):acall table prims 30000 (D+13) 3 [.v U17 x0,.v U3 x1]=(S3 30000 x0 x1).bind fun b=>some [.v .bool b]:=ho3 D (x0,x1,())
end Go.Fw.L19
