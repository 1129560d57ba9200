/- Own work. -/
import Derived.Test.YtbdlccajpcomjaaFwMo17
import Derived.Test.YtbdlccajpcomjaaFwB6
import Derived.Test.YtbdlccajpcomjaaFwXo17
set_option linter.unusedVariables false
set_option linter.unusedSimpArgs false
namespace Go.Fw.L19
open Go Go.Fw
set_option maxRecDepth 100000
theorem q0 {cl:Cal} {N:Nat} {fd:FD} {env:Env} (g:{R:Type}→(Int→Option R)→Option R) (hg:∀ {R:Type} (k:List E→Option R),exec cl N fd.body env (fun e env=>(retK fd e env).bind k)=g (fun b=>k [.v U2 b])):exec cl N fd.body env (retK fd)=(g some).bind fun b=>some [.v U2 b]:=fn_of (dr:=fun es=>((decC (decV U2) dec0) es).map fun q=>(q.1)) (by intro b; kernel_rfl) g hg
theorem q1 {cl:Cal} {N:Nat} {fd:FD} {env:Env} (g:{R:Type}→(Bool→Option R)→Option R) (hg:∀ {R:Type} (k:List E→Option R),exec cl N fd.body env (fun e env=>(retK fd e env).bind k)=g (fun b=>k [.v .bool b])):exec cl N fd.body env (retK fd)=(g some).bind fun b=>some [.v .bool b]:=fn_of (dr:=fun es=>((decC (decV .bool) dec0) es).map fun q=>(q.1)) (by intro b; kernel_rfl) g hg
theorem q2 {cl:Cal} {N:Nat} {fd:FD} {env:Env} (g:{R:Type}→(V15→Option R)→Option R) (hg:∀ {R:Type} (k:List E→Option R),exec cl N fd.body env (fun e env=>(retK fd e env).bind k)=g (fun b=>k [.v U18 b])):exec cl N fd.body env (retK fd)=(g some).bind fun b=>some [.v U18 b]:=fn_of (dr:=fun es=>((decC (decV U18) dec0) es).map fun q=>(q.1)) (by intro b; kernel_rfl) g hg
theorem q3 {cl:Cal} {N:Nat} {fd:FD} {env:Env} (g:{R:Type}→(V11→Option R)→Option R) (hg:∀ {R:Type} (k:List E→Option R),exec cl N fd.body env (fun e env=>(retK fd e env).bind k)=g (fun b=>k [.own true 57 U13 .no b])):exec cl N fd.body env (retK fd)=(g some).bind fun b=>some [.own true 57 U13 .no b]:=fn_of (dr:=fun es=>((decC (decO U13) dec0) es).map fun q=>(q.1)) (by intro b; kernel_rfl) g hg
theorem q4 {cl:Cal} {N:Nat} {fd:FD} {env:Env} (g:{R:Type}→(V1→Option R)→Option R) (hg:∀ {R:Type} (k:List E→Option R),exec cl N fd.body env (fun e env=>(retK fd e env).bind k)=g (fun b=>k [.v .str b])):exec cl N fd.body env (retK fd)=(g some).bind fun b=>some [.v .str b]:=fn_of (dr:=fun es=>((decC (decV .str) dec0) es).map fun q=>(q.1)) (by intro b; kernel_rfl) g hg
theorem q5 {cl:Cal} {N:Nat} {fd:FD} {env:Env} (g:{R:Type}→(Int×Bool→Option R)→Option R) (hg:∀ {R:Type} (k:List E→Option R),exec cl N fd.body env (fun e env=>(retK fd e env).bind k)=g (fun b=>k [.v U2 b.1,.v .bool b.2])):exec cl N fd.body env (retK fd)=(g some).bind fun b=>some [.v U2 b.1,.v .bool b.2]:=fn_of (dr:=fun es=>((decC (decV U2) (decC (decV .bool) dec0)) es).map fun q=>(q.1,q.2.1)) (by intro b; kernel_rfl) g hg
theorem q6 {cl:Cal} {N:Nat} {fd:FD} {env:Env} (g:{R:Type}→(V1×Int→Option R)→Option R) (hg:∀ {R:Type} (k:List E→Option R),exec cl N fd.body env (fun e env=>(retK fd e env).bind k)=g (fun b=>k [.v .str b.1,.v U2 b.2])):exec cl N fd.body env (retK fd)=(g some).bind fun b=>some [.v .str b.1,.v U2 b.2]:=fn_of (dr:=fun es=>((decC (decV .str) (decC (decV U2) dec0)) es).map fun q=>(q.1,q.2.1)) (by intro b; kernel_rfl) g hg
variable (D:Nat)
theorem ho47:(ctr47 (S47 2000)).holds (A (D+1)):=prim_holds rfl (by intro a; kernel_rfl)
theorem ho48:(ctr48 (S48 2000)).holds (A (D+1)):=prim_holds rfl (by intro a; kernel_rfl)
theorem ho51:(ctr51 (S51 2000)).holds (A (D+1)):=prim_holds rfl (by intro a; kernel_rfl)
theorem ho86:(ctr86 (S86 2000)).holds (A (D+1)):=prim_holds rfl (by intro a; kernel_rfl)
theorem ho7:(ctr7 (S7 2000)).holds (A (D+12)):=fun a=>fd7 D
theorem ho26:(ctr26 (S26 2000)).holds (A (D+1)):=fun (x0,x1,_)=>.trans (acall_succ (fd:=d26) rfl rfl rfl rfl rfl) (q0 (fun {R} k=>g26 2000 x0 x1 k) (fun k=>gen26 x0 x1 k))
theorem ho8:(ctr8 (S8 2000)).holds (A (D+2)):=fun (x0,_)=>.trans (acall_succ (fd:=d8) rfl rfl rfl rfl rfl) (q1 (fun {R} k=>g8 2000 (S26 2000) x0 k) (fun k=>gen8 _ (ho26 D) x0 k))
theorem ho19:(ctr19 (S19 2000)).holds (A (D+2)):=fun (x0,_)=>.trans (acall_succ (fd:=d19) rfl rfl rfl rfl rfl) (q2 (fun {R} k=>g19 2000 (S47 2000) (S48 2000) x0 k) (fun k=>gen19 _ _ (ho47 D) (ho48 D) x0 k))
theorem ho46:(ctr46 (S46 2000)).holds (A (D+2)):=fun (x0,_)=>.trans (acall_succ (fd:=d46) rfl rfl rfl rfl rfl) (q3 (fun {R} k=>g46 2000 (S48 2000) x0 k) (fun k=>gen46 _ (ho48 D) x0 k))
theorem ho52:(ctr52 (S52 2000)).holds (A (D+1)):=fun (x0,x1,_)=>.trans (acall_succ (fd:=d52) rfl rfl rfl rfl rfl) (q1 (fun {R} k=>g52 x0 x1 k) (fun k=>gen52 x0 x1 k))
theorem ho22:(ctr22 (S22 2000)).holds (A (D+3)):=fun (x0,x1,_)=>.trans (acall_succ (fd:=d22) rfl rfl rfl rfl rfl) (q2 (fun {R} k=>g22 (S46 2000) (S51 2000) (S52 2000) x0 x1 k) (fun k=>gen22 _ _ _ (ho46 D) (ho51 (D+1)) (ho52 (D+1)) x0 x1 k))
theorem ho23:(ctr23 (S23 2000)).holds (A (D+1)):=fun (x0,x1,_)=>.trans (acall_succ (fd:=d23) rfl rfl rfl rfl rfl) (q2 (fun {R} k=>g23 2000 x0 x1 k) (fun k=>gen23 x0 x1 k))
theorem ho41:(ctr41 (S41 2000)).holds (A (D+1)):=fun (x0,x1,_)=>.trans (acall_succ (fd:=d41) rfl rfl rfl rfl rfl) (q1 (fun {R} k=>g41 2000 x0 x1 k) (fun k=>gen41 x0 x1 k))
theorem ho14:(ctr14 (S14 2000)).holds (A (D+2)):=fun (x0,x1,_)=>.trans (acall_succ (fd:=d14) rfl rfl rfl rfl rfl) (q1 (fun {R} k=>g14 2000 (S41 2000) x0 x1 k) (fun k=>gen14 _ (ho41 D) x0 x1 k))
theorem ho44:(ctr44 (S44 2000)).holds (A (D+1)):=fun (x0,_)=>.trans (acall_succ (fd:=d44) rfl rfl rfl rfl rfl) (q4 (fun {R} k=>g44 2000 x0 k) (fun k=>gen44 x0 k))
theorem ho84:(ctr84 (S84 2000)).holds (A (D+1)):=fun (x0,x1,_)=>.trans (acall_succ (fd:=d84) rfl rfl rfl rfl rfl) (q0 (fun {R} k=>g84 2000 x0 x1 k) (fun k=>gen84 x0 x1 k))
theorem ho67:(ctr67 (S67 2000)).holds (A (D+2)):=fun (x0,x1,_)=>.trans (acall_succ (fd:=d67) rfl rfl rfl rfl rfl) (q1 (fun {R} k=>g67 (S84 2000) x0 x1 k) (fun k=>gen67 _ (ho84 D) x0 x1 k))
theorem ho45:(ctr45 (S45 2000)).holds (A (D+3)):=fun (x0,x1,_)=>.trans (acall_succ (fd:=d45) rfl rfl rfl rfl rfl) (q1 (fun {R} k=>g45 (S67 2000) x0 x1 k) (fun k=>gen45 _ (ho67 D) x0 x1 k))
theorem ho17:(ctr17 (S17 2000)).holds (A (D+4)):=fun (x0,x1,x2,_)=>.trans (acall_succ (fd:=d17) rfl rfl rfl rfl rfl) (q5 (fun {R} k=>g17 2000 (S44 2000) (S45 2000) x0 x1 x2 (fun r0 r1=>k (r0,r1))) (fun k=>gen17 _ _ (ho44 (D+2)) (ho45 D) x0 x1 x2 k))
theorem ho49:(ctr49 (S49 2000)).holds (A (D+1)):=fun (x0,_)=>.trans (acall_succ (fd:=d49) rfl rfl rfl rfl rfl) (q4 (fun {R} k=>g49 2000 x0 k) (fun k=>gen49 x0 k))
theorem ho50:(ctr50 (S50 2000)).holds (A (D+1)):=fun (x0,x1,_)=>.trans (acall_succ (fd:=d50) rfl rfl rfl rfl rfl) (q1 (fun {R} k=>g50 2000 x0 x1 k) (fun k=>gen50 x0 x1 k))
theorem ho21:(ctr21 (S21 2000)).holds (A (D+2)):=fun (x0,x1,x2,_)=>.trans (acall_succ (fd:=d21) rfl rfl rfl rfl rfl) (q5 (fun {R} k=>g21 2000 (S49 2000) (S50 2000) x0 x1 x2 (fun r0 r1=>k (r0,r1))) (fun k=>gen21 _ _ (ho49 D) (ho50 D) x0 x1 x2 k))
theorem ho6:(ctr6 (S6 2000)).holds (A (D+13)):=fun (x0,x1,x2,_)=>.trans (acall_succ (fd:=d6) rfl rfl rfl rfl rfl) (q1 (fun {R} k=>g6 2000 (S7 2000) (S8 2000) (S14 2000) (S17 2000) (S19 2000) (S21 2000) (S22 2000) (S23 2000) x0 x1 x2 k) (fun k=>gen6 _ _ _ _ _ _ _ _ (ho7 D) (ho8 (D+10)) (ho14 (D+10)) (ho17 (D+8)) (ho19 (D+10)) (ho21 (D+10)) (ho22 (D+9)) (ho23 (D+11)) x0 x1 x2 k))
theorem va6 (D:Nat) (x0:V15) (x1:Int) (x2:V1):acall table prims 2000 (D+13) 6 [.v U18 x0,.v U2 x1,.v .str x2]=(S6 2000 x0 x1 x2).bind fun b=>some [.v .bool b]:=ho6 D (x0,x1,x2,())
theorem ho72:(ctr72 (S72 2000)).holds (A (D+1)):=fun (x0,_)=>.trans (acall_succ (fd:=d72) rfl rfl rfl rfl rfl) (q1 (fun {R} k=>g72 x0 k) (fun k=>gen72 x0 k))
theorem ho73:(ctr73 (S73 2000)).holds (A (D+1)):=fun (x0,_)=>.trans (acall_succ (fd:=d73) rfl rfl rfl rfl rfl) (q1 (fun {R} k=>g73 x0 k) (fun k=>gen73 x0 k))
theorem ho54:(ctr54 (S54 2000)).holds (A (D+2)):=fun (x0,_)=>.trans (acall_succ (fd:=d54) rfl rfl rfl rfl rfl) (q0 (fun {R} k=>g54 2000 (S72 2000) (S73 2000) x0 k) (fun k=>gen54 _ _ (ho72 D) (ho73 D) x0 k))
theorem ho27:(ctr27 (S27 2000)).holds (A (D+3)):=fun (x0,_)=>.trans (acall_succ (fd:=d27) rfl rfl rfl rfl rfl) (q1 (fun {R} k=>g27 (S54 2000) x0 k) (fun k=>gen27 _ (ho54 D) x0 k))
theorem ho74:(ctr74 (S74 2000)).holds (A (D+1)):=fun (x0,_)=>.trans (acall_succ (fd:=d74) rfl rfl rfl rfl rfl) (q1 (fun {R} k=>g74 2000 x0 k) (fun k=>gen74 x0 k))
theorem ho55:(ctr55 (S55 2000)).holds (A (D+2)):=fun (x0,_)=>.trans (acall_succ (fd:=d55) rfl rfl rfl rfl rfl) (q0 (fun {R} k=>g55 2000 (S49 2000) (S74 2000) x0 k) (fun k=>gen55 _ _ (ho49 D) (ho74 D) x0 k))
theorem ho28:(ctr28 (S28 2000)).holds (A (D+3)):=fun (x0,_)=>.trans (acall_succ (fd:=d28) rfl rfl rfl rfl rfl) (q0 (fun {R} k=>g28 2000 (S50 2000) (S55 2000) x0 k) (fun k=>gen28 _ _ (ho50 (D+1)) (ho55 D) x0 k))
theorem ho9:(ctr9 (S9 2000)).holds (A (D+4)):=fun (x0,_)=>.trans (acall_succ (fd:=d9) rfl rfl rfl rfl rfl) (q0 (fun {R} k=>g9 2000 (S27 2000) (S28 2000) x0 k) (fun k=>gen9 _ _ (ho27 D) (ho28 D) x0 k))
theorem ho76:(ctr76 (S76 2000)).holds (A (D+1)):=fun (x0,_)=>.trans (acall_succ (fd:=d76) rfl rfl rfl rfl rfl) (q1 (fun {R} k=>g76 x0 k) (fun k=>gen76 x0 k))
theorem ho77:(ctr77 (S77 2000)).holds (A (D+1)):=fun (x0,_)=>.trans (acall_succ (fd:=d77) rfl rfl rfl rfl rfl) (q1 (fun {R} k=>g77 x0 k) (fun k=>gen77 x0 k))
theorem ho65:(ctr65 (S65 2000)).holds (A (D+2)):=fun (x0,_)=>.trans (acall_succ (fd:=d65) rfl rfl rfl rfl rfl) (q0 (fun {R} k=>g65 2000 (S76 2000) (S77 2000) x0 k) (fun k=>gen65 _ _ (ho76 D) (ho77 D) x0 k))
theorem ho42:(ctr42 (S42 2000)).holds (A (D+3)):=fun (x0,_)=>.trans (acall_succ (fd:=d42) rfl rfl rfl rfl rfl) (q1 (fun {R} k=>g42 (S65 2000) x0 k) (fun k=>gen42 _ (ho65 D) x0 k))
theorem ho80:(ctr80 (S80 2000)).holds (A (D+2)):=fun (x0,x1,_)=>.trans (acall_succ (fd:=d80) rfl rfl rfl rfl rfl) (q0 (fun {R} k=>g80 (S86 2000) x0 x1 k) (fun k=>gen80 _ (ho86 D) x0 x1 k))
theorem ho89:(ctr89 (S89 2000)).holds (A (D+3)):=fun (x0,_)=>.trans (acall_succ (fd:=d89) rfl rfl rfl rfl rfl) (q1 (fun {R} k=>g89 (S80 2000) x0 k) (fun k=>gen89 _ (ho80 D) x0 k))
theorem ho88:(ctr88 (S88 2000)).holds (A (D+4)):=fun (x0,_)=>.trans (acall_succ (fd:=d88) rfl rfl rfl rfl rfl) (q1 (fun {R} k=>g88 (S89 2000) x0 k) (fun k=>gen88 _ (ho89 D) x0 k))
theorem ho92:(ctr92 (S92 2000)).holds (A (D+1)):=fun (x0,x1,_)=>.trans (acall_succ (fd:=d92) rfl rfl rfl rfl rfl) (q0 (fun {R} k=>g92 2000 x0 x1 k) (fun k=>gen92 x0 x1 k))
theorem ho87:(ctr87 (S87 2000)).holds (A (D+2)):=fun (x0,x1,_)=>.trans (acall_succ (fd:=d87) rfl rfl rfl rfl rfl) (q1 (fun {R} k=>g87 (S92 2000) x0 x1 k) (fun k=>gen87 _ (ho92 D) x0 x1 k))
theorem ho90:(ctr90 (S90 2000)).holds (A (D+1)):=fun (x0,x1,_)=>.trans (acall_succ (fd:=d90) rfl rfl rfl rfl rfl) (q4 (fun {R} k=>g90 2000 x0 x1 k) (fun k=>gen90 x0 x1 k))
theorem ho83:(ctr83 (S83 2000)).holds (A (D+5)):=fun (x0,_)=>.trans (acall_succ (fd:=d83) rfl rfl rfl rfl rfl) (q6 (fun {R} k=>g83 2000 (S87 2000) (S88 2000) (S90 2000) x0 (fun r0 r1=>k (r0,r1))) (fun k=>gen83 _ _ _ (ho87 (D+2)) (ho88 D) (ho90 (D+3)) x0 k))
theorem ho66:(ctr66 (S66 2000)).holds (A (D+6)):=fun (x0,_)=>.trans (acall_succ (fd:=d66) rfl rfl rfl rfl rfl) (q0 (fun {R} k=>g66 (S44 2000) (S83 2000) x0 k) (fun k=>gen66 _ _ (ho44 (D+4)) (ho83 D) x0 k))
theorem ho43:(ctr43 (S43 2000)).holds (A (D+7)):=fun (x0,_)=>.trans (acall_succ (fd:=d43) rfl rfl rfl rfl rfl) (q0 (fun {R} k=>g43 2000 (S66 2000) (S67 2000) x0 k) (fun k=>gen43 _ _ (ho66 D) (ho67 (D+4)) x0 k))
theorem ho16:(ctr16 (S16 2000)).holds (A (D+8)):=fun (x0,_)=>.trans (acall_succ (fd:=d16) rfl rfl rfl rfl rfl) (q0 (fun {R} k=>g16 2000 (S42 2000) (S43 2000) x0 k) (fun k=>gen16 _ _ (ho42 (D+4)) (ho43 D) x0 k))
end Go.Fw.L19
