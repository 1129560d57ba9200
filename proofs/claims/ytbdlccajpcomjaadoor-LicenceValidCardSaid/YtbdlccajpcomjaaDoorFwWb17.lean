/- what is known of the library's functions. -/
import Derived.Test.YtbdlccajpcomjaaDoorFwSw
import Derived.Test.YtbdlccajpcomjaaDoorFwIt
import Derived.Test.YtbdlccajpcomjaaDoorFwZb17
import Derived.Test.YtbdlccajpcomjaaDoorFwKb17
import Derived.Test.YtbdlccajpcomjaaDoorFwB6
import Derived.Lib.Strings
import Derived.Lib.Slices
import Derived.Lib.Walk
set_option linter.unusedVariables false
set_option linter.unusedSimpArgs false
open Option renaming bind_eq_some_iff → av
namespace Go.Fw.L19
open Go Go.Fw
open Go.Proofs in
set_option maxHeartbeats 1000000 in
set_option maxRecDepth 100000 in
theorem aBM (s:ByteArray) (c:Int) (w:World):Calls Tryd.prog 78 #[.string s,.int .u8 c] w fun e w'=>e=.returned (.int .i64 (Lib.indexByte s.data.toList c.toNat.toUInt8))∧w'=w:=by
 go_enter Tryd.func78,Tryd.ntmps78
 go_wp2
 rw [run_callFunc_extern Tryd.func88 (by kernel_rfl) (by kernel_rfl) (by kernel_rfl) (e:=Extern.BytealgIndexByte.indexByte) (by kernel_rfl),Lib.run_indexByteString]
 simp only [Result.andThen]
 rw [Oper.upon_value]
 go_wp2
 go_ret
 exact ⟨rfl,rfl⟩
theorem fW {c:a7} {es res:List E} (h0:((some c.eP).bind fun p=>p es)=some res):∃ a,es=c.enc a:=by
 have h:c.eP es=some res:=h0
 unfold a7.eP at h
 obtain ⟨a,ha,_⟩:=av.1 h
 exact ⟨a,c.ok es a ha⟩
open Go.Shelf in
def qN:Ren:=⟨fun x=>match x with | 129=>90 | 166=>30 | 169=>33 | 171=>32 | 240=>51 | 243=>54 | 246=>70 | 276=>69 | 283=>80 | 284=>81 | 285=>82 | 286=>83 | 317=>89 | 318=>91 | 319=>92 | 320=>93 | 337=>96 | 338=>97 | x=>x,fun x=>match x with | 0=>0 | 2=>2 | 3=>3 | 4=>4 | 5=>5 | 9=>9 | 20=>20 | 37=>64 | 46=>108 | 51=>105 | 53=>95 | 70=>63 | 72=>66 | 75=>68 | 80=>71 | 127=>83 | 164=>89 | 171=>94 | 173=>98 | 212=>104 | 213=>106 | 232=>113 | 233=>114 | x=>x,fun x=>match x with | 17=>0 | 18=>2 | 19=>3 | x=>x⟩
open Go.Proofs Go.Shelf in
set_option maxRecDepth 100000 in
theorem au7:Lays.n166 Tryd.prog qN:=by constructor<;>first | kernel_rfl | exact fun w=>by kernel_rfl | decide
open Go.Proofs Go.Shelf in
set_option maxRecDepth 100000 in
theorem au8:Lays.n169 Tryd.prog qN:=by constructor<;>first | kernel_rfl | exact fun w=>by kernel_rfl | decide
open Go.Proofs Go.Shelf in
set_option maxRecDepth 100000 in
theorem au6:LaysM.n171 Tryd.prog qN:=by constructor<;>first | kernel_rfl | exact fun w=>by kernel_rfl | decide | (constructor<;>first | kernel_rfl | exact fun w=>by kernel_rfl | decide)
open Go.Proofs Go.Shelf in
set_option maxRecDepth 100000 in
theorem agD:Builder.Extra Tryd.prog qN:=by constructor<;>first | kernel_rfl | exact fun w=>by kernel_rfl | decide | (constructor<;>first | kernel_rfl | exact fun w=>by kernel_rfl | decide)
theorem vj {tb : gp} (ht : ∀ w, tb.ok w → Go.Lib.TabIs Go.Proofs.Tryd.prog w "internal/strconv.uint64pow10" .u64 Go.Lib.pow10Tab) : Good Go.Proofs.Tryd.prog tb (.of fun f es => (oz f).bind fun p => p es) := by
 refine ⟨?_,?_,?_,?_,?_⟩
 ·intro f es res h w G vals htw hA
  simp only [aH.of,oz] at h
  split at h
  ·have h:(fU (a6 0)).eP es=some res:=h
   unfold a7.eP at h
   obtain ⟨a,ha,h⟩:=av.1 h
   obtain ⟨b,hb,h⟩:=av.1 h
   have:=(fU (a6 0)).ok es a ha
   subst this
   exact absurd hA ahX
  ·have h:(jd (cb 0)).eP es=some res:=h
   unfold a7.eP at h
   obtain ⟨a,ha,h⟩:=av.1 h
   obtain ⟨b,hb,h⟩:=av.1 h
   have:=(jd (cb 0)).ok es a ha
   subst this
   cases hb; cases h
   exact aom (ρ:=qN) au6 ⟨_,Go.Proofs.Tryd.func32,by kernel_rfl,by kernel_rfl⟩ a.1 w G vals (ht w htw) hA
  ·have h:(j9 (eg 0)).eP es=some res:=h
   unfold a7.eP at h
   obtain ⟨a,ha,h⟩:=av.1 h
   obtain ⟨b,hb,h⟩:=av.1 h
   have:=(j9 (eg 0)).ok es a ha
   subst this
   exact absurd hA ahX
  ·have h:(lN (eD 0)).eP es=some res:=h
   unfold a7.eP at h
   obtain ⟨a,ha,h⟩:=av.1 h
   obtain ⟨b,hb,h⟩:=av.1 h
   have:=(lN (eD 0)).ok es a ha
   subst this
   have hb2:(if a.1.length≤3518437208883 then some a.1 else none)=some b:=hb
   split at hb2
   ·rename_i hl
    cases hb2; cases h
    exact adI (P:=Go.Proofs.Tryd.prog) (f:=35) (e:=51) (T:=(.pair (.int .i64) (.pair (.int .i64) (.pair (.sl .str) .unit)))) (lim:=3518437208883) (by decide+kernel) (by kernel_rfl) (fun xs=>by kernel_rfl) a.1 hl w G vals hA
   ·simp at hb2
  ·have h:(je (cj 0)).eP es=some res:=h
   unfold a7.eP at h
   obtain ⟨a,ha,h⟩:=av.1 h
   obtain ⟨b,hb,h⟩:=av.1 h
   have:=(je (cj 0)).ok es a ha
   subst this
   have hb2:(if a.1.length≤8796093022208 then some a.1 else none)=some b:=hb
   split at hb2
   ·rename_i hl
    cases hb2; cases h
    exact adI (P:=Go.Proofs.Tryd.prog) (f:=36) (e:=9) (T:=.str) (lim:=8796093022208) (by decide+kernel) (by kernel_rfl) (fun xs=>by kernel_rfl) a.1 hl w G vals hA
   ·simp at hb2
  ·have h:(lP (eM 0)).eP es=some res:=h
   unfold a7.eP at h
   obtain ⟨a,ha,h⟩:=av.1 h
   obtain ⟨b,hb,h⟩:=av.1 h
   have:=(lP (eM 0)).ok es a ha
   subst this
   cases hb; cases h
   exact aoh aBM ⟨_,Go.Proofs.Tryd.func78,by kernel_rfl,by kernel_rfl⟩ a.1 a.2.1 w G vals hA
  ·simp at h
 ·intro f e T xs res h hs
  simp only [aH.of,oz] at h
  split at h
  ·obtain ⟨_,hu⟩:=fW (c:=fU (a6 0)) h; cases hu
  ·obtain ⟨_,hu⟩:=fW (c:=jd (cb 0)) h; cases hu
  ·obtain ⟨_,hu⟩:=fW (c:=j9 (eg 0)) h; cases hu
  ·obtain ⟨_,hu⟩:=fW (c:=lN (eD 0)) h; cases hu
  ·obtain ⟨_,hu⟩:=fW (c:=je (cj 0)) h; cases hu
  ·obtain ⟨_,hu⟩:=fW (c:=lP (eM 0)) h; cases hu
  ·simp at h
 ·intro f T o x es res h
  simp only [aH.of,oz] at h
  split at h
  ·obtain ⟨_,hu⟩:=fW (c:=fU (a6 0)) h; cases hu
  ·obtain ⟨_,hu⟩:=fW (c:=jd (cb 0)) h; cases hu
  ·obtain ⟨_,hu⟩:=fW (c:=j9 (eg 0)) h; cases hu
  ·obtain ⟨_,hu⟩:=fW (c:=lN (eD 0)) h; cases hu
  ·obtain ⟨_,hu⟩:=fW (c:=je (cj 0)) h; cases hu
  ·obtain ⟨_,hu⟩:=fW (c:=lP (eM 0)) h; cases hu
  ·simp at h
 ·intro f t e s x res h
  simp only [aH.of,oz] at h
  split at h
  ·have h:(fU (a6 0)).eP [.cn,.sb t e s,.v .str x]=some res:=h
   unfold a7.eP at h
   obtain ⟨a,ha,h⟩:=av.1 h
   have hu:=(fU (a6 0)).ok _ a ha
   obtain ⟨b,hb,h⟩:=av.1 h
   have hb2:(if a.1.length+a.2.1.length≤140737488355328 then some (a.1++a.2.1) else none)=some b:=hb
   split at hb2
   ·rename_i hl
    cases hb2; cases h; cases hu
    exact ⟨rfl,hl,⟨_,Go.Proofs.Tryd.func30,by kernel_rfl,by kernel_rfl⟩,fun w B v ob h1 h2=>aAS (ρ:=qN) au7 agD a.1 a.2.1 hl w B v ob h1 h2⟩
   ·simp at hb2
  ·obtain ⟨_,hu⟩:=fW (c:=jd (cb 0)) h; cases hu
  ·obtain ⟨_,hu⟩:=fW (c:=j9 (eg 0)) h; cases hu
  ·obtain ⟨_,hu⟩:=fW (c:=lN (eD 0)) h; cases hu
  ·obtain ⟨_,hu⟩:=fW (c:=je (cj 0)) h; cases hu
  ·obtain ⟨_,hu⟩:=fW (c:=lP (eM 0)) h; cases hu
  ·simp at h
 ·intro f t e s res h
  simp only [aH.of,oz] at h
  split at h
  ·obtain ⟨_,hu⟩:=fW (c:=fU (a6 0)) h; cases hu
  ·obtain ⟨_,hu⟩:=fW (c:=jd (cb 0)) h; cases hu
  ·have h:(j9 (eg 0)).eP [.cn,.sb t e s]=some res:=h
   unfold a7.eP at h
   obtain ⟨a,ha,h⟩:=av.1 h
   have hu:=(j9 (eg 0)).ok _ a ha
   obtain ⟨b,hb,h⟩:=av.1 h
   have hb2:(if a.1=[] then none else some a.1)=some b:=hb
   split at hb2
   ·simp at hb2
   ·rename_i hl
    cases hb2; cases h; cases hu
    exact ⟨rfl,⟨_,Go.Proofs.Tryd.func33,by kernel_rfl,by kernel_rfl⟩,fun w B v ob h1 h2=>aAR (ρ:=qN) au8 agD a.1 hl w B v ob h1 h2⟩
  ·obtain ⟨_,hu⟩:=fW (c:=lN (eD 0)) h; cases hu
  ·obtain ⟨_,hu⟩:=fW (c:=je (cj 0)) h; cases hu
  ·obtain ⟨_,hu⟩:=fW (c:=lP (eM 0)) h; cases hu
  ·simp at h
theorem CX {tb : gp} (ht : ∀ w, tb.ok w → Go.Lib.TabIs Go.Proofs.Tryd.prog w "internal/strconv.uint64pow10" .u64 Go.Lib.pow10Tab) (m : Nat) : Good Go.Proofs.Tryd.prog tb (R8 m) := R9 (Dr 30000 (fun f fd _ h => ahR f fd h) (vj ht) _) axi m
theorem ayn {tb : gp} (ht : ∀ w, tb.ok w → Go.Lib.TabIs Go.Proofs.Tryd.prog w "internal/strconv.uint64pow10" .u64 Go.Lib.pow10Tab) : Good Go.Proofs.Tryd.prog tb (.of fun f es => (nk f).bind fun p => p es) := by
 refine ⟨fun f es res h w G vals htw hA=>?_,fun f e T xs res h hs=>?_,fun f T o x es res h=>?_,fun f t e s x res h=>?_,fun f t e s res h=>?_⟩
 ·simp only [aH.of,nk] at h
  split at h
  ·exact (CX ht 250).call 37 es res h w G vals htw hA
  ·exact (vj ht).call f es res h w G vals htw hA
 ·simp only [aH.of,nk] at h
  split at h
  ·exact (CX ht 250).wr 37 e T xs res h hs
  ·exact (vj ht).wr f e T xs res h hs
 ·simp only [aH.of,nk] at h
  split at h
  ·exact (CX ht 250).lend 37 T o x es res h
  ·exact (vj ht).lend f T o x es res h
 ·simp only [aH.of,nk] at h
  split at h
  ·exact (CX ht 250).hQ 37 t e s x res h
  ·exact (vj ht).hQ f t e s x res h
 ·simp only [aH.of,nk] at h
  split at h
  ·exact (CX ht 250).lX 37 t e s res h
  ·exact (vj ht).lX f t e s res h
end Go.Fw.L19
