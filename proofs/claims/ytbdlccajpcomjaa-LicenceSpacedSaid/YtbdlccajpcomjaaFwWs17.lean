/- what is known of the library's functions. -/
import Derived.Test.YtbdlccajpcomjaaFwZs17
import Derived.Test.YtbdlccajpcomjaaFwKs17
import Derived.Test.YtbdlccajpcomjaaFwB6
import Derived.Lib.Strings
import Derived.Lib.Slices
import Derived.Lib.Walk
set_option linter.unusedVariables false
set_option linter.unusedSimpArgs false
namespace Go.Fw.L19
open Go Go.Fw
open Go.Proofs in
set_option maxHeartbeats 1000000 in
set_option maxRecDepth 100000 in
theorem stringslite_IndexByte (s:ByteArray) (c:Int) (w:World):Calls Try.prog 86 #[.string s,.int .u8 c] w fun e w'=>e=.returned (.int .i64 (Lib.indexByte s.data.toList c.toNat.toUInt8))∧w'=w:=by
 go_enter Try.func86,Try.ntmps86
 go_wp2
 rw [run_callFunc_extern Try.func91 (by kernel_rfl) (by kernel_rfl) (by kernel_rfl) (e:=Extern.BytealgIndexByte.indexByte) (by kernel_rfl),Lib.run_indexByteString]
 simp only [Result.andThen]
 rw [Oper.upon_value]
 go_wp2
 go_ret
 exact ⟨rfl,rfl⟩
theorem prims0_good:Good Go.Proofs.Try.prog (.of fun f es=>(prims0 f).bind fun p=>p es):=by
 refine ⟨?_,?_,?_⟩
 ·intro f es res h w G vals hA
  simp only [Cal.of,prims0] at h
  split at h
  ·have h:(ctr47 (S47 0)).prim es=some res:=h
   unfold Ctr.prim at h
   obtain ⟨a,ha,h⟩:=Option.bind_eq_some_iff.1 h
   obtain ⟨b,hb,h⟩:=Option.bind_eq_some_iff.1 h
   have:=(ctr47 (S47 0)).ok es a ha
   subst this
   have hb2:(if a.1.length≤3518437208883 then some a.1 else none)=some b:=hb
   split at hb2
   ·rename_i hl
    cases hb2; cases h
    exact clone_good (P:=Go.Proofs.Try.prog) (f:=47) (e:=57) (T:=(.pair (.int .i64) (.pair (.int .i64) (.pair (.sl .str) .unit)))) (lim:=3518437208883) (by decide+kernel) (by kernel_rfl) (fun xs=>by kernel_rfl) a.1 hl w G vals hA
   ·simp at hb2
  ·have h:(ctr48 (S48 0)).prim es=some res:=h
   unfold Ctr.prim at h
   obtain ⟨a,ha,h⟩:=Option.bind_eq_some_iff.1 h
   obtain ⟨b,hb,h⟩:=Option.bind_eq_some_iff.1 h
   have:=(ctr48 (S48 0)).ok es a ha
   subst this
   have hb2:(if a.1.length≤8796093022208 then some a.1 else none)=some b:=hb
   split at hb2
   ·rename_i hl
    cases hb2; cases h
    exact clone_good (P:=Go.Proofs.Try.prog) (f:=48) (e:=9) (T:=.str) (lim:=8796093022208) (by decide+kernel) (by kernel_rfl) (fun xs=>by kernel_rfl) a.1 hl w G vals hA
   ·simp at hb2
  ·have h:(ctr86 (S86 0)).prim es=some res:=h
   unfold Ctr.prim at h
   obtain ⟨a,ha,h⟩:=Option.bind_eq_some_iff.1 h
   obtain ⟨b,hb,h⟩:=Option.bind_eq_some_iff.1 h
   have:=(ctr86 (S86 0)).ok es a ha
   subst this
   cases hb; cases h
   exact idx_good stringslite_IndexByte ⟨_,Go.Proofs.Try.func86,by kernel_rfl,by kernel_rfl⟩ a.1 a.2.1 w G vals hA
  ·simp at h
 ·intro f e T xs res h hs
  simp only [Cal.of,prims0] at h
  split at h
  ·have h:(ctr47 (S47 0)).prim [.und,.own true e T .no xs]=some res:=h
   unfold Ctr.prim at h
   obtain ⟨a,ha,h⟩:=Option.bind_eq_some_iff.1 h
   have hu:=(ctr47 (S47 0)).ok _ a ha
   cases hu
  ·have h:(ctr48 (S48 0)).prim [.und,.own true e T .no xs]=some res:=h
   unfold Ctr.prim at h
   obtain ⟨a,ha,h⟩:=Option.bind_eq_some_iff.1 h
   have hu:=(ctr48 (S48 0)).ok _ a ha
   cases hu
  ·have h:(ctr86 (S86 0)).prim [.und,.own true e T .no xs]=some res:=h
   unfold Ctr.prim at h
   obtain ⟨a,ha,h⟩:=Option.bind_eq_some_iff.1 h
   have hu:=(ctr86 (S86 0)).ok _ a ha
   cases hu
  ·simp at h
 ·intro f T o x es res h
  simp only [Cal.of,prims0] at h
  split at h
  ·have h:(ctr47 (S47 0)).prim (.loc T o x::es)=some res:=h
   unfold Ctr.prim at h
   obtain ⟨a,ha,h⟩:=Option.bind_eq_some_iff.1 h
   have hu:=(ctr47 (S47 0)).ok _ a ha
   cases hu
  ·have h:(ctr48 (S48 0)).prim (.loc T o x::es)=some res:=h
   unfold Ctr.prim at h
   obtain ⟨a,ha,h⟩:=Option.bind_eq_some_iff.1 h
   have hu:=(ctr48 (S48 0)).ok _ a ha
   cases hu
  ·have h:(ctr86 (S86 0)).prim (.loc T o x::es)=some res:=h
   unfold Ctr.prim at h
   obtain ⟨a,ha,h⟩:=Option.bind_eq_some_iff.1 h
   have hu:=(ctr86 (S86 0)).ok _ a ha
   cases hu
  ·simp at h
theorem rc30_good (m:Nat):Good Go.Proofs.Try.prog (rc30 m):=recC_good (acall_good 30000 (fun f fd _ h=>tab_ok f fd h) prims0_good _) ok30 m
theorem prims_good:Good Go.Proofs.Try.prog (.of fun f es=>(prims f).bind fun p=>p es):=by
 refine ⟨fun f es res h w G vals hA=>?_,fun f e T xs res h hs=>?_,fun f T o x es res h=>?_⟩
 ·simp only [Cal.of,prims] at h
  split at h
  ·exact (rc30_good 250).call 30 es res h w G vals hA
  ·exact prims0_good.call f es res h w G vals hA
 ·simp only [Cal.of,prims] at h
  split at h
  ·exact (rc30_good 250).wr 30 e T xs res h hs
  ·exact prims0_good.wr f e T xs res h hs
 ·simp only [Cal.of,prims] at h
  split at h
  ·exact (rc30_good 250).lend 30 T o x es res h
  ·exact prims0_good.lend f T o x es res h
end Go.Fw.L19
