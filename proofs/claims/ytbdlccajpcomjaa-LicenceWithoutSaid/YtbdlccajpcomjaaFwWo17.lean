/- what is known of the library's functions. -/
import Derived.Test.YtbdlccajpcomjaaFwDg
import Derived.Test.YtbdlccajpcomjaaFwZo17
import Derived.Test.YtbdlccajpcomjaaFwKo17
import Derived.Test.YtbdlccajpcomjaaFwB6
import Derived.Lib.Strings
import Derived.Lib.Slices
import Derived.Lib.Walk
set_option linter.unusedVariables false
set_option linter.unusedSimpArgs false
namespace Go.Fw.L19
open Go Go.Fw
open Go.Proofs in
set_option maxHeartbeats 1000000 in
set_option maxRecDepth 100000 in
theorem stringslite_IndexByte (s:ByteArray) (c:Int) (w:World):Calls Try.prog 86 #[.string s,.int .u8 c] w fun e w'=>e=.returned (.int .i64 (Lib.indexByte s.data.toList c.toNat.toUInt8))∧w'=w:=by
 go_enter Try.func86,Try.ntmps86
 go_wp2
 rw [run_callFunc_extern Try.func91 (by kernel_rfl) (by kernel_rfl) (by kernel_rfl) (e:=Extern.BytealgIndexByte.indexByte) (by kernel_rfl),Lib.run_indexByteString]
 simp only [Result.andThen]
 rw [Oper.upon_value]
 go_wp2
 go_ret
 exact ⟨rfl,rfl⟩
theorem prim_enc {c:Ctr} {es res:List E} (h0:((some c.prim).bind fun p=>p es)=some res):∃ a,es=c.enc a:=by
 have h:c.prim es=some res:=h0
 unfold Ctr.prim at h
 obtain ⟨a,ha,_⟩:=Option.bind_eq_some_iff.1 h
 exact ⟨a,c.ok es a ha⟩
theorem prims_good:Good Go.Proofs.Try.prog Tabs.nil (.of fun f es=>(prims f).bind fun p=>p es):=by
 refine ⟨?_,?_,?_,?_,?_,?_⟩
 ·intro f es res h w G vals htw hA
  simp only [Cal.of,prims] at h
  split at h
  ·have h:(ctr47 (S47 0)).prim es=some res:=h
   unfold Ctr.prim at h
   obtain ⟨a,ha,h⟩:=Option.bind_eq_some_iff.1 h
   obtain ⟨b,hb,h⟩:=Option.bind_eq_some_iff.1 h
   have:=(ctr47 (S47 0)).ok es a ha
   subst this
   have hb2:(if a.1.length≤3518437208883 then some a.1 else none)=some b:=hb
   split at hb2
   ·rename_i hl
    cases hb2; cases h
    exact clone_good (P:=Go.Proofs.Try.prog) (f:=47) (e:=57) (T:=(.pair (.int .i64) (.pair (.int .i64) (.pair (.sl .str) .unit)))) (lim:=3518437208883) (by decide+kernel) (by kernel_rfl) (fun xs=>by kernel_rfl) a.1 hl w G vals hA
   ·simp at hb2
  ·have h:(ctr48 (S48 0)).prim es=some res:=h
   unfold Ctr.prim at h
   obtain ⟨a,ha,h⟩:=Option.bind_eq_some_iff.1 h
   obtain ⟨b,hb,h⟩:=Option.bind_eq_some_iff.1 h
   have:=(ctr48 (S48 0)).ok es a ha
   subst this
   have hb2:(if a.1.length≤8796093022208 then some a.1 else none)=some b:=hb
   split at hb2
   ·rename_i hl
    cases hb2; cases h
    exact clone_good (P:=Go.Proofs.Try.prog) (f:=48) (e:=9) (T:=.str) (lim:=8796093022208) (by decide+kernel) (by kernel_rfl) (fun xs=>by kernel_rfl) a.1 hl w G vals hA
   ·simp at hb2
  ·have h:(ctr51 (S51 0)).prim es=some res:=h
   unfold Ctr.prim at h
   obtain ⟨a,ha,h⟩:=Option.bind_eq_some_iff.1 h
   obtain ⟨b,hb,h⟩:=Option.bind_eq_some_iff.1 h
   have:=(ctr51 (S51 0)).ok es a ha
   subst this
   exact absurd hA (fun hA=>by cases hA with | cons h1 _=>exact h1)
  ·have h:(ctr86 (S86 0)).prim es=some res:=h
   unfold Ctr.prim at h
   obtain ⟨a,ha,h⟩:=Option.bind_eq_some_iff.1 h
   obtain ⟨b,hb,h⟩:=Option.bind_eq_some_iff.1 h
   have:=(ctr86 (S86 0)).ok es a ha
   subst this
   cases hb; cases h
   exact idx_good stringslite_IndexByte ⟨_,Go.Proofs.Try.func86,by kernel_rfl,by kernel_rfl⟩ a.1 a.2.1 w G vals hA
  ·simp at h
 ·intro f e T xs res h hs
  simp only [Cal.of,prims] at h
  split at h
  ·obtain ⟨_,hu⟩:=prim_enc (c:=ctr47 (S47 0)) h; cases hu
  ·obtain ⟨_,hu⟩:=prim_enc (c:=ctr48 (S48 0)) h; cases hu
  ·obtain ⟨_,hu⟩:=prim_enc (c:=ctr51 (S51 0)) h; cases hu
  ·obtain ⟨_,hu⟩:=prim_enc (c:=ctr86 (S86 0)) h; cases hu
  ·simp at h
 ·intro f T o x es res h
  simp only [Cal.of,prims] at h
  split at h
  ·obtain ⟨_,hu⟩:=prim_enc (c:=ctr47 (S47 0)) h; cases hu
  ·obtain ⟨_,hu⟩:=prim_enc (c:=ctr48 (S48 0)) h; cases hu
  ·obtain ⟨_,hu⟩:=prim_enc (c:=ctr51 (S51 0)) h; cases hu
  ·obtain ⟨_,hu⟩:=prim_enc (c:=ctr86 (S86 0)) h; cases hu
  ·simp at h
 ·intro f e T xs A C gf res h
  simp only [Cal.of,prims] at h
  split at h
  ·obtain ⟨_,hu⟩:=prim_enc (c:=ctr47 (S47 0)) h; cases hu
  ·obtain ⟨_,hu⟩:=prim_enc (c:=ctr48 (S48 0)) h; cases hu
  ·have h:(ctr51 (S51 0)).prim [.und,.own true e T .no xs,.v (.fn A C) gf]=some res:=h
   unfold Ctr.prim at h
   obtain ⟨a,ha,h⟩:=Option.bind_eq_some_iff.1 h
   have hu:=(ctr51 (S51 0)).ok _ a ha
   obtain ⟨b,hb,h⟩:=Option.bind_eq_some_iff.1 h
   cases h; cases hu
   exact ⟨b,rfl,⟨_,Go.Proofs.Try.func51,by kernel_rfl,by kernel_rfl⟩,fun w B G v gv cells he hrow hel hnoG hB hfn=>df_good a.1 a.2.1 b hb w B G v gv cells 57 he hrow hel hnoG hB hfn⟩
  ·obtain ⟨_,hu⟩:=prim_enc (c:=ctr86 (S86 0)) h; cases hu
  ·simp at h
 ·intro f t e s x res h
  simp only [Cal.of,prims] at h
  split at h
  ·obtain ⟨_,hu⟩:=prim_enc (c:=ctr47 (S47 0)) h; cases hu
  ·obtain ⟨_,hu⟩:=prim_enc (c:=ctr48 (S48 0)) h; cases hu
  ·obtain ⟨_,hu⟩:=prim_enc (c:=ctr51 (S51 0)) h; cases hu
  ·obtain ⟨_,hu⟩:=prim_enc (c:=ctr86 (S86 0)) h; cases hu
  ·simp at h
 ·intro f t e s res h
  simp only [Cal.of,prims] at h
  split at h
  ·obtain ⟨_,hu⟩:=prim_enc (c:=ctr47 (S47 0)) h; cases hu
  ·obtain ⟨_,hu⟩:=prim_enc (c:=ctr48 (S48 0)) h; cases hu
  ·obtain ⟨_,hu⟩:=prim_enc (c:=ctr51 (S51 0)) h; cases hu
  ·obtain ⟨_,hu⟩:=prim_enc (c:=ctr86 (S86 0)) h; cases hu
  ·simp at h
end Go.Fw.L19
