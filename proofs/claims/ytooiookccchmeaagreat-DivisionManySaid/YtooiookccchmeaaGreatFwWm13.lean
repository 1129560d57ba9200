/- what is known of the library's functions. -/
import Derived.Test.YtooiookccchmeaaGreatFwSw
import Derived.Test.YtooiookccchmeaaGreatFwSo
import Derived.Test.YtooiookccchmeaaGreatFwZm13
import Derived.Test.YtooiookccchmeaaGreatFwKm13
import Derived.Test.YtooiookccchmeaaGreatFwB6
import Derived.Lib.Strings
import Derived.Lib.Slices
import Derived.Lib.Walk
set_option linter.unusedVariables false
set_option linter.unusedSimpArgs false
open Option renaming bind_eq_some_iff → aj
namespace Go.Fw.L19
open Go Go.Fw
open Go.Proofs in
set_option maxHeartbeats 1000000 in
set_option maxRecDepth 100000 in
theorem ahu (s:ByteArray) (c:Int) (w:World):Calls Tryz.prog 145 #[.string s,.int .u8 c] w fun e w'=>e=.returned (.int .i64 (Lib.indexByte s.data.toList c.toNat.toUInt8))∧w'=w:=by
 go_enter Tryz.func145,Tryz.ntmps145
 go_wp2
 rw [run_callFunc_extern Tryz.func156 (by kernel_rfl) (by kernel_rfl) (by kernel_rfl) (e:=Extern.BytealgIndexByte.indexByte) (by kernel_rfl),Lib.run_indexByteString]
 simp only [Result.andThen]
 rw [Oper.upon_value]
 go_wp2
 go_ret
 exact ⟨rfl,rfl⟩
theorem fy {c:aO} {es res:List E} (h0:((some c.fc).bind fun p=>p es)=some res):∃ a,es=c.enc a:=by
 have h:c.fc es=some res:=h0
 unfold aO.fc at h
 obtain ⟨a,ha,_⟩:=aj.1 h
 exact ⟨a,c.ok es a ha⟩
open Go.Shelf in
def sV:Ren:=⟨fun x=>match x with | 166=>84 | 169=>85 | 240=>113 | 276=>134 | x=>x,fun x=>match x with | 0=>0 | 3=>3 | 4=>4 | 5=>5 | 9=>9 | 20=>20 | 37=>55 | 70=>121 | 72=>123 | 75=>125 | 80=>128 | 127=>150 | 164=>167 | x=>x,fun x=>match x with | x=>x⟩
open Go.Proofs Go.Shelf in
set_option maxRecDepth 100000 in
theorem aah:Lays.n166 Tryz.prog sV:=by constructor<;>first | kernel_rfl | exact fun w=>by kernel_rfl | decide
open Go.Proofs Go.Shelf in
set_option maxRecDepth 100000 in
theorem aai:Lays.n169 Tryz.prog sV:=by constructor<;>first | kernel_rfl | exact fun w=>by kernel_rfl | decide
open Go.Proofs Go.Shelf in
set_option maxRecDepth 100000 in
theorem RE:Builder.Extra Tryz.prog sV:=by constructor<;>first | kernel_rfl | exact fun w=>by kernel_rfl | decide | (constructor<;>first | kernel_rfl | exact fun w=>by kernel_rfl | decide)
open Go.Shelf in
def SS:Ren:=⟨fun x=>match x with | 6=>43 | 14=>75 | 15=>76 | 20=>100 | 21=>101 | 22=>102 | 23=>103 | 24=>104 | 25=>105 | 26=>106 | 27=>107 | 28=>108 | 29=>109 | 46=>129 | 47=>130 | 48=>131 | 49=>132 | 50=>133 | 57=>147 | x=>x,fun x=>match x with | 0=>0 | 3=>3 | 4=>4 | 5=>5 | 9=>9 | 22=>32 | 24=>27 | 25=>79 | 39=>113 | 45=>140 | 46=>141 | 50=>108 | 53=>147 | 55=>149 | 66=>161 | 70=>165 | 76=>172 | 77=>173 | x=>x,fun x=>match x with | x=>x⟩
open Go.Proofs Go.Shelf in
set_option maxRecDepth 100000 in
theorem aaj:SlLaysF.n6 Tryz.prog SS:=by
 refine { mixed := ?_, f6 := ⟨"slices.SortFunc[[][]int,[]int]", by decide, by kernel_rfl⟩, f14 := ⟨"slices.pdqsortCmpFunc[[]int]", by decide, by kernel_rfl⟩, f15 := ?_, f20 := ⟨"slices.insertionSortCmpFunc[[]int]", by decide, by kernel_rfl⟩, f21 := ⟨"slices.heapSortCmpFunc[[]int]", by decide, by kernel_rfl⟩, f22 := ⟨"slices.breakPatternsCmpFunc[[]int]", by decide, by kernel_rfl⟩, f23 := ⟨"slices.choosePivotCmpFunc[[]int]", by decide, by kernel_rfl⟩, f24 := ⟨"slices.reverseRangeCmpFunc[[]int]", by decide, by kernel_rfl⟩, f25 := ⟨"slices.partialInsertionSortCmpFunc[[]int]", by decide, by kernel_rfl⟩, f26 := ⟨"slices.partitionEqualCmpFunc[[]int]", by decide, by kernel_rfl⟩, f27 := ⟨"slices.partitionCmpFunc[[]int]", by decide, by kernel_rfl⟩, f28 := ?_, f29 := ?_, f46 := ⟨"slices.siftDownCmpFunc[[]int]", by decide, by kernel_rfl⟩, f47 := ?_, f48 := ?_, f49 := ⟨"slices.medianAdjacentCmpFunc[[]int]", by decide, by kernel_rfl⟩, f50 := ⟨"slices.medianCmpFunc[[]int]", by decide, by kernel_rfl⟩, f57 := ⟨"slices.order2CmpFunc[[]int]", by decide, by kernel_rfl⟩, t0 := ?_, a0 := ?_, z0 := ?_, v0 := ?_, t3 := ?_, a3 := ?_, z3 := ?_, v3 := ?_, t4 := ?_, a4 := ?_, z4 := ?_, v4 := ?_, t5 := ?_, a5 := ?_, z5 := ?_, v5 := ?_, t9 := ?_, a9 := ?_, z9 := ?_, v9 := ?_, t22 := ?_, a22 := ?_, z22 := ?_, v22 := ?_, a24 := ?_, z24 := ?_, t25 := ?_, a25 := ?_, z25 := ?_, v25 := ?_, t39 := ?_, a39 := ?_, z39 := ?_, v39 := ?_, t45 := ?_, a45 := ?_, z45 := ?_, v45 := ?_, t46 := ?_, a46 := ?_, z46 := ?_, v46 := ?_, t50 := ?_, a50 := ?_, z50 := ?_, v50 := ?_, t53 := ?_, a53 := ?_, z53 := ?_, v53 := ?_, t55 := ?_, a55 := ?_, z55 := ?_, v55 := ?_, t66 := ?_, a66 := ?_, z66 := ?_, v66 := ?_, t70 := ?_, a70 := ?_, z70 := ?_, v70 := ?_, t76 := ?_, a76 := ?_, z76 := ?_, v76 := ?_, t77 := ?_, a77 := ?_, z77 := ?_, v77 := ?_ }
 all_goals first | kernel_rfl | exact fun w=>by kernel_rfl | decide
theorem iG:Good Go.Proofs.Tryz.prog fm.nil (.of fun f es=>(dv f).bind fun p=>p es):=by
 refine ⟨?_,?_,?_,?_,?_,?_,?_⟩
 ·intro f es res h w G vals htw hA
  simp only [ay.of,dv] at h
  split at h
  ·have h:(jv (eE 0)).fc es=some res:=h
   unfold aO.fc at h
   obtain ⟨a,ha,h⟩:=aj.1 h
   obtain ⟨b,hb,h⟩:=aj.1 h
   have:=(jv (eE 0)).ok es a ha
   subst this
   exact absurd hA (fun hA=>by cases hA with | cons h1 _=>exact h1)
  ·have h:(gZ (cg 0)).fc es=some res:=h
   unfold aO.fc at h
   obtain ⟨a,ha,h⟩:=aj.1 h
   obtain ⟨b,hb,h⟩:=aj.1 h
   have:=(gZ (cg 0)).ok es a ha
   subst this
   exact absurd hA S9
  ·have h:(iV (dJ 0)).fc es=some res:=h
   unfold aO.fc at h
   obtain ⟨a,ha,h⟩:=aj.1 h
   obtain ⟨b,hb,h⟩:=aj.1 h
   have:=(iV (dJ 0)).ok es a ha
   subst this
   exact absurd hA S9
  ·have h:(jL (eX 0)).fc es=some res:=h
   unfold aO.fc at h
   obtain ⟨a,ha,h⟩:=aj.1 h
   obtain ⟨b,hb,h⟩:=aj.1 h
   have:=(jL (eX 0)).ok es a ha
   subst this
   cases hb; cases h
   exact XH ahu ⟨_,Go.Proofs.Tryz.func145,by kernel_rfl,by kernel_rfl⟩ a.1 a.2.1 w G vals hA
  ·simp at h
 ·intro f e T xs res h hs
  simp only [ay.of,dv] at h
  split at h
  ·obtain ⟨_,hu⟩:=fy (c:=jv (eE 0)) h; cases hu
  ·obtain ⟨_,hu⟩:=fy (c:=gZ (cg 0)) h; cases hu
  ·obtain ⟨_,hu⟩:=fy (c:=iV (dJ 0)) h; cases hu
  ·obtain ⟨_,hu⟩:=fy (c:=jL (eX 0)) h; cases hu
  ·simp at h
 ·intro f T o x es res h
  simp only [ay.of,dv] at h
  split at h
  ·obtain ⟨_,hu⟩:=fy (c:=jv (eE 0)) h; cases hu
  ·obtain ⟨_,hu⟩:=fy (c:=gZ (cg 0)) h; cases hu
  ·obtain ⟨_,hu⟩:=fy (c:=iV (dJ 0)) h; cases hu
  ·obtain ⟨_,hu⟩:=fy (c:=jL (eX 0)) h; cases hu
  ·simp at h
 ·intro f e T xs A C gf res h
  simp only [ay.of,dv] at h
  split at h
  ·obtain ⟨_,hu⟩:=fy (c:=jv (eE 0)) h; cases hu
  ·obtain ⟨_,hu⟩:=fy (c:=gZ (cg 0)) h; cases hu
  ·obtain ⟨_,hu⟩:=fy (c:=iV (dJ 0)) h; cases hu
  ·obtain ⟨_,hu⟩:=fy (c:=jL (eX 0)) h; cases hu
  ·simp at h
 ·intro f e T xs A C gf res h
  simp only [ay.of,dv] at h
  split at h
  ·have h:(jv (eE 0)).fc [.bE,.v (.fn A C) gf,.own true e T .no xs]=some res:=h
   unfold aO.fc at h
   obtain ⟨a,ha,h⟩:=aj.1 h
   have hu:=(jv (eE 0)).ok _ a ha
   obtain ⟨b,hb,h⟩:=aj.1 h
   cases h; cases hu
   have hb2:sr (α:=List Int) a.1 a.2.1=some b:=hb
   exact ⟨b,rfl,⟨_,Go.Proofs.Tryz.func43,by kernel_rfl,by kernel_rfl⟩,fun w B G v gv cells he hrow hel hnoG hB hfn=>agy (ρ:=SS) (T:=.sl (.int .i64)) aaj rfl rfl hb2 w B G v gv cells he hrow hel hnoG hB hfn⟩
  ·obtain ⟨_,hu⟩:=fy (c:=gZ (cg 0)) h; cases hu
  ·obtain ⟨_,hu⟩:=fy (c:=iV (dJ 0)) h; cases hu
  ·obtain ⟨_,hu⟩:=fy (c:=jL (eX 0)) h; cases hu
  ·simp at h
 ·intro f t e s x res h
  simp only [ay.of,dv] at h
  split at h
  ·obtain ⟨_,hu⟩:=fy (c:=jv (eE 0)) h; cases hu
  ·have h:(gZ (cg 0)).fc [.bE,.sb t e s,.v .str x]=some res:=h
   unfold aO.fc at h
   obtain ⟨a,ha,h⟩:=aj.1 h
   have hu:=(gZ (cg 0)).ok _ a ha
   obtain ⟨b,hb,h⟩:=aj.1 h
   have hb2:(if a.1.length+a.2.1.length≤140737488355328 then some (a.1++a.2.1) else none)=some b:=hb
   split at hb2
   ·rename_i hl
    cases hb2; cases h; cases hu
    exact ⟨rfl,hl,⟨_,Go.Proofs.Tryz.func84,by kernel_rfl,by kernel_rfl⟩,fun w B v ob h1 h2=>agp (ρ:=sV) aah RE a.1 a.2.1 hl w B v ob h1 h2⟩
   ·simp at hb2
  ·obtain ⟨_,hu⟩:=fy (c:=iV (dJ 0)) h; cases hu
  ·obtain ⟨_,hu⟩:=fy (c:=jL (eX 0)) h; cases hu
  ·simp at h
 ·intro f t e s res h
  simp only [ay.of,dv] at h
  split at h
  ·obtain ⟨_,hu⟩:=fy (c:=jv (eE 0)) h; cases hu
  ·obtain ⟨_,hu⟩:=fy (c:=gZ (cg 0)) h; cases hu
  ·have h:(iV (dJ 0)).fc [.bE,.sb t e s]=some res:=h
   unfold aO.fc at h
   obtain ⟨a,ha,h⟩:=aj.1 h
   have hu:=(iV (dJ 0)).ok _ a ha
   obtain ⟨b,hb,h⟩:=aj.1 h
   cases hb; cases h; cases hu
   exact ⟨rfl,⟨_,Go.Proofs.Tryz.func85,by kernel_rfl,by kernel_rfl⟩,fun w B v ob h1 h2=>agn (ρ:=sV) aai RE a.1 w B v ob h1 h2⟩
  ·obtain ⟨_,hu⟩:=fy (c:=jL (eX 0)) h; cases hu
  ·simp at h
theorem jh (m:Nat):Good Go.Proofs.Tryz.prog fm.nil (px m):=Bj (sP 2000 (fun f fd _ h=>I0 f fd h) iG _) acO m
theorem adu:Good Go.Proofs.Tryz.prog fm.nil (.of fun f es=>(dx f).bind fun p=>p es):=by
 refine ⟨fun f es res h w G vals htw hA=>?_,fun f e T xs res h hs=>?_,fun f T o x es res h=>?_,fun f e T xs A C gf res h=>?_,fun f e T xs A C gf res h=>?_,fun f t e s x res h=>?_,fun f t e s res h=>?_⟩
 ·simp only [ay.of,dx] at h
  split at h
  ·exact (jh 250).call 41 es res h w G vals htw hA
  ·exact iG.call f es res h w G vals htw hA
 ·simp only [ay.of,dx] at h
  split at h
  ·exact (jh 250).wr 41 e T xs res h hs
  ·exact iG.wr f e T xs res h hs
 ·simp only [ay.of,dx] at h
  split at h
  ·exact (jh 250).lend 41 T o x es res h
  ·exact iG.lend f T o x es res h
 ·simp only [ay.of,dx] at h
  split at h
  ·exact (jh 250).bN 41 e T xs A C gf res h
  ·exact iG.bN f e T xs A C gf res h
 ·simp only [ay.of,dx] at h
  split at h
  ·exact (jh 250).iD 41 e T xs A C gf res h
  ·exact iG.iD f e T xs A C gf res h
 ·simp only [ay.of,dx] at h
  split at h
  ·exact (jh 250).hZ 41 t e s x res h
  ·exact iG.hZ f t e s x res h
 ·simp only [ay.of,dx] at h
  split at h
  ·exact (jh 250).ji 41 t e s res h
  ·exact iG.ji f t e s res h
theorem py (m:Nat):Good Go.Proofs.Tryz.prog fm.nil (wJ m):=Bj (sP 2000 (fun f fd _ h=>I0 f fd h) adu _) acP m
theorem adv:Good Go.Proofs.Tryz.prog fm.nil (.of fun f es=>(kj f).bind fun p=>p es):=by
 refine ⟨fun f es res h w G vals htw hA=>?_,fun f e T xs res h hs=>?_,fun f T o x es res h=>?_,fun f e T xs A C gf res h=>?_,fun f e T xs A C gf res h=>?_,fun f t e s x res h=>?_,fun f t e s res h=>?_⟩
 ·simp only [ay.of,kj] at h
  split at h
  ·exact (jh 250).call 41 es res h w G vals htw hA
  ·exact (py 250).call 42 es res h w G vals htw hA
  ·exact iG.call f es res h w G vals htw hA
 ·simp only [ay.of,kj] at h
  split at h
  ·exact (jh 250).wr 41 e T xs res h hs
  ·exact (py 250).wr 42 e T xs res h hs
  ·exact iG.wr f e T xs res h hs
 ·simp only [ay.of,kj] at h
  split at h
  ·exact (jh 250).lend 41 T o x es res h
  ·exact (py 250).lend 42 T o x es res h
  ·exact iG.lend f T o x es res h
 ·simp only [ay.of,kj] at h
  split at h
  ·exact (jh 250).bN 41 e T xs A C gf res h
  ·exact (py 250).bN 42 e T xs A C gf res h
  ·exact iG.bN f e T xs A C gf res h
 ·simp only [ay.of,kj] at h
  split at h
  ·exact (jh 250).iD 41 e T xs A C gf res h
  ·exact (py 250).iD 42 e T xs A C gf res h
  ·exact iG.iD f e T xs A C gf res h
 ·simp only [ay.of,kj] at h
  split at h
  ·exact (jh 250).hZ 41 t e s x res h
  ·exact (py 250).hZ 42 t e s x res h
  ·exact iG.hZ f t e s x res h
 ·simp only [ay.of,kj] at h
  split at h
  ·exact (jh 250).ji 41 t e s res h
  ·exact (py 250).ji 42 t e s res h
  ·exact iG.ji f t e s res h
end Go.Fw.L19
