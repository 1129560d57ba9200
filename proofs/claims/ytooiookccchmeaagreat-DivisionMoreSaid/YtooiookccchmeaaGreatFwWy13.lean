/- what is known of the library's functions. -/
import Derived.Test.YtooiookccchmeaaGreatFwSw
import Derived.Test.YtooiookccchmeaaGreatFwSo
import Derived.Test.YtooiookccchmeaaGreatFwNg
import Derived.Test.YtooiookccchmeaaGreatFwZy13
import Derived.Test.YtooiookccchmeaaGreatFwKy13
import Derived.Test.YtooiookccchmeaaGreatFwB6
import Derived.Lib.Strings
import Derived.Lib.Slices
import Derived.Lib.Walk
set_option linter.unusedVariables false
set_option linter.unusedSimpArgs false
open Option renaming bind_eq_some_iff → aq
namespace Go.Fw.L19
open Go Go.Fw
open Go.Proofs in
set_option maxHeartbeats 1000000 in
set_option maxRecDepth 100000 in
theorem alU (s:ByteArray) (c:Int) (w:World):Calls Tryz.prog 145 #[.string s,.int .u8 c] w fun e w'=>e=.returned (.int .i64 (Lib.indexByte s.data.toList c.toNat.toUInt8))∧w'=w:=by
 go_enter Tryz.func145,Tryz.ntmps145
 go_wp2
 rw [run_callFunc_extern Tryz.func156 (by kernel_rfl) (by kernel_rfl) (by kernel_rfl) (e:=Extern.BytealgIndexByte.indexByte) (by kernel_rfl),Lib.run_indexByteString]
 simp only [Result.andThen]
 rw [Oper.upon_value]
 go_wp2
 go_ret
 exact ⟨rfl,rfl⟩
open Go.Proofs Go.Shelf in
def TI:Ren:=⟨fun x=>if x=4 then 65 else x,fun x=>if x=22 then 22 else if x=25 then 43 else x,fun x=>x⟩
open Go.Proofs Go.Shelf in
theorem ZB:Lays8.n4 Tryz.prog TI:=by
 refine { mixed := by kernel_rfl, f4 := ⟨"slices.Grow[[]anceps/api.Sign,anceps/api.Sign]", by decide, by kernel_rfl⟩, t0 := by kernel_rfl, a0 := ?_, z0 := ?_, v0 := ?_, t3 := by kernel_rfl, a3 := ?_, z3 := ?_, v3 := ?_, t4 := by kernel_rfl, a4 := ?_, z4 := ?_, v4 := ?_, t9 := by kernel_rfl, a9 := ?_, z9 := ?_, v9 := ?_, t20 := by kernel_rfl, a20 := ?_, z20 := ?_, v20 := ?_, t22 := by kernel_rfl, a22 := ?_, z22 := ?_, v22 := ?_ }
 all_goals (intro w; kernel_rfl)
theorem eR {c:aQ} {es res:List E} (h0:((some c.eY).bind fun p=>p es)=some res):∃ a,es=c.enc a:=by
 have h:c.eY es=some res:=h0
 unfold aQ.eY at h
 obtain ⟨a,ha,_⟩:=aq.1 h
 exact ⟨a,c.ok es a ha⟩
open Go.Shelf in
def uE:Ren:=⟨fun x=>match x with | 166=>84 | 169=>85 | 240=>113 | 276=>134 | x=>x,fun x=>match x with | 0=>0 | 3=>3 | 4=>4 | 5=>5 | 9=>9 | 20=>20 | 37=>55 | 70=>121 | 72=>123 | 75=>125 | 80=>128 | 127=>150 | 164=>167 | x=>x,fun x=>match x with | x=>x⟩
open Go.Proofs Go.Shelf in
set_option maxRecDepth 100000 in
theorem aeg:Lays.n166 Tryz.prog uE:=by constructor<;>first | kernel_rfl | exact fun w=>by kernel_rfl | decide
open Go.Proofs Go.Shelf in
set_option maxRecDepth 100000 in
theorem aeh:Lays.n169 Tryz.prog uE:=by constructor<;>first | kernel_rfl | exact fun w=>by kernel_rfl | decide
open Go.Proofs Go.Shelf in
set_option maxRecDepth 100000 in
theorem Vk:Builder.Extra Tryz.prog uE:=by constructor<;>first | kernel_rfl | exact fun w=>by kernel_rfl | decide | (constructor<;>first | kernel_rfl | exact fun w=>by kernel_rfl | decide)
open Go.Shelf in
def WB:Ren:=⟨fun x=>match x with | 6=>43 | 14=>75 | 15=>76 | 20=>100 | 21=>101 | 22=>102 | 23=>103 | 24=>104 | 25=>105 | 26=>106 | 27=>107 | 28=>108 | 29=>109 | 46=>129 | 47=>130 | 48=>131 | 49=>132 | 50=>133 | 57=>147 | x=>x,fun x=>match x with | 0=>0 | 3=>3 | 4=>4 | 5=>5 | 9=>9 | 22=>32 | 24=>27 | 25=>79 | 39=>113 | 45=>140 | 46=>141 | 50=>108 | 53=>147 | 55=>149 | 66=>161 | 70=>165 | 76=>172 | 77=>173 | x=>x,fun x=>match x with | x=>x⟩
open Go.Proofs Go.Shelf in
set_option maxRecDepth 100000 in
theorem aei:SlLaysF.n6 Tryz.prog WB:=by
 refine { mixed := ?_, f6 := ⟨"slices.SortFunc[[][]int,[]int]", by decide, by kernel_rfl⟩, f14 := ⟨"slices.pdqsortCmpFunc[[]int]", by decide, by kernel_rfl⟩, f15 := ?_, f20 := ⟨"slices.insertionSortCmpFunc[[]int]", by decide, by kernel_rfl⟩, f21 := ⟨"slices.heapSortCmpFunc[[]int]", by decide, by kernel_rfl⟩, f22 := ⟨"slices.breakPatternsCmpFunc[[]int]", by decide, by kernel_rfl⟩, f23 := ⟨"slices.choosePivotCmpFunc[[]int]", by decide, by kernel_rfl⟩, f24 := ⟨"slices.reverseRangeCmpFunc[[]int]", by decide, by kernel_rfl⟩, f25 := ⟨"slices.partialInsertionSortCmpFunc[[]int]", by decide, by kernel_rfl⟩, f26 := ⟨"slices.partitionEqualCmpFunc[[]int]", by decide, by kernel_rfl⟩, f27 := ⟨"slices.partitionCmpFunc[[]int]", by decide, by kernel_rfl⟩, f28 := ?_, f29 := ?_, f46 := ⟨"slices.siftDownCmpFunc[[]int]", by decide, by kernel_rfl⟩, f47 := ?_, f48 := ?_, f49 := ⟨"slices.medianAdjacentCmpFunc[[]int]", by decide, by kernel_rfl⟩, f50 := ⟨"slices.medianCmpFunc[[]int]", by decide, by kernel_rfl⟩, f57 := ⟨"slices.order2CmpFunc[[]int]", by decide, by kernel_rfl⟩, t0 := ?_, a0 := ?_, z0 := ?_, v0 := ?_, t3 := ?_, a3 := ?_, z3 := ?_, v3 := ?_, t4 := ?_, a4 := ?_, z4 := ?_, v4 := ?_, t5 := ?_, a5 := ?_, z5 := ?_, v5 := ?_, t9 := ?_, a9 := ?_, z9 := ?_, v9 := ?_, t22 := ?_, a22 := ?_, z22 := ?_, v22 := ?_, a24 := ?_, z24 := ?_, t25 := ?_, a25 := ?_, z25 := ?_, v25 := ?_, t39 := ?_, a39 := ?_, z39 := ?_, v39 := ?_, t45 := ?_, a45 := ?_, z45 := ?_, v45 := ?_, t46 := ?_, a46 := ?_, z46 := ?_, v46 := ?_, t50 := ?_, a50 := ?_, z50 := ?_, v50 := ?_, t53 := ?_, a53 := ?_, z53 := ?_, v53 := ?_, t55 := ?_, a55 := ?_, z55 := ?_, v55 := ?_, t66 := ?_, a66 := ?_, z66 := ?_, v66 := ?_, t70 := ?_, a70 := ?_, z70 := ?_, v70 := ?_, t76 := ?_, a76 := ?_, z76 := ?_, v76 := ?_, t77 := ?_, a77 := ?_, z77 := ?_, v77 := ?_ }
 all_goals first | kernel_rfl | exact fun w=>by kernel_rfl | decide
theorem jb:Good Go.Proofs.Tryz.prog fM.nil (.of fun f es=>(dI f).bind fun p=>p es):=by
 refine ⟨?_,?_,?_,?_,?_,?_,?_⟩
 ·intro f es res h w G vals htw hA
  simp only [az.of,dI] at h
  split at h
  ·have h:(jW (eV 0)).eY es=some res:=h
   unfold aQ.eY at h
   obtain ⟨a,ha,h⟩:=aq.1 h
   obtain ⟨b,hb,h⟩:=aq.1 h
   have:=(jW (eV 0)).ok es a ha
   subst this
   exact absurd hA (fun hA=>by cases hA with | cons h1 _=>exact h1)
  ·have h:(jX (dW 0)).eY es=some res:=h
   unfold aQ.eY at h
   obtain ⟨a,ha,h⟩:=aq.1 h
   obtain ⟨b,hb,h⟩:=aq.1 h
   have:=(jX (dW 0)).ok es a ha
   subst this
   have hb2:(if 0≤a.1∧a.1≤(2513169434916:Int) then some [] else none)=some b:=hb
   split at hb2
   ·rename_i hl
    cases hb2; cases h
    exact ZA (P:=Go.Proofs.Tryz.prog) (ρ:=TI) ZB (T:=(.pair .str (.pair (.sl (.pair (.int .i64) (.pair (.int .i64) (.pair .str .unit)))) (.pair (.int .i64) (.pair (.int .i64) .unit))))) (lim:=2513169434916) (by decide+kernel) ⟨_,Go.Proofs.Tryz.func65,by kernel_rfl,by kernel_rfl⟩ a.1 hl w G vals hA
   ·simp at hb2
  ·have h:(iq (cF 0)).eY es=some res:=h
   unfold aQ.eY at h
   obtain ⟨a,ha,h⟩:=aq.1 h
   obtain ⟨b,hb,h⟩:=aq.1 h
   have:=(iq (cF 0)).ok es a ha
   subst this
   exact absurd hA WT
  ·have h:(jl (ee 0)).eY es=some res:=h
   unfold aQ.eY at h
   obtain ⟨a,ha,h⟩:=aq.1 h
   obtain ⟨b,hb,h⟩:=aq.1 h
   have:=(jl (ee 0)).ok es a ha
   subst this
   exact absurd hA WT
  ·have h:(ko (fv 0)).eY es=some res:=h
   unfold aQ.eY at h
   obtain ⟨a,ha,h⟩:=aq.1 h
   obtain ⟨b,hb,h⟩:=aq.1 h
   have:=(ko (fv 0)).ok es a ha
   subst this
   cases hb; cases h
   exact aba alU ⟨_,Go.Proofs.Tryz.func145,by kernel_rfl,by kernel_rfl⟩ a.1 a.2.1 w G vals hA
  ·simp at h
 ·intro f e T xs res h hs
  simp only [az.of,dI] at h
  split at h
  ·obtain ⟨_,hu⟩:=eR (c:=jW (eV 0)) h; cases hu
  ·obtain ⟨_,hu⟩:=eR (c:=jX (dW 0)) h; cases hu
  ·obtain ⟨_,hu⟩:=eR (c:=iq (cF 0)) h; cases hu
  ·obtain ⟨_,hu⟩:=eR (c:=jl (ee 0)) h; cases hu
  ·obtain ⟨_,hu⟩:=eR (c:=ko (fv 0)) h; cases hu
  ·simp at h
 ·intro f T o x es res h
  simp only [az.of,dI] at h
  split at h
  ·obtain ⟨_,hu⟩:=eR (c:=jW (eV 0)) h; cases hu
  ·obtain ⟨_,hu⟩:=eR (c:=jX (dW 0)) h; cases hu
  ·obtain ⟨_,hu⟩:=eR (c:=iq (cF 0)) h; cases hu
  ·obtain ⟨_,hu⟩:=eR (c:=jl (ee 0)) h; cases hu
  ·obtain ⟨_,hu⟩:=eR (c:=ko (fv 0)) h; cases hu
  ·simp at h
 ·intro f e T xs A C gf res h
  simp only [az.of,dI] at h
  split at h
  ·obtain ⟨_,hu⟩:=eR (c:=jW (eV 0)) h; cases hu
  ·obtain ⟨_,hu⟩:=eR (c:=jX (dW 0)) h; cases hu
  ·obtain ⟨_,hu⟩:=eR (c:=iq (cF 0)) h; cases hu
  ·obtain ⟨_,hu⟩:=eR (c:=jl (ee 0)) h; cases hu
  ·obtain ⟨_,hu⟩:=eR (c:=ko (fv 0)) h; cases hu
  ·simp at h
 ·intro f e T xs A C gf res h
  simp only [az.of,dI] at h
  split at h
  ·have h:(jW (eV 0)).eY [.bJ,.v (.fn A C) gf,.own true e T .no xs]=some res:=h
   unfold aQ.eY at h
   obtain ⟨a,ha,h⟩:=aq.1 h
   have hu:=(jW (eV 0)).ok _ a ha
   obtain ⟨b,hb,h⟩:=aq.1 h
   cases h; cases hu
   have hb2:tT (α:=List Int) a.1 a.2.1=some b:=hb
   exact ⟨b,rfl,⟨_,Go.Proofs.Tryz.func43,by kernel_rfl,by kernel_rfl⟩,fun w B G v gv cells he hrow hel hnoG hB hfn=>akW (ρ:=WB) (T:=.sl (.int .i64)) aei rfl rfl hb2 w B G v gv cells he hrow hel hnoG hB hfn⟩
  ·obtain ⟨_,hu⟩:=eR (c:=jX (dW 0)) h; cases hu
  ·obtain ⟨_,hu⟩:=eR (c:=iq (cF 0)) h; cases hu
  ·obtain ⟨_,hu⟩:=eR (c:=jl (ee 0)) h; cases hu
  ·obtain ⟨_,hu⟩:=eR (c:=ko (fv 0)) h; cases hu
  ·simp at h
 ·intro f t e s x res h
  simp only [az.of,dI] at h
  split at h
  ·obtain ⟨_,hu⟩:=eR (c:=jW (eV 0)) h; cases hu
  ·obtain ⟨_,hu⟩:=eR (c:=jX (dW 0)) h; cases hu
  ·have h:(iq (cF 0)).eY [.bJ,.sb t e s,.v .str x]=some res:=h
   unfold aQ.eY at h
   obtain ⟨a,ha,h⟩:=aq.1 h
   have hu:=(iq (cF 0)).ok _ a ha
   obtain ⟨b,hb,h⟩:=aq.1 h
   have hb2:(if a.1.length+a.2.1.length≤140737488355328 then some (a.1++a.2.1) else none)=some b:=hb
   split at hb2
   ·rename_i hl
    cases hb2; cases h; cases hu
    exact ⟨rfl,hl,⟨_,Go.Proofs.Tryz.func84,by kernel_rfl,by kernel_rfl⟩,fun w B v ob h1 h2=>akN (ρ:=uE) aeg Vk a.1 a.2.1 hl w B v ob h1 h2⟩
   ·simp at hb2
  ·obtain ⟨_,hu⟩:=eR (c:=jl (ee 0)) h; cases hu
  ·obtain ⟨_,hu⟩:=eR (c:=ko (fv 0)) h; cases hu
  ·simp at h
 ·intro f t e s res h
  simp only [az.of,dI] at h
  split at h
  ·obtain ⟨_,hu⟩:=eR (c:=jW (eV 0)) h; cases hu
  ·obtain ⟨_,hu⟩:=eR (c:=jX (dW 0)) h; cases hu
  ·obtain ⟨_,hu⟩:=eR (c:=iq (cF 0)) h; cases hu
  ·have h:(jl (ee 0)).eY [.bJ,.sb t e s]=some res:=h
   unfold aQ.eY at h
   obtain ⟨a,ha,h⟩:=aq.1 h
   have hu:=(jl (ee 0)).ok _ a ha
   obtain ⟨b,hb,h⟩:=aq.1 h
   cases hb; cases h; cases hu
   exact ⟨rfl,⟨_,Go.Proofs.Tryz.func85,by kernel_rfl,by kernel_rfl⟩,fun w B v ob h1 h2=>akL (ρ:=uE) aeh Vk a.1 w B v ob h1 h2⟩
  ·obtain ⟨_,hu⟩:=eR (c:=ko (fv 0)) h; cases hu
  ·simp at h
theorem jI (m:Nat):Good Go.Proofs.Tryz.prog fM.nil (qS m):=Dk (uy 2000 (fun f fd _ h=>Ls f fd h) jb _) ag4 m
theorem ahJ:Good Go.Proofs.Tryz.prog fM.nil (.of fun f es=>(dP f).bind fun p=>p es):=by
 refine ⟨fun f es res h w G vals htw hA=>?_,fun f e T xs res h hs=>?_,fun f T o x es res h=>?_,fun f e T xs A C gf res h=>?_,fun f e T xs A C gf res h=>?_,fun f t e s x res h=>?_,fun f t e s res h=>?_⟩
 ·simp only [az.of,dP] at h
  split at h
  ·exact (jI 250).call 41 es res h w G vals htw hA
  ·exact jb.call f es res h w G vals htw hA
 ·simp only [az.of,dP] at h
  split at h
  ·exact (jI 250).wr 41 e T xs res h hs
  ·exact jb.wr f e T xs res h hs
 ·simp only [az.of,dP] at h
  split at h
  ·exact (jI 250).lend 41 T o x es res h
  ·exact jb.lend f T o x es res h
 ·simp only [az.of,dP] at h
  split at h
  ·exact (jI 250).bU 41 e T xs A C gf res h
  ·exact jb.bU f e T xs A C gf res h
 ·simp only [az.of,dP] at h
  split at h
  ·exact (jI 250).iX 41 e T xs A C gf res h
  ·exact jb.iX f e T xs A C gf res h
 ·simp only [az.of,dP] at h
  split at h
  ·exact (jI 250).iC 41 t e s x res h
  ·exact jb.iC f t e s x res h
 ·simp only [az.of,dP] at h
  split at h
  ·exact (jI 250).jJ 41 t e s res h
  ·exact jb.jJ f t e s res h
theorem qT (m:Nat):Good Go.Proofs.Tryz.prog fM.nil (yY m):=Dk (uy 2000 (fun f fd _ h=>Ls f fd h) ahJ _) ag5 m
theorem ahK:Good Go.Proofs.Tryz.prog fM.nil (.of fun f es=>(k9 f).bind fun p=>p es):=by
 refine ⟨fun f es res h w G vals htw hA=>?_,fun f e T xs res h hs=>?_,fun f T o x es res h=>?_,fun f e T xs A C gf res h=>?_,fun f e T xs A C gf res h=>?_,fun f t e s x res h=>?_,fun f t e s res h=>?_⟩
 ·simp only [az.of,k9] at h
  split at h
  ·exact (jI 250).call 41 es res h w G vals htw hA
  ·exact (qT 250).call 42 es res h w G vals htw hA
  ·exact jb.call f es res h w G vals htw hA
 ·simp only [az.of,k9] at h
  split at h
  ·exact (jI 250).wr 41 e T xs res h hs
  ·exact (qT 250).wr 42 e T xs res h hs
  ·exact jb.wr f e T xs res h hs
 ·simp only [az.of,k9] at h
  split at h
  ·exact (jI 250).lend 41 T o x es res h
  ·exact (qT 250).lend 42 T o x es res h
  ·exact jb.lend f T o x es res h
 ·simp only [az.of,k9] at h
  split at h
  ·exact (jI 250).bU 41 e T xs A C gf res h
  ·exact (qT 250).bU 42 e T xs A C gf res h
  ·exact jb.bU f e T xs A C gf res h
 ·simp only [az.of,k9] at h
  split at h
  ·exact (jI 250).iX 41 e T xs A C gf res h
  ·exact (qT 250).iX 42 e T xs A C gf res h
  ·exact jb.iX f e T xs A C gf res h
 ·simp only [az.of,k9] at h
  split at h
  ·exact (jI 250).iC 41 t e s x res h
  ·exact (qT 250).iC 42 t e s x res h
  ·exact jb.iC f t e s x res h
 ·simp only [az.of,k9] at h
  split at h
  ·exact (jI 250).jJ 41 t e s res h
  ·exact (qT 250).jJ 42 t e s res h
  ·exact jb.jJ f t e s res h
end Go.Fw.L19
