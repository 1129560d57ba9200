/- Own work: the value machine, part 4. -/
import Derived.Test.YtooiookccchmeaaGreatFwB3
import Derived.Laws.StructEq
import Derived.Test.YtooiookccchmeaaGreatFwB1
import Derived.Laws.RangeString
import Derived.Laws.BytesArg
import Derived.Laws.IdiomStrings
set_option linter.unusedVariables false
set_option linter.unusedSimpArgs false
open Array renaming getElem?_toList → jd
open Bool renaming and_eq_true → au, false_eq_true → eo, not_eq_true' → du
open Eq renaming trans → dB
open List renaming length_append → cm, getElem?_toArray → DJ, append_assoc → bO, getElem?_append_left → fW, getElem?_append_right → eU, nodup_cons → oS, mem_append → dD, mem_cons → cS, nodup_append → jh, take_append_drop → rj, drop_left → DF, length_set → mN, length → kJ, size_toArray → nF, take_left → DS, append_eq_nil_iff → DD, mem_cons_of_mem → fm, length_eq_zero_iff → kK
open List.cons renaming injEq → gC
open Nat renaming le_refl → cE, decEq → fo, beq → zJ
open Ne renaming symm → bu
open Option renaming bind_eq_some_iff → aq, bind_some → ar
open Option.some renaming injEq → aw
open Prod.mk renaming injEq → eN
open Sigma.mk renaming inj → jS
open UInt8 renaming ofNat → mS
/- Soundness, part 19: writing. -/
namespace Go.Fw
open Go Go.RowKit
theorem yJ:∀ (p:Path) (T:Ty) {x:den T} {y:TV},cB T=true→aH T p x=some y→cB y.1=true
 | [],T,x,y,hs,h=>by simp only [aH,aw] at h; subst h; exact hs
 | .l::p,.pair A C,x,y,hs,h=>by simp only [cB,au] at hs; simp only [aH] at h; exact yJ p A hs.1 h
 | .r::p,.pair A C,x,y,hs,h=>by simp only [cB,au] at hs; simp only [aH] at h; exact yJ p C hs.2 h
 | .ix i::p,.arr n T,x,y,hs,h=>by
   simp only [cB] at hs; simp only [aH] at h
   split at h
   ·exact yJ p T hs h
   ·simp at h
 | .l::_,.int _,_,_,_,h | .l::_,.bool,_,_,_,h | .l::_,.str,_,_,_,h | .l::_,.unit,_,_,_,h | .l::_,.sl _,_,_,_,h | .l::_,.arr _ _,_,_,_,h | .l::_,.fn _ _,_,_,_,h=>by simp [aH] at h
 | .r::_,.int _,_,_,_,h | .r::_,.bool,_,_,_,h | .r::_,.str,_,_,_,h | .r::_,.unit,_,_,_,h | .r::_,.sl _,_,_,_,h | .r::_,.arr _ _,_,_,_,h | .r::_,.fn _ _,_,_,_,h=>by simp [aH] at h
 | .ix _::_,.int _,_,_,_,h | .ix _::_,.bool,_,_,_,h | .ix _::_,.str,_,_,_,h | .ix _::_,.unit,_,_,_,h | .ix _::_,.sl _,_,_,_,h | .ix _::_,.pair _ _,_,_,_,h | .ix _::_,.fn _ _,_,_,_,h=>by simp [aH] at h
theorem fU:∀ (p:Path) (T:Ty) {x x1:den T} {T':Ty} {z:den T'},a6 T p x ⟨T',z⟩=some x1→∃ y:den T',aH T p x=some ⟨T',y⟩
 | [],T,x,x1,T',z,h=>by
   simp only [a6] at h
   have:=cL h; cases this
   exact ⟨x,by cases T<;>rfl⟩
 | .l::p,.pair A C,x,x1,T',z,h=>by
   simp only [a6,aq] at h; obtain ⟨u,h,_⟩:=h
   simp only [aH]; exact fU p A h
 | .r::p,.pair A C,x,x1,T',z,h=>by
   simp only [a6,aq] at h; obtain ⟨u,h,_⟩:=h
   simp only [aH]; exact fU p C h
 | .ix i::p,.arr n T,x,x1,T',z,h=>by
   simp only [a6] at h
   split at h
   ·rename_i hi
    simp only [aq] at h; obtain ⟨u,h,_⟩:=h
    simp only [aH]; rw [if_pos hi]; exact fU p T h
   ·simp at h
 | .l::_,.int _,_,_,_,_,h | .l::_,.bool,_,_,_,_,h | .l::_,.str,_,_,_,_,h | .l::_,.unit,_,_,_,_,h | .l::_,.sl _,_,_,_,_,h | .l::_,.arr _ _,_,_,_,_,h | .l::_,.fn _ _,_,_,_,_,h=>by simp [a6] at h
 | .r::_,.int _,_,_,_,_,h | .r::_,.bool,_,_,_,_,h | .r::_,.str,_,_,_,_,h | .r::_,.unit,_,_,_,_,h | .r::_,.sl _,_,_,_,_,h | .r::_,.arr _ _,_,_,_,_,h | .r::_,.fn _ _,_,_,_,_,h=>by simp [a6] at h
 | .ix _::_,.int _,_,_,_,_,h | .ix _::_,.bool,_,_,_,_,h | .ix _::_,.str,_,_,_,_,h | .ix _::_,.unit,_,_,_,_,h | .ix _::_,.sl _,_,_,_,_,h | .ix _::_,.pair _ _,_,_,_,_,h | .ix _::_,.fn _ _,_,_,_,_,h=>by simp [a6] at h
theorem oF {P:Program} {w:World} {G:Nat→Nat→Prop} {B:Nat} {o:ax} {T:Ty} {x:den T} {vs:List Value} {ob:OB} {p:Path} {T':Ty} {y:den T'} (hF:Flat P T w G B o x vs ob) (h:aH T p x=some ⟨T',y⟩):a8 T p+ay T'≤ay T:=by
 obtain ⟨v1,v2,v3,b1,b2,b3,e1,_,e3,e4,_⟩:=Flat.lens P p T hF h
 have h1:=Flat.len P T hF
 have h2:=Flat.len P T' e4
 rw [e1] at h1; simp only [cm] at h1; omega
theorem Q2 {U:Ty} (h:cA U=false):ay U=1:=by cases U<;>first | rfl | (simp [cA] at h; done)
theorem ze {P:Program} {w:World} {G:Nat→Nat→Prop} {B:Nat}:∀ (q p:Path) (T0:Ty) {o:ax} {x x1:den T0} {vs:List Value} {ob:OB} {T U:Ty} {z:den T} {xs:den U},cB U=false∧cA U=false→Flat P T0 w G B o x vs ob→cB T=true→
  a6 T0 p x ⟨T,z⟩=some x1→cC q=false→aH T0 q x=some ⟨U,xs⟩→aH T0 q x1=some ⟨U,xs⟩∧(a8 T0 q < a8 T0 p∨a8 T0 p+ay T≤a8 T0 q)
 | [],p,T0,o,x,x1,vs,ob,T,U,z,xs,hU,hF,hs,hset,_,hg=>by
   exfalso
   have:T0=U:=by
    simp only [aH,aw] at hg
    exact (jS hg).1
   subst this
   obtain ⟨y,hy⟩:=fU p _ hset
   cases p with
   | nil=>
     simp only [aH,aw] at hy
     have:=(jS hy).1
     subst this; rw [hU.1] at hs; cases hs
   | cons st p=>cases T0<;>simp [cA] at hU<;>cases st<;>simp [aH] at hy
 | .l::q,p,.pair A C,o,x,x1,vs,ob,T,U,z,xs,hU,hF,hs,hset,hq,hg=>by
   have hF':=hF
   unfold Flat at hF; obtain ⟨u1,u2,c1,c2,rfl,rfl,h1,h2⟩:=hF
   simp only [aH] at hg
   simp only [cC] at hq
   obtain ⟨y,hy⟩:=fU p _ hset
   match p,hset,hy with
   | [],hset,hy=>
     exfalso
     simp only [aH,aw] at hy
     have:=(jS hy).1
     subst this
     simp only [cB,au] at hs
     have:=yJ q A hs.1 hg
     simp [hU.1] at this
   | .l::p,hset,hy=>
     simp only [a6,aq,aw] at hset
     obtain ⟨u,hu,rfl⟩:=hset
     simp only [aH,a8]
     exact ze q p A hU h1 hs hu hq hg
   | .r::p,hset,hy=>
     simp only [a6,aq,aw] at hset
     obtain ⟨u,hu,rfl⟩:=hset
     simp only [aH,a8]
     refine ⟨hg,.inl ?_⟩
     have:=oF h1 hg
     have:=Q2 hU.2
     omega
   | .ix i::p,hset,hy=>simp [a6] at hset
 | .r::q,p,.pair A C,o,x,x1,vs,ob,T,U,z,xs,hU,hF,hs,hset,hq,hg=>by
   have hF':=hF
   unfold Flat at hF; obtain ⟨u1,u2,c1,c2,rfl,rfl,h1,h2⟩:=hF
   simp only [aH] at hg
   simp only [cC] at hq
   obtain ⟨y,hy⟩:=fU p _ hset
   match p,hset,hy with
   | [],hset,hy=>
     exfalso
     simp only [aH,aw] at hy
     have:=(jS hy).1
     subst this
     simp only [cB,au] at hs
     have:=yJ q C hs.2 hg
     simp [hU.1] at this
   | .r::p,hset,hy=>
     simp only [a6,aq,aw] at hset
     obtain ⟨u,hu,rfl⟩:=hset
     simp only [aH,a8]
     have:=ze q p C hU h2 hs hu hq hg
     exact ⟨this.1,by omega⟩
   | .l::p,hset,hy=>
     simp only [a6,aq,aw] at hset
     obtain ⟨u,hu,rfl⟩:=hset
     simp only [aH,a8] at hy ⊢
     refine ⟨hg,.inr ?_⟩
     have:=oF h1 hy
     omega
   | .ix i::p,hset,hy=>simp [a6] at hset
 | .ix i::q,p,T0,_,_,_,_,_,_,_,_,_,_,_,_,_,hq,_=>by simp [cC] at hq
 | .l::_,_,.int _,_,_,_,_,_,_,_,_,_,_,_,_,_,_,h | .l::_,_,.bool,_,_,_,_,_,_,_,_,_,_,_,_,_,_,h | .l::_,_,.str,_,_,_,_,_,_,_,_,_,_,_,_,_,_,h | .l::_,_,.unit,_,_,_,_,_,_,_,_,_,_,_,_,_,_,h | .l::_,_,.sl _,_,_,_,_,_,_,_,_,_,_,_,_,_,_,h | .l::_,_,.arr _ _,_,_,_,_,_,_,_,_,_,_,_,_,_,_,h | .l::_,_,.fn _ _,_,_,_,_,_,_,_,_,_,_,_,_,_,_,h=>by simp [aH] at h
 | .r::_,_,.int _,_,_,_,_,_,_,_,_,_,_,_,_,_,_,h | .r::_,_,.bool,_,_,_,_,_,_,_,_,_,_,_,_,_,_,h | .r::_,_,.str,_,_,_,_,_,_,_,_,_,_,_,_,_,_,h | .r::_,_,.unit,_,_,_,_,_,_,_,_,_,_,_,_,_,_,h | .r::_,_,.sl _,_,_,_,_,_,_,_,_,_,_,_,_,_,_,h | .r::_,_,.arr _ _,_,_,_,_,_,_,_,_,_,_,_,_,_,_,h | .r::_,_,.fn _ _,_,_,_,_,_,_,_,_,_,_,_,_,_,_,h=>by simp [aH] at h
theorem rq:∀ (q:Path) (o:ax),o.pure=true→(cd o q).pure=true
 | [],_,h=>h
 | .l::q,o,h=>rq q o.l (ax.tK h)
 | .r::q,o,h=>rq q o.r (ax.tL h)
 | .ix _::_,_,_=>rfl
theorem zf {P:Program} {w:World} {G:Nat→Nat→Prop} {B:Nat}:∀ (q p:Path) (T0:Ty) {o:ax} {x x1:den T0} {vs:List Value} {ob:OB} {T U:Ty} {z:den T} {xs:den U},cB U=false∧cA U=false→Flat P T0 w G B o x vs ob→(cd o p).pure=true→
  a6 T0 p x ⟨T,z⟩=some x1→(cd o q).pure=false→aH T0 q x=some ⟨U,xs⟩→aH T0 q x1=some ⟨U,xs⟩∧(a8 T0 q < a8 T0 p∨a8 T0 p+ay T≤a8 T0 q)
 | [],p,T0,o,x,x1,vs,ob,T,U,z,xs,hU,hF,hs,hset,hq,hg=>by
   exfalso
   have:T0=U:=by
    simp only [aH,aw] at hg
    exact (jS hg).1
   subst this
   obtain ⟨y,hy⟩:=fU p _ hset
   cases p with
   | nil=>
     simp only [cd] at hs hq
     rw [hq] at hs; cases hs
   | cons st p=>cases T0<;>simp [cA] at hU<;>cases st<;>simp [aH] at hy
 | .l::q,p,.pair A C,o,x,x1,vs,ob,T,U,z,xs,hU,hF,hs,hset,hq,hg=>by
   have hF':=hF
   unfold Flat at hF; obtain ⟨u1,u2,c1,c2,rfl,rfl,h1,h2⟩:=hF
   simp only [aH] at hg
   obtain ⟨y,hy⟩:=fU p _ hset
   match p,hset,hy with
   | [],hset,hy=>
     exfalso
     have:=rq (.l::q) o hs
     rw [hq] at this; cases this
   | .l::p,hset,hy=>
     simp only [a6,aq,aw] at hset
     obtain ⟨u,hu,rfl⟩:=hset
     simp only [aH,a8]
     exact zf q p A hU h1 hs hu hq hg
   | .r::p,hset,hy=>
     simp only [a6,aq,aw] at hset
     obtain ⟨u,hu,rfl⟩:=hset
     simp only [aH,a8]
     refine ⟨hg,.inl ?_⟩
     have:=oF h1 hg
     have:=Q2 hU.2
     omega
   | .ix i::p,hset,hy=>simp [a6] at hset
 | .r::q,p,.pair A C,o,x,x1,vs,ob,T,U,z,xs,hU,hF,hs,hset,hq,hg=>by
   have hF':=hF
   unfold Flat at hF; obtain ⟨u1,u2,c1,c2,rfl,rfl,h1,h2⟩:=hF
   simp only [aH] at hg
   obtain ⟨y,hy⟩:=fU p _ hset
   match p,hset,hy with
   | [],hset,hy=>
     exfalso
     have:=rq (.r::q) o hs
     rw [hq] at this; cases this
   | .r::p,hset,hy=>
     simp only [a6,aq,aw] at hset
     obtain ⟨u,hu,rfl⟩:=hset
     simp only [aH,a8]
     have:=zf q p C hU h2 hs hu hq hg
     exact ⟨this.1,by omega⟩
   | .l::p,hset,hy=>
     simp only [a6,aq,aw] at hset
     obtain ⟨u,hu,rfl⟩:=hset
     simp only [aH,a8] at hy ⊢
     refine ⟨hg,.inr ?_⟩
     have:=oF h1 hy
     omega
   | .ix i::p,hset,hy=>simp [a6] at hset
 | .ix i::q,p,T0,_,_,_,_,_,_,_,_,_,_,_,_,_,hq,_=>by simp [cd,ax.pure] at hq
 | .l::_,_,.int _,_,_,_,_,_,_,_,_,_,_,_,_,_,_,h | .l::_,_,.bool,_,_,_,_,_,_,_,_,_,_,_,_,_,_,h | .l::_,_,.str,_,_,_,_,_,_,_,_,_,_,_,_,_,_,h | .l::_,_,.unit,_,_,_,_,_,_,_,_,_,_,_,_,_,_,h | .l::_,_,.sl _,_,_,_,_,_,_,_,_,_,_,_,_,_,_,h | .l::_,_,.arr _ _,_,_,_,_,_,_,_,_,_,_,_,_,_,_,h | .l::_,_,.fn _ _,_,_,_,_,_,_,_,_,_,_,_,_,_,_,h=>by simp [aH] at h
 | .r::_,_,.int _,_,_,_,_,_,_,_,_,_,_,_,_,_,_,h | .r::_,_,.bool,_,_,_,_,_,_,_,_,_,_,_,_,_,_,h | .r::_,_,.str,_,_,_,_,_,_,_,_,_,_,_,_,_,_,h | .r::_,_,.unit,_,_,_,_,_,_,_,_,_,_,_,_,_,_,h | .r::_,_,.sl _,_,_,_,_,_,_,_,_,_,_,_,_,_,_,h | .r::_,_,.arr _ _,_,_,_,_,_,_,_,_,_,_,_,_,_,_,h | .r::_,_,.fn _ _,_,_,_,_,_,_,_,_,_,_,_,_,_,_,h=>by simp [aH] at h
theorem uA:∀ (p:Path) (o:ax),cC p=true→(cd o p).pure=true
 | [],_,h=>by simp [cC] at h
 | .l::p,o,h=>by simp only [cC] at h; exact uA p o.l h
 | .r::p,o,h=>by simp only [cC] at h; exact uA p o.r h
 | .ix _::_,_,_=>rfl
theorem Flat.tO {P:Program} {w:World} {G:Nat→Nat→Prop} {B:Nat}:∀ (p:Path) (T:Ty) {o:ax} {x y:den T} {vs:List Value} {ob:OB} {z:TV},aH T p y=some z→Flat P T w G B (fa o p (cd o p)) x vs ob→Flat P T w G B o x vs ob
 | [],_,_,_,_,_,_,_,_,h=>h
 | .ix _::_,_,_,_,_,_,_,_,_,h=>h
 | .l::p,.pair A C,o,x,y,vs,ob,z,hg,h=>by
   simp only [aH] at hg
   unfold Flat at h ⊢
   obtain ⟨v1,v2,b1,b2,e1,e2,h1,h2⟩:=h
   exact ⟨v1,v2,b1,b2,e1,e2,Flat.tO p A hg h1,h2⟩
 | .r::p,.pair A C,o,x,y,vs,ob,z,hg,h=>by
   simp only [aH] at hg
   unfold Flat at h ⊢
   obtain ⟨v1,v2,b1,b2,e1,e2,h1,h2⟩:=h
   exact ⟨v1,v2,b1,b2,e1,e2,h1,Flat.tO p C hg h2⟩
 | .l::_,.int _,_,_,_,_,_,_,h,_ | .l::_,.bool,_,_,_,_,_,_,h,_ | .l::_,.str,_,_,_,_,_,_,h,_ | .l::_,.unit,_,_,_,_,_,_,h,_ | .l::_,.sl _,_,_,_,_,_,_,h,_ | .l::_,.arr _ _,_,_,_,_,_,_,h,_ | .l::_,.fn _ _,_,_,_,_,_,_,h,_=>by simp [aH] at h
 | .r::_,.int _,_,_,_,_,_,_,h,_ | .r::_,.bool,_,_,_,_,_,_,h,_ | .r::_,.str,_,_,_,_,_,_,h,_ | .r::_,.unit,_,_,_,_,_,_,h,_ | .r::_,.sl _,_,_,_,_,_,_,h,_ | .r::_,.arr _ _,_,_,_,_,_,_,h,_ | .r::_,.fn _ _,_,_,_,_,_,_,h,_=>by simp [aH] at h
section
variable {P:Program} {B:Nat} {G0:Nat→Nat→Prop} {W0:dc} {n:Nat} {env:Env} {tm:Array Value} {a:Act} {w:World} {ob:Nat→OB} {cl:az}
variable {R:Type} {K:cM R} {r:R} {next:Act→World→Prop} {Q:Exit→Act→World→Prop} {o:Oper} {i:AI}
theorem Below.setRow {b:Nat} (hb:B≤b) (cs:Array Value):Below B w (w.setRow b cs):=
 ⟨rfl,rfl,rfl,by simp,fun k hk=>setRow_other w b k cs (by omega),cE _⟩
theorem ah.zn (hC:ah P B G0 W0 n env tm w ob) {s b:Nat} (hb:(b,0)∈ob s) (cs:Array Value) {e:E} (hhome:eL w tm env (w.setRow b cs) tm ((s,e)::env) s)
  (hnew:bn P (w.setRow b cs) (Gd B G0 ob) B tm ((s,e)::env) e (tm.getD s undef) (ob s)):ah P B G0 W0 n ((s,e)::env) tm (w.setRow b cs) ob:=by
 have hlow:=hC.low s b (aE.2 ⟨_,hb⟩)
 refine ah.step hC ⟨fun k b hb=>.inl ⟨k,hb⟩,fun b' _ hn=>setRow_other w b b' cs (by rintro rfl; exact hn s (aE.2 ⟨_,hb⟩))⟩ (Below.setRow hlow.1 cs) (fun b' i _ h=>⟨h,?_⟩) (fun j=>?_) hC.dist hC.nodup (fun k b' hb'=>by rw [setRow_size]; exact hC.low k b' hb') hC.size (fun _ _=>rfl)
 ·refine cell_setRow_other w b cs _ ?_
  rintro rfl
  rcases h with ⟨h,_⟩ | ⟨_,_,h⟩
  ·exact absurd h (by have:=hlow.1; simp at this ⊢; omega)
  ·exact absurd (h s 0 hb) (by simp)
 ·by_cases hj:j=s
  ·subst hj; right; rw [aP,if_pos rfl]; exact hnew
  ·left
   rw [aP,if_neg (bu hj)]
   refine ⟨rfl,rfl,rfl,fun g hg=>setRow_other w b g cs ?_,fun t ht=>?_⟩
   ·rintro rfl; exact hj (hC.dist j s _ hg (aE.2 ⟨_,hb⟩))
   ·by_cases hts:t=s
    ·subst hts; exact hhome
    ·refine eL.same (P:=P) (by rw [aP,if_neg (bu hts)]) rfl (hC.rep t) (fun g hg=>setRow_other w b g cs ?_)
     rintro rfl; exact hts (hC.dist t s _ hg (aE.2 ⟨_,hb⟩))
theorem zl {v1 v2 v3 u:List Value} (h:u.length=v2.length):(v1++v2++v3).take v1.length++u++(v1++v2++v3).drop (v1.length+u.length)=v1++u++v3:=by
 rw [h]; simp [List.drop_append]
theorem alT (hC:ah P B G0 W0 n env tm w ob) {s:Nat} {T0 T:Ty} {oa:ax} {x0 x1:den T0} {p:Path} {z:den T} {vs:List Value} (hs:look env s=.loc T0 oa x0) (hsc:cB T=true) (hset:a6 T0 p x0 ⟨T,z⟩=some x1)
  (hz:Flat P T w (fun _ _=>True) B .no z vs []):∃ b cur e,tm.getD s undef=.pointer (some ⟨b,0,none⟩)∧w.heap[b]?=some (.cells cur e (0,0))∧a8 T0 p+vs.length≤cur.size∧
   ah P B G0 W0 n ((s,.loc T0 oa x1)::env) tm (w.setRow b (cur.toList.take (a8 T0 p)++vs++cur.toList.drop (a8 T0 p+vs.length)).toArray) ob:=by
 obtain ⟨y,hy⟩:=fU p T0 hset
 obtain ⟨b,cur,e,v1,v2,v3,b1,b2,b3,k1,k2,k3,k4,k5,k6,k7,k8⟩:=kY (a:=⟨tm,[]⟩) hC hs hy
 have hlv:vs.length=v2.length:=by rw [Flat.len P T hz,Flat.len P T k7]
 obtain ⟨hb2,_⟩:=Flat.eZ P T hsc k7
 subst hb2
 have hz':Flat P T w (Gd B G0 ob) B (cd oa p) z vs []:=(Flat.eZ P T hsc hz).2 _ _ _ _
 have hnew:=k8 _ z vs [] x1 (fun h=>uA p oa h) hz' hset
 have hnew:=Flat.tO p T0 hy hnew
 have hcs:(cur.toList.take (a8 T0 p)++vs++cur.toList.drop (a8 T0 p+vs.length))=v1++vs++v3:=by
  rw [k4,←k5]; exact zl hlv
 have hb0:(b,0)∈ob s:=by rw [k6]; simp
 refine ⟨b,cur,e,k1,k2,?_,?_⟩
 ·have:cur.size=cur.toList.length:=by simp
  rw [this,k4,←k5,hlv]; simp
 ·rw [hcs]
  have hr:=hC.rep s
  rw [hs] at hr
  obtain ⟨b',cur',e',ob',l1,l2,l3,l4,l5⟩:=hr
  rw [show tm.getD s undef=_ from k1] at l1; cases l1
  rw [k2] at l3; cases l3
  have hmap:∀ (q:Path) (v:Value),eP env s q=true→bj w tm env s q=some v→eP ((s,.loc T0 oa x1)::env) s q=true∧bj (w.setRow b (v1++vs++v3).toArray) tm ((s,.loc T0 oa x1)::env) s q=some v:=by
   intro q v hq hv
   simp only [bj,hs,k1] at hv
   simp only [eP,hs] at hq
   split at hq
   ·rename_i K V xs ha hg
    have hk:=ze q p T0 ⟨rfl,rfl⟩ l4 hsc hset (by cases hx:cC q with | false=>rfl | true=>have:=uA q oa hx; rw [ha] at this; cases this) hg
    have hle:=oF l4 hg
    refine ⟨by simp only [eP]; rw [aP,if_pos rfl]; simp only [ha,hk.1],?_⟩
    simp only [bj]; rw [aP,if_pos rfl]; simp only [k1]
    rw [cell_setRow_same w b _ cur _ e (0,0) k2,←hv,cell_of_row w b _ cur e (0,0) k2]
    have hcur:∀ j,cur[j]?=(v1++v2++v3)[j]?:=fun j=>by rw [←jd,k4]
    rw [hcur]
    simp only [DJ]
    rcases hk.2 with hlt | hge
    ·rw [←k5] at hlt
     rw [bO,fW hlt,bO,fW hlt]
    ·rw [←k5] at hge
     have hl2:=Flat.len P T hz
     rw [bO,eU (by omega),eU (by omega),bO,eU (by omega),eU (by omega),hlv]
   ·simp at hq
  refine ah.zn hC hb0 _ ⟨fun q v hq hv=>?_,fun q h hq=>?_,fun T o x hx=>?_,hmap⟩ ?_
  ·simp only [bj,hs,k1] at hv
   simp only [bj]; rw [aP,if_pos rfl]; simp only [k1]
   simp only [bc,hs] at hq
   split at hq
   ·rename_i wr ed o' T' xs ha hg
    have hk:=ze q p T0 ⟨rfl,rfl⟩ l4 hsc hset (nL q oa ha) hg
    have hle:=oF l4 hg
    rw [cell_setRow_same w b _ cur _ e (0,0) k2,←hv,cell_of_row w b _ cur e (0,0) k2]
    have hcur:∀ j,cur[j]?=(v1++v2++v3)[j]?:=fun j=>by rw [←jd,k4]
    rw [hcur]
    simp only [DJ]
    rcases hk.2 with hlt | hge
    ·rw [←k5] at hlt
     rw [bO,fW hlt,bO,fW hlt]
    ·rw [←k5] at hge
     have hl2:=Flat.len P T hz
     rw [bO,eU (by omega),eU (by omega),bO,eU (by omega),eU (by omega),hlv]
   ·simp at hq
  ·simp only [bc,hs] at hq
   simp only [bc]; rw [aP,if_pos rfl]
   simp only
   split at hq
   ·rename_i wr ed o' T' xs ha hg
    simp only [aw] at hq; subst hq
    have hk:=ze q p T0 ⟨rfl,rfl⟩ l4 hsc hset (nL q oa ha) hg
    exact ⟨_,by rw [ha,hk.1],rfl,rfl⟩
   ·simp at hq
  ·rw [hs] at hx; cases hx
   exact ⟨_,_,by rw [aP,if_pos rfl],rfl⟩
  ·refine ⟨b,_,e,b1++[]++b3,k1,k3,setRow_heap w b cur _ e (0,0) k2,?_,k6⟩
   have hnd:=hC.nodup s
   rw [k6] at hnd
   simp only [jU,oS] at hnd
   refine Flat.mono P T0 (fun b' i hb' h=>⟨h,?_⟩) ⟨by simp,fun k hk=>setRow_other w b k _ (by omega)⟩ (fun g hg=>setRow_other w b g _ ?_) hnew
   ·refine cell_setRow_other w b _ _ ?_
    rintro rfl
    rcases h with ⟨h,_⟩ | ⟨_,_,h⟩
    ·exact absurd h (by simp; omega)
    ·exact absurd (h s 0 hb0) (by simp)
   ·rintro rfl; exact hnd.1 hg
theorem WM (hC:ah P B G0 W0 n env tm w ob) {s:Nat} {T0 T:Ty} {oa:ax} {x0 x1:den T0} {p:Path} {z:den T} {vs:List Value} (hs:look env s=.loc T0 oa x0) (hsc:(cd oa p).pure=true) (hset:a6 T0 p x0 ⟨T,z⟩=some x1)
  (hz:Flat P T w (Gd B G0 ob) B .no z vs []):∃ b cur e,tm.getD s undef=.pointer (some ⟨b,0,none⟩)∧w.heap[b]?=some (.cells cur e (0,0))∧a8 T0 p+vs.length≤cur.size∧
   ah P B G0 W0 n ((s,.loc T0 oa x1)::env) tm (w.setRow b (cur.toList.take (a8 T0 p)++vs++cur.toList.drop (a8 T0 p+vs.length)).toArray) ob:=by
 obtain ⟨y,hy⟩:=fU p T0 hset
 obtain ⟨b,cur,e,v1,v2,v3,b1,b2,b3,k1,k2,k3,k4,k5,k6,k7,k8⟩:=kY (a:=⟨tm,[]⟩) hC hs hy
 have hlv:vs.length=v2.length:=by rw [Flat.len P T hz,Flat.len P T k7]
 have hb2:=(Flat.pure P T hsc (o':=.no) rfl k7).1
 subst hb2
 have hz':Flat P T w (Gd B G0 ob) B (cd oa p) z vs []:=(Flat.pure P T (o:=.no) rfl hsc hz).2
 have hnew:=k8 _ z vs [] x1 (fun h=>uA p oa h) hz' hset
 have hnew:=Flat.tO p T0 hy hnew
 have hcs:(cur.toList.take (a8 T0 p)++vs++cur.toList.drop (a8 T0 p+vs.length))=v1++vs++v3:=by
  rw [k4,←k5]; exact zl hlv
 have hb0:(b,0)∈ob s:=by rw [k6]; simp
 refine ⟨b,cur,e,k1,k2,?_,?_⟩
 ·have:cur.size=cur.toList.length:=by simp
  rw [this,k4,←k5,hlv]; simp
 ·rw [hcs]
  have hr:=hC.rep s
  rw [hs] at hr
  obtain ⟨b',cur',e',ob',l1,l2,l3,l4,l5⟩:=hr
  rw [show tm.getD s undef=_ from k1] at l1; cases l1
  rw [k2] at l3; cases l3
  have hmap:∀ (q:Path) (v:Value),eP env s q=true→bj w tm env s q=some v→eP ((s,.loc T0 oa x1)::env) s q=true∧bj (w.setRow b (v1++vs++v3).toArray) tm ((s,.loc T0 oa x1)::env) s q=some v:=by
   intro q v hq hv
   simp only [bj,hs,k1] at hv
   simp only [eP,hs] at hq
   split at hq
   ·rename_i K V xs ha hg
    have hk:=zf q p T0 ⟨rfl,rfl⟩ l4 hsc hset (by rw [ha]; rfl) hg
    have hle:=oF l4 hg
    refine ⟨by simp only [eP]; rw [aP,if_pos rfl]; simp only [ha,hk.1],?_⟩
    simp only [bj]; rw [aP,if_pos rfl]; simp only [k1]
    rw [cell_setRow_same w b _ cur _ e (0,0) k2,←hv,cell_of_row w b _ cur e (0,0) k2]
    have hcur:∀ j,cur[j]?=(v1++v2++v3)[j]?:=fun j=>by rw [←jd,k4]
    rw [hcur]
    simp only [DJ]
    rcases hk.2 with hlt | hge
    ·rw [←k5] at hlt
     rw [bO,fW hlt,bO,fW hlt]
    ·rw [←k5] at hge
     have hl2:=Flat.len P T hz
     rw [bO,eU (by omega),eU (by omega),bO,eU (by omega),eU (by omega),hlv]
   ·simp at hq
  refine ah.zn hC hb0 _ ⟨fun q v hq hv=>?_,fun q h hq=>?_,fun T o x hx=>?_,hmap⟩ ?_
  ·simp only [bj,hs,k1] at hv
   simp only [bj]; rw [aP,if_pos rfl]; simp only [k1]
   simp only [bc,hs] at hq
   split at hq
   ·rename_i wr ed o' T' xs ha hg
    have hk:=zf q p T0 ⟨rfl,rfl⟩ l4 hsc hset (by rw [ha]; rfl) hg
    have hle:=oF l4 hg
    rw [cell_setRow_same w b _ cur _ e (0,0) k2,←hv,cell_of_row w b _ cur e (0,0) k2]
    have hcur:∀ j,cur[j]?=(v1++v2++v3)[j]?:=fun j=>by rw [←jd,k4]
    rw [hcur]
    simp only [DJ]
    rcases hk.2 with hlt | hge
    ·rw [←k5] at hlt
     rw [bO,fW hlt,bO,fW hlt]
    ·rw [←k5] at hge
     have hl2:=Flat.len P T hz
     rw [bO,eU (by omega),eU (by omega),bO,eU (by omega),eU (by omega),hlv]
   ·simp at hq
  ·simp only [bc,hs] at hq
   simp only [bc]; rw [aP,if_pos rfl]
   simp only
   split at hq
   ·rename_i wr ed o' T' xs ha hg
    simp only [aw] at hq; subst hq
    have hk:=zf q p T0 ⟨rfl,rfl⟩ l4 hsc hset (by rw [ha]; rfl) hg
    exact ⟨_,by rw [ha,hk.1],rfl,rfl⟩
   ·simp at hq
  ·rw [hs] at hx; cases hx
   exact ⟨_,_,by rw [aP,if_pos rfl],rfl⟩
  ·refine ⟨b,_,e,b1++[]++b3,k1,k3,setRow_heap w b cur _ e (0,0) k2,?_,k6⟩
   have hnd:=hC.nodup s
   rw [k6] at hnd
   simp only [jU,oS] at hnd
   refine Flat.mono P T0 (fun b' i hb' h=>⟨h,?_⟩) ⟨by simp,fun k hk=>setRow_other w b k _ (by omega)⟩ (fun g hg=>setRow_other w b g _ ?_) hnew
   ·refine cell_setRow_other w b _ _ ?_
    rintro rfl
    rcases h with ⟨h,_⟩ | ⟨_,_,h⟩
    ·exact absurd h (by simp; omega)
    ·exact absurd (h s 0 hb0) (by simp)
   ·rintro rfl; exact hnd.1 hg
def mA (ob:Nat→OB) (s:Nat) (k:Option Nat) (bs:OB) (j:Nat):OB:=if j=s then bs else if k=some j then [] else ob j
theorem K7 (s:Nat) (k:Option Nat) (bs:OB):mA ob s k bs s=bs:=by simp [mA]
theorem K6 {s:Nat} {k:Option Nat} {j:Nat} (bs:OB) (h:j≠s) (hk:k=some j):mA ob s k bs j=[]:=by simp [mA,h,hk]
theorem yU {s:Nat} {k:Option Nat} {j:Nat} (bs:OB) (h:j≠s) (hk:k≠some j):mA ob s k bs j=ob j:=by simp [mA,h,hk]
theorem Dy (hC:ah P B G0 W0 n env tm w ob) {s:Nat} {T0 T:Ty} {oa o2:ax} {x0 x1:den T0} {p:Path} {z:den T} {vs:List Value} {k:Option Nat} {c:OB} {env1:Env} (hs:look env s=.loc T0 oa x0) (hset:a6 T0 p x0 ⟨T,z⟩=some x1)
  (hks:∀ j,k=some j→j≠s) (hc:c=match k with | some j=>ob j | none=> []) (hix:cC p=true→o2.pure=true) (hz:Flat P T w (Gd B G0 ob) B o2 z vs c)
  (hl:∀ j,j≠s→(k=some j∧look env1 j=.ref s p∧vs=[tm.getD j undef]∧(bc ((s,.loc T0 (fa oa p o2) x1)::env1) s p).isSome=true)∨
   (k≠some j∧((look env1 j=.dead∧∃ t,leads t (look env j)=true)∨(look env1 j=look env j∧eS s (look env j)=false∧∀ t,k=some t→leads t (look env j)=false)))):
  ∃ b cur e,tm.getD s undef=.pointer (some ⟨b,0,none⟩)∧w.heap[b]?=some (.cells cur e (0,0))∧a8 T0 p+vs.length≤cur.size∧
    ∃ ob',ah P B G0 W0 n ((s,.loc T0 (fa oa p o2) x1)::env1) tm (w.setRow b (cur.toList.take (a8 T0 p)++vs++cur.toList.drop (a8 T0 p+vs.length)).toArray) ob':=by
 obtain ⟨y,hy⟩:=fU p T0 hset
 obtain ⟨b,cur,e,v1,v2,v3,b1,b2,b3,k1,k2,k3,k4,k5,k6,k7,k8⟩:=kY (a:=⟨tm,[]⟩) hC hs hy
 have hlv:vs.length=v2.length:=by rw [Flat.len P T hz,Flat.len P T k7]
 have hnew:=k8 _ z vs c x1 hix hz hset
 have hcs:(cur.toList.take (a8 T0 p)++vs++cur.toList.drop (a8 T0 p+vs.length))=v1++vs++v3:=by
  rw [k4,←k5]; exact zl hlv
 have hb0:(b,0)∈ob s:=by rw [k6]; simp
 refine ⟨b,cur,e,k1,k2,?_,?_⟩
 ·have:cur.size=cur.toList.length:=by simp
  rw [this,k4,←k5,hlv]; simp
 rw [hcs]
 -- the records
 have hck:∀ q,q∈c→∃ t,k=some t∧t≠s∧q∈ob t:=by
  intro q hq
  cases k with
  | none=>rw [hc] at hq; exact absurd hq (by simp)
  | some t=>rw [hc] at hq; exact ⟨t,rfl,hks t rfl,hq⟩
 have hcd:∀ x,x∈blocks c→∃ t,k=some t∧t≠s∧x∈blocks (ob t):=by
  intro x hx
  obtain ⟨l,hx⟩:=aE.1 hx
  obtain ⟨t,h1,h2,h3⟩:=hck _ hx
  exact ⟨t,h1,h2,aE.2 ⟨l,h3⟩⟩
 have hnd:=hC.nodup s
 rw [k6] at hnd
 simp only [jU,eW,oS] at hnd
 have hcn:(blocks c).Nodup:=by
  cases k with
  | none=>rw [hc]; simp
  | some t=>rw [hc]; exact hC.nodup t
 have hcs':∀ x,x∈blocks c→x∉blocks (ob s):=by
  intro x hx hx'
  obtain ⟨t,_,h2,h3⟩:=hcd x hx
  exact h2 (hC.dist t s x h3 hx')
 have hbn:b∉blocks (b1++c++b3):=by
  intro h
  simp only [eW,dD] at h hnd
  rcases h with (h | h) | h
  ·exact hnd.1 (.inl (.inl h))
  ·exact hcs' b h (aE.2 ⟨0,hb0⟩)
  ·exact hnd.1 (.inr h)
 have from_:∀ j q,q∈mA ob s k ((b,0)::(b1++c++b3)) j→(j=s∧(q∈ob s∨q∈c))∨(j≠s∧k≠some j∧q∈ob j):=by
  intro j q hq
  by_cases h:j=s
  ·subst h
   rw [K7] at hq
   refine .inl ⟨rfl,?_⟩
   simp only [cS,dD] at hq
   rw [k6]
   simp only [cS,dD]
   rcases hq with h | (h | h) | h
   ·exact .inl (.inl h)
   ·exact .inl (.inr (.inl (.inl h)))
   ·exact .inr h
   ·exact .inl (.inr (.inr h))
  ·by_cases h2:k=some j
   ·rw [K6 _ h h2] at hq; exact absurd hq (by simp)
   ·rw [yU _ h h2] at hq; exact .inr ⟨h,h2,hq⟩
 have src:∀ j q,q∈mA ob s k ((b,0)::(b1++c++b3)) j→∃ j',q∈ob j'∧((j=s∧(j'=s∨k=some j'))∨(j≠s∧k≠some j∧j'=j)):=by
  intro j q hq
  rcases from_ j q hq with ⟨h1,h2 | h2⟩ | ⟨h1,h2,h3⟩
  ·exact ⟨s,h2,.inl ⟨h1,.inl rfl⟩⟩
  ·obtain ⟨t,h3,_,h4⟩:=hck q h2
   exact ⟨t,h4,.inl ⟨h1,.inr h3⟩⟩
  ·exact ⟨j,h3,.inr ⟨h1,h2,rfl⟩⟩
 have hGd:∀ b' i,Gd B G0 ob b' i→Gd B G0 (mA ob s k ((b,0)::(b1++c++b3))) b' i:=fun b' i h=>
  oP (fun j x lim hj=>by obtain ⟨j',h1,_⟩:=src j _ hj; exact ⟨j',lim,h1,cE _⟩) h
 have hcell:∀ b' i,Gd B G0 ob b' i→(w.setRow b (v1++vs++v3).toArray).cell? ⟨b',i,none⟩=w.cell? ⟨b',i,none⟩:=by
  intro b' i h
  refine cell_setRow_other w b _ _ ?_
  rintro rfl
  rcases h with ⟨h,_⟩ | ⟨_,_,h⟩
  ·exact absurd h (by simp; omega)
  ·exact absurd (h s 0 hb0) (by simp)
 refine ⟨mA ob s k ((b,0)::(b1++c++b3)),ah.step hC ⟨fun j x hx=>(by obtain ⟨l,hx⟩:=aE.1 hx; obtain ⟨j',h1,_⟩:=src j _ hx; exact .inl ⟨j',aE.2 ⟨_,h1⟩⟩),fun b' _ hn=>setRow_other w b b' _ (by rintro rfl; exact hn s (aE.2 ⟨_,hb0⟩))⟩ (Below.setRow k3 _) (fun b' i _ h=>⟨hGd b' i h,hcell b' i h⟩) (fun j=>?_) ?_ ?_ ?_ hC.size (fun _ _=>rfl)⟩
 ·by_cases hj:j=s
  ·subst hj
   right
   rw [aP,if_pos rfl,K7]
   refine ⟨b,_,e,b1++c++b3,k1,k3,setRow_heap w b cur _ e (0,0) k2,?_,rfl⟩
   refine Flat.mono P T0 (fun b' i _ h=>⟨hGd b' i h,hcell b' i h⟩) ⟨by simp,fun t ht=>setRow_other w b t _ (by omega)⟩ (fun g hg=>setRow_other w b g _ ?_) hnew
   rintro rfl; exact hbn hg
  ·rcases hl j hj with ⟨h1,h2,h3,h4⟩ | ⟨h1,⟨h2,t,h3⟩ | ⟨h2,h3,h4⟩⟩
   ·right
    rw [aP,if_neg (bu hj),h2,K6 _ hj h1]
    refine ⟨rfl,?_,.inl h4⟩
    simp only [bj]; rw [aP,if_pos rfl]; simp only [k1]
    rw [cell_setRow_same w b _ cur _ e (0,0) k2,h3,←k5]
    simp
   ·right
    rw [aP,if_neg (bu hj),h2,yU _ hj h1]
    exact (bn.leads h3 (hC.rep j)).2
   ·have hbj:∀ g∈blocks (ob j),(w.setRow b (v1++vs++v3).toArray).heap[g]?=w.heap[g]?:=by
     intro g hg
     refine setRow_other w b g _ ?_
     rintro rfl; exact hj (hC.dist j s _ hg (aE.2 ⟨_,hb0⟩))
    by_cases hld:leads s (look env j)=true
    ·right
     rw [aP,if_neg (bu hj),h2,yU _ hj h1]
     have hr:=hC.rep j
     cases hej:look env j with
     | ptr s' q=>
       rw [hej] at hr hld
       simp only [leads,beq_iff_eq] at hld; subst hld
       obtain ⟨m0,T',o',x',b',m1,m2,m3,m4⟩:=hr
       rw [hs] at m1; cases m1
       exact ⟨m0,T0,_,_,b',by rw [aP,if_pos rfl],m2,m3,m4⟩
     | _=>
       rw [hej] at hld h3
       exact absurd (h3.symm.trans hld) (by simp)
    ·left
     rw [aP,if_neg (bu hj),yU _ hj h1]
     refine ⟨h2,rfl,rfl,hbj,fun t ht=>?_⟩
     have hts:t≠s:=by rintro rfl; exact hld ht
     have hhome:=(bn.leads ht (hC.rep j)).1
     have htk:k≠some t:=by intro h; rw [h4 t h] at ht; exact absurd ht (by simp)
     refine eL.same (P:=P) ?_ rfl (hC.rep t) (fun g hg=>setRow_other w b g _ ?_)
     ·rw [aP,if_neg (bu hts)]
      rcases hl t hts with ⟨m1,_⟩ | ⟨_,⟨_,t',m3⟩ | ⟨m2,_⟩⟩
      ·exact absurd m1 htk
      ·rw [qE hhome] at m3; exact absurd m3 (by simp)
      ·exact m2
     ·rintro rfl; exact hts (hC.dist t s _ hg (aE.2 ⟨_,hb0⟩))
 ·intro i j x hi hj
  obtain ⟨l1,hi⟩:=aE.1 hi
  obtain ⟨l2,hj⟩:=aE.1 hj
  obtain ⟨i',h1,h2⟩:=src i _ hi
  obtain ⟨j',h3,h4⟩:=src j _ hj
  have:=hC.dist i' j' x (aE.2 ⟨_,h1⟩) (aE.2 ⟨_,h3⟩)
  subst this
  rcases h2 with ⟨rfl,h2⟩ | ⟨h2,h5,rfl⟩<;>rcases h4 with ⟨rfl,h4⟩ | ⟨h4,h6,rfl⟩
  ·rfl
  ·rcases h2 with h2 | h2
   ·exact h2.symm
   ·exact absurd h2 h6
  ·rcases h4 with h4 | h4
   ·exact h4
   ·exact absurd h4 h5
  ·rfl
 ·intro j
  by_cases h:j=s
  ·subst h
   rw [K7]
   simp only [jU,oS]
   refine ⟨hbn,?_⟩
   simp only [eW]
   obtain ⟨h1,h2⟩:=hnd
   rw [jh] at h2 ⊢
   obtain ⟨h3,h4,h5⟩:=h2
   rw [jh] at h3 ⊢
   refine ⟨⟨h3.1,hcn,fun x hx y hy hxy=>?_⟩,h4,fun x hx y hy hxy=>?_⟩
   ·subst hxy
    refine hcs' x hy ?_
    rw [k6]; simp only [jU,eW,cS,dD]; exact .inr (.inl (.inl hx))
   ·subst hxy
    rcases dD.1 hx with hx | hx
    ·exact h5 x (List.mem_append_left _ hx) x hy rfl
    ·refine hcs' x hx ?_
     rw [k6]; simp only [jU,eW,cS,dD]; exact .inr (.inr hy)
  ·by_cases h2:k=some j
   ·rw [K6 _ h h2]; simp
   ·rw [yU _ h h2]; exact hC.nodup j
 ·intro j x hx
  obtain ⟨l,hx⟩:=aE.1 hx
  obtain ⟨j',h1,_⟩:=src j _ hx
  rw [setRow_size]
  exact hC.low j' x (aE.2 ⟨_,h1⟩)
theorem Ln:∀ (p:Path) (T:Ty) {x x1:den T} {T':Ty} {z:den T'},cC p=false→a6 T p x ⟨T',z⟩=some x1→aH T p x1=some ⟨T',z⟩
 | [],T,x,x1,T',z,_,h=>by
   simp only [a6] at h
   have:=cL h; cases this
   cases T<;>rfl
 | .l::p,.pair A C,x,x1,T',z,hp,h=>by
   simp only [a6,aq,aw] at h; obtain ⟨u,h,rfl⟩:=h
   simp only [aH]; exact Ln p A hp h
 | .r::p,.pair A C,x,x1,T',z,hp,h=>by
   simp only [a6,aq,aw] at h; obtain ⟨u,h,rfl⟩:=h
   simp only [aH]; exact Ln p C hp h
 | .ix _::_,_,_,_,_,_,hp,_=>by simp [cC] at hp
 | .l::_,.int _,_,_,_,_,_,h | .l::_,.bool,_,_,_,_,_,h | .l::_,.str,_,_,_,_,_,h | .l::_,.unit,_,_,_,_,_,h | .l::_,.sl _,_,_,_,_,_,h | .l::_,.arr _ _,_,_,_,_,_,h | .l::_,.fn _ _,_,_,_,_,_,h=>by simp [a6] at h
 | .r::_,.int _,_,_,_,_,_,h | .r::_,.bool,_,_,_,_,_,h | .r::_,.str,_,_,_,_,_,h | .r::_,.unit,_,_,_,_,_,h | .r::_,.sl _,_,_,_,_,_,h | .r::_,.arr _ _,_,_,_,_,_,h | .r::_,.fn _ _,_,_,_,_,_,h=>by simp [a6] at h
theorem D0:∀ (p:Path) (o b:ax),cC p=false→cd (fa o p b) p=b
 | [],_,_,_=>rfl
 | .l::p,o,b,h=>D0 p o.l b h
 | .r::p,o,b,h=>D0 p o.r b h
 | .ix _::_,_,_,h=>by simp [cC] at h
theorem atk {x:Od} {env':Env} {T:Ty} {z:den T} (h:dZ env x=some (env',⟨T,z⟩)) (hs:cB T=true):env'=env:=by
 unfold dZ at h
 simp only [aq,aw,eN] at h
 obtain ⟨y,h1,h2,rfl⟩:=h
 unfold cZ at h1
 split at h1
 ·rename_i T' x' he
  rw [he] at h2; exact h2.symm
 ·split at h1
  ·simp only [aw] at h1; cases h1; simp [cB] at hs
  ·simp at h1
 ·simp only [aq] at h1
  obtain ⟨hh,_,h1⟩:=h1
  split at h1
  ·simp only [aw] at h1; cases h1; simp [cB] at hs
  ·simp at h1
 ·simp at h1
theorem alR (hC:ah P B G0 W0 n env tm w ob) {s:Nat} {e:TypeId} {T0 T:Ty} {oa:ax} {xs:List (den T0)} {j:Nat} {q:Path} {z:den T} {u:den T0} {vs:List Value} (hs:look env s=.own true e T0 oa xs) (ho:oa.pure=true) (hj:j < xs.length)
  (hset:a6 T0 q (xs.getD j (zero T0)) ⟨T,z⟩=some u) (hz:Flat P T w (Gd B G0 ob) B .no z vs []):
  ∃ g cap cur e' fz,tm.getD s undef=.slice (some ⟨g,0,none⟩) xs.length cap∧w.heap[g]?=some (.cells cur e' fz)∧pF fz cur.size∧(j * ay T0+a8 T0 q)+vs.length≤cur.size∧
    ah P B G0 W0 n ((s,.own true e T0 oa (xs.set j u))::env) tm (w.setRow g (cur.toList.take (j * ay T0+a8 T0 q)++vs++cur.toList.drop ((j * ay T0+a8 T0 q)+vs.length)).toArray) ob:=by
 have hr:=hC.rep s
 rw [hs] at hr
 change Flat P (.sl T0) w (Gd B G0 ob) B (.own true e oa) xs [tm.getD s undef] (ob s) at hr
 unfold Flat at hr
 obtain ⟨v',cells,ob',e1,hrow,hel,hob⟩:=hr
 simp only [gC,and_true] at e1
 subst e1
 obtain ⟨hobn,hel0⟩:=aL.pure P (o':=.no) ho rfl hel
 subst hobn
 have hrow':=hrow
 rcases hrow.2 with ⟨_,hn⟩ | ⟨g,cap,cur,e1,fz,hv,hBg,hg,hnc,hcm,hcs,htake,hbf,hfz⟩
 ·omega
 have hg0:(g,0)∈ob s:=by rw [hob,hv]; simp [bN,Value.ownBlock]
 obtain ⟨y,hy⟩:=fU q T0 hset
 obtain ⟨v1,v2,v3,c1,c2,c3,f1,f2,f3,f4,f5⟩:=aL.split (fun x v b hx=>Flat.len P _ hx) j (zero T0) hel0 hj
 obtain ⟨u1,u2,u3,d1,d2,d3,g1,g2,g3,g4,g5⟩:=Flat.lens P q T0 f4 hy
 have hlv:vs.length=u2.length:=by rw [Flat.len P T hz,Flat.len P T g4]
 have hc:c1=[]∧c2=[]∧c3=[]:=by
  have:c1++c2++c3=[]:=f2.symm
  simp at this; exact ⟨this.1,this.2.1,this.2.2⟩
 obtain ⟨rfl,rfl,rfl⟩:=hc
 have hd:d1=[]∧d2=[]∧d3=[]:=by
  have:d1++d2++d3=[]:=g2.symm
  simp at this; exact ⟨this.1,this.2.1,this.2.2⟩
 obtain ⟨rfl,rfl,rfl⟩:=hd
 have hnew:=f5 u (u1++vs++u3) [] (by
  have:=g5 .no z vs [] u (fun _=>rfl) hz hset
  exact (Flat.pure P T0 (qV q .no .no rfl rfl) (o':=.no) rfl this).2)
 have hcur:cur.toList=(v1++u1)++u2++(u3++v3++cur.toList.drop (xs.length * ay T0)):=by
  rw [←rj (xs.length * ay T0) cur.toList,htake,f1,g1]
  have:(v1++(u1++u2++u3)++v3).length=xs.length * ay T0:=by rw [←g1,←f1]; exact hrow.1
  have h2:(v1++(u1++u2++u3)++v3++cur.toList.drop (xs.length * ay T0)).drop (xs.length * ay T0)=cur.toList.drop (xs.length * ay T0):=by
   rw [←this,DF]
  rw [h2]
  simp only [bO]
 have hoff:(v1++u1).length=j * ay T0+a8 T0 q:=by rw [cm,f3,g3]
 have hcs2:(cur.toList.take (j * ay T0+a8 T0 q)++vs++cur.toList.drop ((j * ay T0+a8 T0 q)+vs.length))=(v1++u1)++vs++(u3++v3++cur.toList.drop (xs.length * ay T0)):=by
  rw [←hoff]
  have:=zl (v1:=v1++u1) (v3:=u3++v3++cur.toList.drop (xs.length * ay T0)) hlv
  rw [←hcur] at this
  exact this
 refine ⟨g,cap,cur,e1,fz,hv,hg,hfz,?_,?_⟩
 ·have:cur.size=cur.toList.length:=by simp
  rw [this,hcur,←hoff,hlv]; simp only [cm]; omega
 rw [hcs2]
 have hlow:=hC.low s g (aE.2 ⟨_,hg0⟩)
 refine ah.zn hC hg0 _ ⟨fun q v hq hv=>?_,fun q h hq=>?_,fun T o x hx=>?_,fun q v hm _=>by simp [eP,hs] at hm⟩ ?_
 ·simp only [bj,hs] at hv
  simp only [bj]; rw [aP,if_pos rfl]; exact hv
 ·simp only [bc,hs] at hq
  simp only [bc]; rw [aP,if_pos rfl]
  cases q with
  | nil=>simp only [aw] at hq; subst hq; exact ⟨_,rfl,rfl,by simp⟩
  | cons=>exact absurd hq (by simp)
 ·rw [hs] at hx; exact absurd hx (by simp)
 ·have hcell:∀ b' i,Gd B G0 ob b' i→(w.setRow g ((v1++u1)++vs++(u3++v3++cur.toList.drop (xs.length * ay T0))).toArray).cell? ⟨b',i,none⟩=w.cell? ⟨b',i,none⟩:=by
   intro b' i h
   refine cell_setRow_other w g _ _ ?_
   rintro rfl
   rcases h with ⟨h,_⟩ | ⟨_,_,h⟩
   ·exact absurd h (by simp; omega)
   ·exact absurd (h s 0 hg0) (by simp)
  have hlen2:(v1++(u1++vs++u3)++v3).length=xs.length * ay T0:=by
   have h1:cells.length=xs.length * ay T0:=hrow.1
   rw [f1,g1] at h1
   simp only [cm] at h1 ⊢
   omega
  show Flat P (.sl T0) _ (Gd B G0 ob) B (.own true e oa) (xs.set j u) [tm.getD s undef] (ob s)
  unfold Flat
  refine ⟨_,v1++(u1++vs++u3)++v3,[],rfl,⟨by rw [mN]; exact hlen2,.inr ⟨g,cap,_,e1,fz,by rw [mN]; exact hv,hBg,setRow_heap w g cur _ e1 fz hg,by rw [mN]; exact hnc,hcm,?_,?_,hbf,?_⟩⟩,?_,?_⟩
  ·rw [←hcs]
   have h1:cur.size=cur.toList.length:=by simp
   have h2:=congrArg kJ hcur
   rw [h1,h2]
   simp only [nF,cm]; omega
  ·simp only [mN]
   have h1:(v1++u1)++vs++(u3++v3++cur.toList.drop (xs.length * ay T0))=(v1++(u1++vs++u3)++v3)++cur.toList.drop (xs.length * ay T0):=by simp only [bO]
   rw [h1,←hlen2]
   simp only [DS]
  ·have hz1:cur.size=cur.toList.length:=by simp
   have hz2:=congrArg kJ hcur
   rcases hfz with h | h
   ·exact .inl h
   ·right; simp only [nF,cm] at hz2 ⊢; omega
  ·exact aL.imp (fun x v b hb hx=>by
    have:b=[]:=by cases b with | nil=>rfl | cons q r=>exact absurd (hb q (by simp)) (by simp)
    subst this
    have hx2:Flat P T0 (w.setRow g ((v1++u1)++vs++(u3++v3++cur.toList.drop (xs.length * ay T0))).toArray) (Gd B G0 ob) B .no x v []:=Flat.mono P T0 (fun b' i _ h=>⟨h,hcell b' i h⟩) ⟨by simp,fun t ht=>setRow_other w g t _ (by omega)⟩ (by simp) hx
    exact (Flat.pure P T0 (o:=.no) rfl ho hx2).2) (by simpa using hnew)
  ·rw [hob]; simp
end
end Go.Fw
/- Soundness: an element of a slice that a variable's part holds is written. -/
namespace Go.Fw
open Go Go.RowKit
theorem Flat.C6 (P:Program):∀ (p:Path) (T:Ty) {w:World} {G:Nat→Nat→Prop} {B:Nat} {o:ax} {x:den T} {vs:List Value} {ob:OB} {T':Ty} {y:den T'},cC p=false→Flat P T w G B o x vs ob→aH T p x=some ⟨T',y⟩→
  ∃ v1 v2 v3 b1 b2 b3,vs=v1++v2++v3∧ob=b1++b2++b3∧v1.length=a8 T p∧Flat P T' w G B (cd o p) y v2 b2∧
    ∀ (w':World) (o2:ax) (y2:den T') (u:List Value) (c:OB) (x2:den T),(∀ b i,b < w.heap.size→G b i→G b i∧w'.cell? ⟨b,i,none⟩=w.cell? ⟨b,i,none⟩)→bV B w w'→(∀ g,g∈blocks b1∨g∈blocks b3→w'.heap[g]?=w.heap[g]?)→
      Flat P T' w' G B o2 y2 u c→a6 T p x ⟨T',y2⟩=some x2→Flat P T w' G B (fa o p o2) x2 (v1++u++v3) (b1++c++b3)
 | [],T,w,G,B,o,x,vs,ob,T',y,_,hF,h=>by
   simp only [aH,aw] at h
   obtain ⟨rfl,h⟩:=jS h
   rw [eq_of_heq h] at hF
   refine ⟨[],vs,[],[],ob,[],by simp,by simp,by cases T<;>rfl,hF,?_⟩
   intro w' o2 y2 u c x2 _ _ _ hy hs
   have hs':bg T ⟨T,y2⟩=some x2:=by cases T<;>exact hs
   rw [BK,aw] at hs'
   subst hs'
   simpa [fa] using hy
 | .l::p,.pair A C,w,G,B,o,x,vs,ob,T',y,hp,hF,h=>by
   unfold Flat at hF; obtain ⟨u1,u2,c1,c2,rfl,rfl,h1,h2⟩:=hF
   simp only [aH] at h
   obtain ⟨v1,v2,v3,b1,b2,b3,rfl,rfl,hl,hF2,hset⟩:=Flat.C6 P p A hp h1 h
   refine ⟨v1,v2,v3++u2,b1,b2,b3++c2,by simp,by simp,hl,hF2,?_⟩
   intro w' o2 y2 u c x2 hG hL hO hy hs
   simp only [a6,aq,aw] at hs
   obtain ⟨z,hz,rfl⟩:=hs
   unfold Flat
   refine ⟨v1++u++v3,u2,b1++c++b3,c2,by simp,by simp,hset w' o2 y2 u c z hG hL (fun g hg=>hO g ?_) hy hz,Flat.mono P C hG hL (fun g hg=>hO g (by simp [hg])) h2⟩
   rcases hg with hg | hg
   ·exact .inl hg
   ·exact .inr (by simp [hg])
 | .r::p,.pair A C,w,G,B,o,x,vs,ob,T',y,hp,hF,h=>by
   have hlen:∀ {vs ob},Flat P A w G B o.l x.1 vs ob→vs.length=ay A:=fun h=>Flat.len P A h
   unfold Flat at hF; obtain ⟨u1,u2,c1,c2,rfl,rfl,h1,h2⟩:=hF
   simp only [aH] at h
   obtain ⟨v1,v2,v3,b1,b2,b3,rfl,rfl,hl,hF2,hset⟩:=Flat.C6 P p C hp h2 h
   refine ⟨u1++v1,v2,v3,c1++b1,b2,b3,by simp,by simp,by rw [cm,hlen h1,hl]; rfl,hF2,?_⟩
   intro w' o2 y2 u c x2 hG hL hO hy hs
   simp only [a6,aq,aw] at hs
   obtain ⟨z,hz,rfl⟩:=hs
   unfold Flat
   refine ⟨u1,v1++u++v3,c1,b1++c++b3,by simp,by simp,Flat.mono P A hG hL (fun g hg=>hO g (by simp [hg])) h1,hset w' o2 y2 u c z hG hL (fun g hg=>hO g ?_) hy hz⟩
   rcases hg with hg | hg
   ·exact .inl (by simp [hg])
   ·exact .inr hg
 | .ix _::_,_,_,_,_,_,_,_,_,_,_,hp,_,_=>by simp [cC] at hp
 | .l::_,.int _,_,_,_,_,_,_,_,_,_,_,_,h | .l::_,.bool,_,_,_,_,_,_,_,_,_,_,_,h | .l::_,.str,_,_,_,_,_,_,_,_,_,_,_,h | .l::_,.unit,_,_,_,_,_,_,_,_,_,_,_,h | .l::_,.sl _,_,_,_,_,_,_,_,_,_,_,_,h | .l::_,.arr _ _,_,_,_,_,_,_,_,_,_,_,_,h | .l::_,.fn _ _,_,_,_,_,_,_,_,_,_,_,_,h=>by simp [aH] at h
 | .r::_,.int _,_,_,_,_,_,_,_,_,_,_,_,h | .r::_,.bool,_,_,_,_,_,_,_,_,_,_,_,h | .r::_,.str,_,_,_,_,_,_,_,_,_,_,_,h | .r::_,.unit,_,_,_,_,_,_,_,_,_,_,_,h | .r::_,.sl _,_,_,_,_,_,_,_,_,_,_,_,h | .r::_,.arr _ _,_,_,_,_,_,_,_,_,_,_,_,h | .r::_,.fn _ _,_,_,_,_,_,_,_,_,_,_,_,h=>by simp [aH] at h
theorem Kw:∀ (q p:Path) (T0:Ty) {x x1:den T0} {T1 T':Ty} {xs ys:List (den T1)} {zs:List (den T')},cC q=false→aH T0 p x=some ⟨.sl T1,xs⟩→a6 T0 p x ⟨.sl T1,ys⟩=some x1→ys.length=xs.length→aH T0 q x=some ⟨.sl T',zs⟩→
  ∃ zs':List (den T'),aH T0 q x1=some ⟨.sl T',zs'⟩∧zs'.length=zs.length
 | [],p,T0,x,x1,T1,T',xs,ys,zs,_,hp,hs,hl,hq=>by
   have:T0=.sl T':=by
    simp only [aH,aw] at hq
    exact (jS hq).1
   subst this
   cases p with
   | nil=>
     simp only [aH,aw] at hp hq
     obtain ⟨h1,h2⟩:=jS hp
     cases h1
     obtain ⟨_,h3⟩:=jS hq
     have e1:=eq_of_heq h2; have e2:=eq_of_heq h3
     have hs':bg (.sl T1) ⟨.sl T1,ys⟩=some x1:=hs
     rw [BK,aw] at hs'
     subst hs'
     exact ⟨ys,rfl,by rw [hl,←e1,←e2]⟩
   | cons st p=>cases st<;>simp [aH] at hp
 | .l::q,p,.pair A C,x,x1,T1,T',xs,ys,zs,hix,hp,hs,hl,hq=>by
   simp only [aH] at hq
   simp only [cC] at hix
   match p,hp,hs with
   | [],hp,_=>exact absurd (jS (by simpa only [aH,aw] using hp)).1 (by simp)
   | .l::p,hp,hs=>
     simp only [a6,aq,aw] at hs
     obtain ⟨u,hu,rfl⟩:=hs
     simp only [aH] at hp ⊢
     exact Kw q p A hix hp hu hl hq
   | .r::p,hp,hs=>
     simp only [a6,aq,aw] at hs
     obtain ⟨u,hu,rfl⟩:=hs
     simp only [aH]
     exact ⟨zs,hq,rfl⟩
   | .ix i::p,hp,hs=>simp [a6] at hs
 | .r::q,p,.pair A C,x,x1,T1,T',xs,ys,zs,hix,hp,hs,hl,hq=>by
   simp only [aH] at hq
   simp only [cC] at hix
   match p,hp,hs with
   | [],hp,_=>exact absurd (jS (by simpa only [aH,aw] using hp)).1 (by simp)
   | .r::p,hp,hs=>
     simp only [a6,aq,aw] at hs
     obtain ⟨u,hu,rfl⟩:=hs
     simp only [aH] at hp ⊢
     exact Kw q p C hix hp hu hl hq
   | .l::p,hp,hs=>
     simp only [a6,aq,aw] at hs
     obtain ⟨u,hu,rfl⟩:=hs
     simp only [aH]
     exact ⟨zs,hq,rfl⟩
   | .ix i::p,hp,hs=>simp [a6] at hs
 | .ix _::_,_,_,_,_,_,_,_,_,_,hix,_,_,_,_=>by simp [cC] at hix
 | .l::_,_,.int _,_,_,_,_,_,_,_,_,_,_,_,h | .l::_,_,.bool,_,_,_,_,_,_,_,_,_,_,_,h | .l::_,_,.str,_,_,_,_,_,_,_,_,_,_,_,h | .l::_,_,.unit,_,_,_,_,_,_,_,_,_,_,_,h | .l::_,_,.sl _,_,_,_,_,_,_,_,_,_,_,_,h | .l::_,_,.arr _ _,_,_,_,_,_,_,_,_,_,_,_,h | .l::_,_,.fn _ _,_,_,_,_,_,_,_,_,_,_,_,h=>by simp [aH] at h
 | .r::_,_,.int _,_,_,_,_,_,_,_,_,_,_,_,h | .r::_,_,.bool,_,_,_,_,_,_,_,_,_,_,_,h | .r::_,_,.str,_,_,_,_,_,_,_,_,_,_,_,h | .r::_,_,.unit,_,_,_,_,_,_,_,_,_,_,_,h | .r::_,_,.sl _,_,_,_,_,_,_,_,_,_,_,_,h | .r::_,_,.arr _ _,_,_,_,_,_,_,_,_,_,_,_,h | .r::_,_,.fn _ _,_,_,_,_,_,_,_,_,_,_,_,h=>by simp [aH] at h
section
variable {P:Program} {B:Nat} {G0:Nat→Nat→Prop} {W0:dc} {n:Nat} {env:Env} {tm:Array Value} {a:Act} {w:World} {ob:Nat→OB} {cl:az}
theorem akp {G:Nat→Nat→Prop} {e:TypeId} {T0 T:Ty} {oa:ax} {xs:List (den T0)} {j:Nat} {q:Path} {z:den T} {u:den T0} {vs:List Value} {v:Value} {obv:OB} (hr:Flat P (.sl T0) w G B (.own true e oa) xs [v] obv) (ho:oa.pure=true) (hj:j < xs.length)
  (hset:a6 T0 q (xs.getD j (zero T0)) ⟨T,z⟩=some u) (hz:Flat P T w G B .no z vs []) (hno:∀ g i,(g,0)∈obv→¬ G g i):
  ∃ g cap cur e' fz,v=.slice (some ⟨g,0,none⟩) xs.length cap∧obv=[(g,0)]∧w.heap[g]?=some (.cells cur e' fz)∧pF fz cur.size∧(j * ay T0+a8 T0 q)+vs.length≤cur.size∧
    Flat P (.sl T0) (w.setRow g (cur.toList.take (j * ay T0+a8 T0 q)++vs++cur.toList.drop ((j * ay T0+a8 T0 q)+vs.length)).toArray) G B (.own true e oa) (xs.set j u) [v] obv:=by
 unfold Flat at hr
 obtain ⟨v',cells,ob',e1,hrow,hel,hob⟩:=hr
 simp only [gC,and_true] at e1
 subst e1
 obtain ⟨hobn,hel0⟩:=aL.pure P (o':=.no) ho rfl hel
 subst hobn
 have hrow':=hrow
 rcases hrow.2 with ⟨_,hn⟩ | ⟨g,cap,cur,e1,fz,hv,hBg,hg,hnc,hcm,hcs,htake,hbf,hfz⟩
 ·omega
 have hob2:obv=[(g,0)]:=by rw [hob,hv]; simp [bN,Value.ownBlock]
 have hg0:(g,0)∈obv:=by rw [hob2]; simp
 obtain ⟨y,hy⟩:=fU q T0 hset
 obtain ⟨v1,v2,v3,c1,c2,c3,f1,f2,f3,f4,f5⟩:=aL.split (fun x v b hx=>Flat.len P _ hx) j (zero T0) hel0 hj
 obtain ⟨u1,u2,u3,d1,d2,d3,g1,g2,g3,g4,g5⟩:=Flat.lens P q T0 f4 hy
 have hlv:vs.length=u2.length:=by rw [Flat.len P T hz,Flat.len P T g4]
 have hc:c1=[]∧c2=[]∧c3=[]:=by
  have:c1++c2++c3=[]:=f2.symm
  simp at this; exact ⟨this.1,this.2.1,this.2.2⟩
 obtain ⟨rfl,rfl,rfl⟩:=hc
 have hd:d1=[]∧d2=[]∧d3=[]:=by
  have:d1++d2++d3=[]:=g2.symm
  simp at this; exact ⟨this.1,this.2.1,this.2.2⟩
 obtain ⟨rfl,rfl,rfl⟩:=hd
 have hnew:=f5 u (u1++vs++u3) [] (by
  have:=g5 .no z vs [] u (fun _=>rfl) hz hset
  exact (Flat.pure P T0 (qV q .no .no rfl rfl) (o':=.no) rfl this).2)
 have hcur:cur.toList=(v1++u1)++u2++(u3++v3++cur.toList.drop (xs.length * ay T0)):=by
  rw [←rj (xs.length * ay T0) cur.toList,htake,f1,g1]
  have:(v1++(u1++u2++u3)++v3).length=xs.length * ay T0:=by rw [←g1,←f1]; exact hrow.1
  have h2:(v1++(u1++u2++u3)++v3++cur.toList.drop (xs.length * ay T0)).drop (xs.length * ay T0)=cur.toList.drop (xs.length * ay T0):=by
   rw [←this,DF]
  rw [h2]
  simp only [bO]
 have hoff:(v1++u1).length=j * ay T0+a8 T0 q:=by rw [cm,f3,g3]
 have hcs2:(cur.toList.take (j * ay T0+a8 T0 q)++vs++cur.toList.drop ((j * ay T0+a8 T0 q)+vs.length))=(v1++u1)++vs++(u3++v3++cur.toList.drop (xs.length * ay T0)):=by
  rw [←hoff]
  have:=zl (v1:=v1++u1) (v3:=u3++v3++cur.toList.drop (xs.length * ay T0)) hlv
  rw [←hcur] at this
  exact this
 refine ⟨g,cap,cur,e1,fz,hv,hob2,hg,hfz,?_,?_⟩
 ·have:cur.size=cur.toList.length:=by simp
  rw [this,hcur,←hoff,hlv]; simp only [cm]; omega
 rw [hcs2]
 have hcell:∀ b' i,G b' i→(w.setRow g ((v1++u1)++vs++(u3++v3++cur.toList.drop (xs.length * ay T0))).toArray).cell? ⟨b',i,none⟩=w.cell? ⟨b',i,none⟩:=by
  intro b' i h
  refine cell_setRow_other w g _ _ ?_
  rintro rfl
  exact hno _ _ hg0 h
 have hlen2:(v1++(u1++vs++u3)++v3).length=xs.length * ay T0:=by
  have h1:cells.length=xs.length * ay T0:=hrow.1
  rw [f1,g1] at h1
  simp only [cm] at h1 ⊢
  omega
 show Flat P (.sl T0) _ G B (.own true e oa) (xs.set j u) [v] obv
 unfold Flat
 refine ⟨_,v1++(u1++vs++u3)++v3,[],rfl,⟨by rw [mN]; exact hlen2,.inr ⟨g,cap,_,e1,fz,by rw [mN]; exact hv,hBg,setRow_heap w g cur _ e1 fz hg,by rw [mN]; exact hnc,hcm,?_,?_,hbf,?_⟩⟩,?_,?_⟩
 ·rw [←hcs]
  have h1:cur.size=cur.toList.length:=by simp
  have h2:=congrArg kJ hcur
  rw [h1,h2]
  simp only [nF,cm]; omega
 ·simp only [mN]
  have h1:(v1++u1)++vs++(u3++v3++cur.toList.drop (xs.length * ay T0))=(v1++(u1++vs++u3)++v3)++cur.toList.drop (xs.length * ay T0):=by simp only [bO]
  rw [h1,←hlen2]
  simp only [DS]
 ·have hz1:cur.size=cur.toList.length:=by simp
  have hz2:=congrArg kJ hcur
  rcases hfz with h | h
  ·exact .inl h
  ·right; simp only [nF,cm] at hz2 ⊢; omega
 ·exact aL.imp (fun x v b hb hx=>by
   have:b=[]:=by cases b with | nil=>rfl | cons q r=>exact absurd (hb q (by simp)) (by simp)
   subst this
   have hx2:Flat P T0 (w.setRow g ((v1++u1)++vs++(u3++v3++cur.toList.drop (xs.length * ay T0))).toArray) G B .no x v []:=Flat.mono P T0 (fun b' i _ h=>⟨h,hcell b' i h⟩) ⟨by simp,fun t ht=>setRow_other w g t _ (by omega)⟩ (by simp) hx
   exact (Flat.pure P T0 (o:=.no) rfl ho hx2).2) (by simpa using hnew)
 ·rw [hob]; simp
theorem alS (hC:ah P B G0 W0 n env tm w ob) {s:Nat} {e:TypeId} {T0 T1 T:Ty} {oa o':ax} {x0 x1:den T0} {p:Path} {xs:List (den T1)} {j:Nat} {q:Path} {z:den T} {u:den T1} {vs:List Value} (hs:look env s=.loc T0 oa x0) (ha:cd oa p=.own true e o')
  (hg:aH T0 p x0=some ⟨.sl T1,xs⟩) (ho:o'.pure=true) (hj:j < xs.length) (hset:a6 T1 q (xs.getD j (zero T1)) ⟨T,z⟩=some u) (hset2:a6 T0 p x0 ⟨.sl T1,xs.set j u⟩=some x1) (hz:Flat P T w (Gd B G0 ob) B .no z vs []):
  ∃ g cap cur e' fz,bj w tm env s p=some (.slice (some ⟨g,0,none⟩) xs.length cap)∧w.heap[g]?=some (.cells cur e' fz)∧pF fz cur.size∧(j * ay T1+a8 T1 q)+vs.length≤cur.size∧
    ah P B G0 W0 n ((s,.loc T0 oa x1)::env) tm (w.setRow g (cur.toList.take (j * ay T1+a8 T1 q)++vs++cur.toList.drop ((j * ay T1+a8 T1 q)+vs.length)).toArray) ob:=by
 have hix:cC p=false:=nL p oa ha
 have hr:=hC.rep s
 rw [hs] at hr
 obtain ⟨b,cur,e0,ob',k1,k2,k3,k4,k5⟩:=hr
 obtain ⟨v1,v2,v3,b1,b2,b3,e1,e2,e3,e4,e5⟩:=Flat.C6 P p T0 hix k4 hg
 rw [ha] at e4
 obtain ⟨v,rfl⟩:∃ v,v2=[v]:=by
  have:=Flat.len P _ e4
  cases v2 with
  | nil=>simp [ay] at this
  | cons v r=>cases r with | nil=>exact ⟨v,rfl⟩ | cons=>simp [ay] at this
 have hsub:∀ q,q∈b2→q∈ob s:=fun q hq=>by rw [k5,e2]; simp [hq]
 obtain ⟨g,cap,curg,e',fz,r1,r2,r3,rf,r4,r5⟩:=akp e4 ho hj hset hz (fun g i hg hG=>by
  have h0:=hsub _ hg
  have hlow:=hC.low s g (aE.2 ⟨_,h0⟩)
  rcases hG with ⟨h,_⟩ | ⟨_,_,h⟩
  ·omega
  ·exact absurd (h s 0 h0) (by simp))
 have hg0:(g,0)∈ob s:=hsub _ (by rw [r2]; simp)
 have hlow:=hC.low s g (aE.2 ⟨_,hg0⟩)
 have hnd:=hC.nodup s
 rw [k5,e2,r2] at hnd
 simp only [jU,eW,Ml,oS,jh,dD,cS] at hnd
 have hbg:b≠g:=fun h=>hnd.1 (.inl (.inr (.inl h)))
 have hcellb:w.cell? ⟨b,a8 T0 p,none⟩=some v:=by
  rw [cell_of_row w b _ cur e0 (0,0) k3,←jd,e1,←e3]
  simp
 have hhead:bj w tm env s p=some (.slice (some ⟨g,0,none⟩) xs.length cap):=by
  simp only [bj,hs,k1,hcellb,r1]
 refine ⟨g,cap,curg,e',fz,hhead,r3,rf,r4,?_⟩
 refine ah.zn hC hg0 _ ⟨fun q' v' hq hv=>?_,fun q' h hq=>?_,fun T o x hx=>?_,fun q' v' hm hv=>⟨VD (x1:=x1) hs (by rw [aP,if_pos rfl]) hm,?_⟩⟩ ?_
 ·simp only [bj,hs,k1] at hv
  simp only [bj]; rw [aP,if_pos rfl]; simp only [k1]
  rw [cell_setRow_other w g _ _ (by exact hbg)]; exact hv
 ·simp only [bc,hs] at hq
  simp only [bc]; rw [aP,if_pos rfl]
  simp only
  split at hq
  ·rename_i wr ed o2 T' zs ha2 hg2
   simp only [aw] at hq; subst hq
   obtain ⟨zs',h1,h2⟩:=Kw q' p T0 (nL q' oa ha2) hg hset2 (by simp) hg2
   exact ⟨⟨wr,ed,T',o2,zs'⟩,by rw [ha2,h1],rfl,h2⟩
  ·simp at hq
 ·rw [hs] at hx; cases hx
  exact ⟨_,_,by rw [aP,if_pos rfl],rfl⟩
 ·simp only [bj,hs,k1] at hv
  simp only [bj]; rw [aP,if_pos rfl]; simp only [k1]
  rw [cell_setRow_other w g _ _ (by exact hbg)]; exact hv
 ·refine ⟨b,cur,e0,ob',k1,k2,by rw [setRow_other w g b _ hbg]; exact k3,?_,k5⟩
  have hnew:=e5 (w.setRow g (curg.toList.take (j * ay T1+a8 T1 q)++vs++curg.toList.drop ((j * ay T1+a8 T1 q)+vs.length)).toArray) (.own true e o') (xs.set j u) [v] b2 x1 (fun b' i _ h=>⟨h,?_⟩) ⟨by simp,fun t ht=>setRow_other w g t _ (by omega)⟩ (fun t ht=>setRow_other w g t _ ?_) r5 hset2
  ·rw [←ha] at hnew
   rw [e1,e2]
   exact Flat.tO p T0 hg hnew
  ·refine cell_setRow_other w g _ _ ?_
   intro hbb
   replace hbb:b'=g:=hbb
   rcases h with ⟨h,_⟩ | ⟨_,_,h⟩
   ·omega
   ·rw [hbb] at h; exact absurd (h s 0 hg0) (by simp)
  ·rintro rfl
   rcases ht with ht | ht
   ·exact hnd.2.1.2.2 _ ht _ (by simp) rfl
   ·exact hnd.2.2.2 _ (.inr (by simp)) _ ht rfl
end
end Go.Fw
/- Soundness, part 20: store. -/
namespace Go.Fw
open Go Go.RowKit
section
variable {P:Program} {B:Nat} {G0:Nat→Nat→Prop} {W0:dc} {n:Nat} {env:Env} {tm:Array Value} {a:Act} {w:World} {ob:Nat→OB} {cl:az}
variable {R:Type} {K:cM R} {r:R} {next:Act→World→Prop} {Q:Exit→Act→World→Prop} {o:Oper} {i:AI}
theorem ahL {y:Od} {env':Env} {z:TV} (h:dZ env y=some (env',z)) {s:Nat} {e:TypeId} {T:Ty} {oa:ax} {xs:List (den T)} (hs:look env' s=.own true e T oa xs):look env s=.own true e T oa xs:=by
 unfold dZ at h
 simp only [aq,aw,eN] at h
 obtain ⟨_,_,h2,_⟩:=h
 split at h2
 ·rename_i s' _
  subst h2
  rcases Fz.freeze env s' s with h3 | ⟨wr,ed,T',o',xs',_,h3⟩ | ⟨T',o',x',_,h3⟩
  ·rw [←h3]; exact hs
  ·rw [h3] at hs; cases hs
  ·rw [h3] at hs; cases hs
 ·rw [h2]; exact hs
theorem run_store {t:TypeId} {T:Ty} {x y:Operand} (ho:o.op=.store t x y) (hT:bH P t T) {g off:Nat} {e:TypeId} {fz:Nat×Nat} {cur:Array Value} {vs:List Value} (hx:a.eval x=.pointer (some ⟨g,off,none⟩)) (hy:a.eval y=bh T vs)
  (hg:w.heap[g]?=some (.cells cur e fz)) (hfz:pF fz cur.size) (hl:vs.length=ay T) (h1:∀ u∈vs,u.oneCell'=true) (hfit:off+vs.length≤cur.size):
  (execOp a.eval o).run P w=.ok .skip (w.setRow g (cur.toList.take off++vs++cur.toList.drop (off+vs.length)).toArray):=by
 have:=akE hT w hg hfz hl h1 hfit
 simp [execOp,ho,hx,hy,Instr.storeAt,Instr.sureAddr,this]
theorem lg (hdn:o.dst=none) {w':World} (hrun:(execOp a.eval o).run P w=.ok .skip w') (h:next a w'):o.wp P a w next Q:=by
 refine asL hrun ?_
 rw [hdn]; exact h
theorem aeW (s k j:Nat) (env:Env):look (jC s (kill k env)) j=if leads k (look env j)=true then .dead else if eS s (look env j)=true then .dead else look env j:=by
 rw [tD,oA]
 by_cases h:leads k (look env j)=true
 ·rw [if_pos h,if_pos h]; rfl
 ·rw [if_neg h,if_neg h]
theorem VY {T:Ty} {G:Nat→Nat→Prop} {wr:Bool} {e:TypeId} {oa:ax} {xs:List (den T)} {vs:List Value} {b:OB} (h:Flat P (.sl T) w G B (.own wr e oa) xs vs b):∀ u∈vs,u.oneCell'=true:=by
 unfold Flat at h
 obtain ⟨v,cells,ob',rfl,h2,_⟩:=h
 rcases h2.2 with h | ⟨g,cap,cur,_,_,rfl,_⟩
 ·rw [h.1]; simp [Value.oneCell']
 ·simp [Value.oneCell']
theorem Lj {y:Od} {env':Env} {z:TV} (h:dZ env y=some (env',z)):Fz env env':=by
 unfold dZ at h
 simp only [aq,aw,eN] at h
 obtain ⟨_,_,h2,_⟩:=h
 split at h2
 ·subst h2; exact Fz.freeze _ _
 ·rw [h2]; exact Fz.refl _
theorem C5 {s:Nat} {e:E} (h:eS s e=true):leads s e=true:=by
 cases e<;>first | exact h | (exfalso; simp [eS] at h; done)
theorem alK {t:TypeId} {T:Ty} {x xv:Operand} {y yv:Od} (hC:ah P B G0 W0 n env a.tmps w ob) (hK:bE P B G0 W0 n a K r next) (hdn:o.dst=none)
  (ho:o.op=.store t x xv) (hi:i.op=.store T y yv) (hT:bH P t T) (hx:aF x y=true) (hv:aF xv yv=true) (h:step cl i env K=some r):o.wp P a w next Q:=by
 unfold step at h; rw [hi] at h; simp only at h
 have hr:=fr hC hx
 split at h
 ·rename_i s p j q he
  rw [he] at hr
  split at h
  ·rename_i e T0 oa xs hs
   split at h
   ·simp only [aq] at h
    obtain ⟨⟨env',zz⟩,hp,z,hz,h⟩:=h
    split at h
    case isFalse=>simp at h
    rename_i hj
    simp only [aq] at h
    obtain ⟨u,hu,_,hown,h⟩:=h
    split at h
    case isFalse=>simp at h
    rename_i hpure
    have:=cL hz; cases this
    obtain ⟨ob',hf,hC',vs,hvs,hF⟩:=la hC hv hp
    have hs':look env' s=.own true e T0 oa xs:=by
     split at hown
     ·rename_i e2 T2 o2 xs2 h2
      have h3:=ahL hp h2
      rw [hs] at h3; cases h3
      exact h2
     ·simp at hown
    obtain ⟨g,cap,cur,e',fz,k1,k2,kf,k3,k4⟩:=alR hC' hs' hpure hj hu hF
    obtain ⟨_,h',g',m,c,m1,m2,m3,m4,m5⟩:=hr
    simp only [bc,hs,aw] at m1; subst m1
    simp only [bj,hs,k1,aw,Value.slice.injEq,Addr.mk.injEq] at m2
    obtain ⟨⟨rfl,_⟩,_⟩:=m2
    refine lg hdn (run_store ho hT m5 hvs k2 kf (Flat.len P T hF) (Flat.one P T (o:=.no) rfl hF) k3) ?_
    exact hK _ _ _ _ k4 h
   ·simp at h
  ·rename_i T0' oa' x0' hs0
   simp only [aq] at h
   obtain ⟨⟨env',zz⟩,hp,z,hz,h⟩:=h
   have:=cL hz; cases this
   simp only at h
   split at h
   case h_2=>simp at h
   rename_i T0 oa x0 hs'
   split at h
   ·rename_i ed o' T1 xs ha hg
    split at h
    case isFalse=>simp at h
    rename_i hj
    simp only [aq] at h
    obtain ⟨u,hu,x1,hx1,h⟩:=h
    split at h
    case isFalse=>simp at h
    rename_i hpure
    have hsame:look env' s=look env s:=by
     rcases Lj hp s with h1 | ⟨_,_,_,_,_,h1,_⟩ | ⟨T3,o3,x3,h1,h2⟩
     ·exact h1
     ·rw [hs0] at h1; cases h1
     ·rw [hs'] at h2; cases h2
      rw [mW] at ha
      exfalso
      cases hq:cd o3 p<;>rw [hq] at ha<;>simp [ax.bo] at ha
    have hs:look env s=.loc T0 oa x0:=by rw [←hsame]; exact hs'
    obtain ⟨ob',hf,hC',vs,hvs,hF⟩:=la hC hv hp
    obtain ⟨g,cap,cur,e',fz,k1,k2,kf,k3,k4⟩:=alS hC' hs' ha hg hpure hj hu hx1 hF
    have k1:bj w a.tmps env s p=some (.slice (some ⟨g,0,none⟩) xs.length cap):=by
     simp only [bj,hs] ; simp only [bj,hs'] at k1; exact k1
    obtain ⟨_,h',g',m,c,m1,m2,m3,m4,m5⟩:=hr
    simp only [bc,hs,ha,hg,aw] at m1; subst m1
    rw [k1] at m2
    simp only [aw,Value.slice.injEq,Addr.mk.injEq] at m2
    obtain ⟨⟨rfl,_⟩,_⟩:=m2
    refine lg hdn (run_store ho hT m5 hvs k2 kf (Flat.len P T hF) (Flat.one P T (o:=.no) rfl hF) k3) ?_
    exact hK _ _ _ _ k4 h
   ·simp at h
  ·simp at h
 ·split at h
  ·rename_i s p hm
   split at h
   ·rename_i T0 oa x0 hs
    obtain ⟨b,hb1,hb2⟩:=C9 hC hx hm hs
    split at h
    ·rename_i hsc
     simp only [aq] at h
     obtain ⟨zz,hz,z,hc,x1,hset,h⟩:=h
     have:=cL hc; subst this
     obtain ⟨vs,hvs,hF⟩:=mu hC hv hz
     obtain ⟨b',cur,e,k1,k2,k3,k4⟩:=alT hC hs hsc hset hF
     rw [hb1] at k1; cases k1
     refine lg hdn (run_store ho hT hb2 hvs k2 (.inl rfl) (Flat.len P T hF) (Flat.one P T (o:=.no) rfl hF) k3) ?_
     exact hK _ _ _ _ k4 h
    ·split at h
     ·rename_i wr e T1 o1 xs he
      have hrv:=fr hC hv
      rw [he] at hrv
      split at h
      ·rename_i k
       simp only [aq] at h
       obtain ⟨z,hz,x1,hset,h⟩:=h
       split at h
       ·simp at h
       ·rename_i hix
        have hzz:=cL hz
        cases hzz
        simp only [av] at he
        have hks:k≠s:=by rintro rfl; rw [hs] at he; cases he
        have hrv':Flat P (.sl T1) w (Gd B G0 ob) B (.own wr e o1) xs [a.tmps.getD k undef] (ob k):=by
         have:=jH hv a
         rw [this] at hrv; exact hrv
        obtain ⟨b',cur,e',k1,k2,k3,ob',k4⟩:=Dy (k:=some k) (c:=ob k) (env1:=(k,.ref s p)::jC s (kill k env)) hC hs hset (fun j hj=>by cases hj; exact hks) rfl (fun hh=>by rw [hix] at hh; simp at hh) hrv' (by
          intro j hj
          by_cases hjk:k=j
          ·subst hjk
           refine .inl ⟨rfl,by rw [aP,if_pos rfl],rfl,?_⟩
           simp only [bc]; rw [aP,if_pos rfl]
           simp only [D0 p oa _ hix,Ln p T0 hix hset,Option.isSome_some]
          ·right
           refine ⟨fun e=>hjk (by cases e; rfl),?_⟩
           rw [aP,if_neg hjk,aeW]
           by_cases h1:leads k (look env j)=true
           ·rw [if_pos h1]; exact .inl ⟨rfl,k,h1⟩
           ·rw [if_neg h1]
            by_cases h2:eS s (look env j)=true
            ·rw [if_pos h2]; exact .inl ⟨rfl,s,C5 h2⟩
            ·rw [if_neg h2]
             exact .inr ⟨rfl,by simpa using h2,fun t ht=>by cases ht; simpa using h1⟩)
        rw [hb1] at k1; cases k1
        refine lg hdn (run_store ho hT hb2 (by rw [jH hv a]; rfl) k2 (.inl rfl) rfl (VY hrv') k3) ?_
        exact hK _ _ _ _ k4 h
      ·rename_i hnt
       simp only [aq] at h
       obtain ⟨z,hz,x1,hset,h⟩:=h
       split at h
       ·simp at h
       ·rename_i hix
        have:=cL hz
        cases this
        have hob:qK ob yv=[]:=by cases yv<;>first | rfl | exact (hnt _ rfl).elim
        rw [hob] at hrv
        obtain ⟨b',cur,e',k1,k2,k3,ob',k4⟩:=Dy (k:=none) (c:=[]) (env1:=jC s env) hC hs hset (fun j hj=>by cases hj) rfl (fun hh=>by rw [hix] at hh; simp at hh) hrv (by
          intro j hj
          right
          refine ⟨by simp,?_⟩
          rw [tD]
          by_cases h2:eS s (look env j)=true
          ·rw [if_pos h2]; exact .inl ⟨rfl,s,C5 h2⟩
          ·rw [if_neg h2]
           exact .inr ⟨rfl,by simpa using h2,fun t ht=>by cases ht⟩)
        rw [hb1] at k1; cases k1
        refine lg hdn (run_store ho hT hb2 rfl k2 (.inl rfl) rfl (VY hrv) k3) ?_
        exact hK _ _ _ _ k4 h
     ·rename_i T1 o1 x2 he
      have hrv:=fr hC hv
      rw [he] at hrv
      obtain ⟨_,vs,hF,hvs⟩:=hrv
      simp only [aq] at h
      obtain ⟨z,hz,x1,hset,h⟩:=h
      split at h
      ·simp at h
      ·rename_i hix
       simp only [Bool.or_eq_false_iff,Bool.not_eq_false'] at hix
       have:=cL hz
       cases this
       obtain ⟨b',cur,e',k1,k2,k3,ob',k4⟩:=Dy (k:=none) (c:=[]) (env1:=jC s env) hC hs hset (fun j hj=>by cases hj) rfl (fun hh=>by rw [hix.1] at hh; simp at hh) hF (by
         intro j hj
         right
         refine ⟨by simp,?_⟩
         rw [tD]
         by_cases h2:eS s (look env j)=true
         ·rw [if_pos h2]; exact .inl ⟨rfl,s,C5 h2⟩
         ·rw [if_neg h2]
          exact .inr ⟨rfl,by simpa using h2,fun t ht=>by cases ht⟩)
       rw [hb1] at k1; cases k1
       exact lg hdn (run_store ho hT hb2 hvs k2 (.inl rfl) (Flat.len P _ hF) (Flat.one P _ hix.2 hF) k3) (hK _ _ _ _ k4 h)
     ·simp only [aq] at h
      obtain ⟨⟨env',zz⟩,hp,z,hz,h⟩:=h
      have:=cL hz; cases this
      split at h
      ·rename_i T2 o2 x2 hs2
       simp only [aq] at h
       obtain ⟨x1,hset,h⟩:=h
       obtain ⟨ob',hf,hC',vs,hvs,hF⟩:=la hC hv hp
       have hT2:T2=T0:=by
        simp only at hs2
        rcases Lj hp s with h3 | ⟨wr,ed,T',o',xs',h4,h3⟩ | ⟨T',o',x',h4,h3⟩
        ·rw [hs,hs2] at h3; cases h3; rfl
        ·rw [hs] at h4; cases h4
        ·rw [hs] at h4; rw [hs2] at h3; cases h4; cases h3; rfl
       subst hT2
       split at h
       ·rename_i hpu
        obtain ⟨b',cur,e',k1,k2,k3,k4⟩:=WM hC' hs2 hpu hset hF
        rw [hb1] at k1; cases k1
        refine lg hdn (run_store ho hT hb2 hvs k2 (.inl rfl) (Flat.len P T hF) (Flat.one P T (o:=.no) rfl hF) k3) ?_
        exact hK _ _ _ _ k4 h
       obtain ⟨b',cur,e',k1,k2,k3,ob2,k4⟩:=Dy (k:=none) (c:=[]) (o2:=.no) (env1:=jC s env') hC' hs2 hset (fun j hj=>by cases hj) rfl (fun _=>rfl) hF (by
         intro j hj
         right
         refine ⟨by simp,?_⟩
         rw [tD]
         by_cases h2:eS s (look env' j)=true
         ·rw [if_pos h2]; exact .inl ⟨rfl,s,C5 h2⟩
         ·rw [if_neg h2]
          exact .inr ⟨rfl,by simpa using h2,fun t ht=>by cases ht⟩)
       rw [hb1] at k1; cases k1
       refine lg hdn (run_store ho hT hb2 hvs k2 (.inl rfl) (Flat.len P T hF) (Flat.one P T (o:=.no) rfl hF) k3) ?_
       exact hK _ _ _ _ k4 h
      ·simp at h
   ·simp at h
  ·simp at h
theorem alL {t:TypeId} {T:Ty} {x xv:Operand} {y yv:Od} (hC:ah P B G0 W0 n env a.tmps w ob) (hK:bE P B G0 W0 n a K r next) (hdn:o.dst=none)
  (ho:o.op=.store t x xv) (hi:i.op=.Dz T y yv) (hT:bH P t T) (hx:aF x y=true) (hv:aF xv yv=true) (h:step cl i env K=some r):o.wp P a w next Q:=by
 unfold step at h; rw [hi] at h; simp only at h
 split at h
 ·rename_i s p hm
  split at h
  ·rename_i T0 oa x0 hs
   obtain ⟨b,hb1,hb2⟩:=C9 hC hx hm hs
   simp only [aq] at h
   obtain ⟨⟨env',zz⟩,hp,z,hz,h⟩:=h
   have:=cL hz; cases this
   split at h
   ·rename_i T2 o2 x2 hs2
    simp only [aq] at h
    obtain ⟨x1,hset,h⟩:=h
    obtain ⟨ob',hf,hC',vs,hvs,hF⟩:=la hC hv hp
    have hT2:T2=T0:=by
     simp only at hs2
     rcases Lj hp s with h3 | ⟨wr,ed,T',o',xs',h4,h3⟩ | ⟨T',o',x',h4,h3⟩
     ·rw [hs,hs2] at h3; cases h3; rfl
     ·rw [hs] at h4; cases h4
     ·rw [hs] at h4; rw [hs2] at h3; cases h4; cases h3; rfl
    subst hT2
    split at h
    ·rename_i hpu
     obtain ⟨b',cur,e',k1,k2,k3,k4⟩:=WM hC' hs2 hpu hset hF
     rw [hb1] at k1; cases k1
     refine lg hdn (run_store ho hT hb2 hvs k2 (.inl rfl) (Flat.len P T hF) (Flat.one P T (o:=.no) rfl hF) k3) ?_
     exact hK _ _ _ _ k4 h
    ·simp at h
   ·simp at h
  ·simp at h
 ·simp at h
def D9 (P:Program) (t:TypeId):Bool:=match P.underlying t with | some .bool=>true | _=>false
theorem run_equalIn_bool (d:Nat) {t:TypeId} (ht:P.underlying t=some .bool) (p q:Bool):(Op.equalIn (d+1) t (.bool p) (.bool q)).run P w=.ok (p==q) w:=by
 simp only [Op.equalIn,Sem.run_bind,run_underlying ht,Result.andThen_ok]
 rfl
theorem run_equal_bool {t:TypeId} (ht:P.underlying t=some .bool) (p q:Bool):(Op.equal t (.bool p) (.bool q)).run P w=.ok (p==q) w:=run_equalIn_bool 9999 ht p q
theorem aku {t:TypeId} {x y:Operand} (ht:P.underlying t=some .bool) (neg:Bool) (p q:Bool):
  ((do eqGuard (if neg then .neq else .eql) t x y (.bool p) (.bool q); binOp (if neg then .neq else .eql) t (.bool p) (.bool q)):Sem Value).run P w=.ok (.bool (if neg then !(p==q) else p==q)) w:=by
 have h:=run_equal_bool (P:=P) (w:=w) ht p q
 cases neg with
 | true=>
   have e:binOp .neq t (.bool p) (.bool q)=(do pure (.bool (!(←Op.equal t (.bool p) (.bool q)))):Sem Value):=rfl
   have g:(eqGuard .neq t x y (.bool p) (.bool q)).run P w=.ok () w:=rfl
   simp only [if_true,Sem.run_bind,g,Result.andThen_ok,e,h]
   rfl
 | false=>
   have e:binOp .eql t (.bool p) (.bool q)=(do pure (.bool (←Op.equal t (.bool p) (.bool q))):Sem Value):=rfl
   have g:(eqGuard .eql t x y (.bool p) (.bool q)).run P w=.ok () w:=rfl
   simp only [eo,if_false,Sem.run_bind,g,Result.andThen_ok,e,h]
   rfl
theorem alc {t yt:TypeId} {neg:Bool} {x y:Operand} {x' y':Od} (hC:ah P B G0 W0 n env a.tmps w ob) (hK:bE P B G0 W0 n a K r next) (hd:∀ k,o.dst=some k→bl W0 n k) (hdst:i.dst=o.dst)
  (ho:o.op=.binOp (if neg then .neq else .eql) t x y yt) (hi:i.op=.ni neg .bool x' y') (ht:D9 P t=true) (hx:aF x x'=true) (hy:aF y y'=true) (h:step cl i env K=some r):o.wp P a w next Q:=by
 unfold step at h; rw [hi] at h; simp only [hdst,aq] at h
 obtain ⟨s,hs,u,hu,s',hs',u',hu',f,hf,h⟩:=h
 have:=cL hs'; subst this
 have:=cL hu'; subst this
 obtain ⟨vs,e1,f1⟩:=mu hC hx hs
 obtain ⟨us,e2,f2⟩:=mu hC hy hu
 unfold Flat at f1 f2
 obtain ⟨rfl,_⟩:=f1
 obtain ⟨rfl,_⟩:=f2
 simp only [eg,aw] at hf
 subst hf
 have ht':P.underlying t=some .bool:=by
  unfold D9 at ht
  split at ht
  ·assumption
  ·simp at ht
 have e1':a.eval x=.bool s':=e1
 have e2':a.eval y=.bool u':=e2
 have hr:=aku (P:=P) (w:=w) (x:=x) (y:=y) ht' neg s' u'
 refine bp (v:=.bool (if neg then !(s'==u') else (s'==u'))) (w':=w) ?_ (bz hC hK hd (aO.refl w) (lf _ _ _) h)
 have e:execOp a.eval o=(do pure (.value (←(do eqGuard (if neg then .neq else .eql) t x y (a.eval x) (a.eval y); binOp (if neg then .neq else .eql) t (a.eval x) (a.eval y)))):Sem Next):=by
  unfold execOp; rw [ho]
 rw [e,e1',e2',Sem.run_bind,hr]
 rfl
end
end Go.Fw
/- Soundness: equality of structs. -/
namespace Go.Fw
open Go Go.RowKit
mutual
def iv (P:Program):Nat→TypeId→Ty→Bool
 | 0,_,_=>false
 | n+1,t,T=>match P.underlying t with
   | some (.int _)=>(match T with | .int _=>true | _=>false)
   | some .bool=>(match T with | .bool=>true | _=>false)
   | some .string=>(match T with | .str=>true | _=>false)
   | some (.struct fs)=>cA T&&!P.stoodInHeld t&&nh P n fs.toList T 0
   | _=>false
def nh (P:Program):Nat→List Field→Ty→Nat→Bool
 | 0,_,_,_=>false
 | _+1,[],T,_=>(match T with | .unit=>true | _=>false)
 | n + 1, f :: fs, T, off => (match T with | .pair A B => !(f.name == "_") && f.offset == off && c8 P 64 f.type A && iv P n f.type A && nh P n fs B (off + ay A) | _ => false)
end
section
variable {P:Program} {w:World} {G:Nat→Nat→Prop} {B:Nat}
theorem RN:∀ (n:Nat),
  (∀ (d:Nat) (t:TypeId) (T:Ty) (f:den T→den T→Bool) (x y:den T) (vs us:List Value),iv P n t T=true→n≤d→eg T=some f→Flat P T w G B .no x vs []→Flat P T w G B .no y us []→
   (Op.equalIn d t (bh T vs) (bh T us)).run P w=.ok (f x y) w)∧
  (∀ (d:Nat) (fs:List Field) (T:Ty) (off:Nat) (f:den T→den T→Bool) (x y:den T) (v1 u1 vs us:List Value),nh P n fs T off=true→n≤d→eg T=some f→Flat P T w G B .no x vs []→Flat P T w G B .no y us []→
   v1.length=off→u1.length=off→(Op.eqFields d (v1++vs).toArray (u1++us).toArray fs).run P w=.ok (f x y) w):=by
 intro n
 induction n with
 | zero=>exact ⟨fun d t T f x y vs us h=>by simp [iv] at h,fun d fs T off f x y v1 u1 vs us h=>by simp [nh] at h⟩
 | succ n ih=>
   obtain ⟨ih1,ih2⟩:=ih
   refine ⟨fun d t T f x y vs us h hd hf hx hy=>?_,fun d fs T off f x y v1 u1 vs us h hd hf hx hy hv hu=>?_⟩
   ·obtain ⟨d,rfl⟩:∃ d',d=d'+1:=⟨d - 1,by omega⟩
    unfold iv at h
    split at h
    ·rename_i k hk
     cases T<;>first | (exfalso; simp at h; done) | skip
     unfold Flat at hx hy
     obtain ⟨rfl,_⟩:=hx
     obtain ⟨rfl,_⟩:=hy
     simp only [eg,aw] at hf
     subst hf
     exact run_equalIn_int w d t _ _ x y hk
    ·rename_i hk
     cases T<;>first | (exfalso; simp at h; done) | skip
     unfold Flat at hx hy
     obtain ⟨rfl,_⟩:=hx
     obtain ⟨rfl,_⟩:=hy
     simp only [eg,aw] at hf
     subst hf
     exact run_equalIn_bool' w d t x y hk
    ·rename_i hk
     cases T<;>first | (exfalso; simp at h; done) | skip
     unfold Flat at hx hy
     obtain ⟨rfl,_⟩:=hx
     obtain ⟨rfl,_⟩:=hy
     simp only [eg,aw] at hf
     subst hf
     have:=run_equalIn_string (P:=P) w d t ⟨⟨x⟩⟩ ⟨⟨y⟩⟩ hk
     rw [ByteArray.toList_eq,ByteArray.toList_eq] at this
     exact this
    ·rename_i fs hk
     simp only [au,du] at h
     obtain ⟨⟨h1,h2⟩,h3⟩:=h
     have e1:bh T vs=.agg vs.toArray:=by unfold bh; rw [if_pos h1]
     have e2:bh T us=.agg us.toArray:=by unfold bh; rw [if_pos h1]
     have hfo:P.fieldsOf t=fs:=by unfold Program.fieldsOf; rw [hk]
     rw [e1,e2,run_equalIn_struct w d t _ _ (by rw [hfo]; exact hk) h2,hfo]
     exact ih2 d fs.toList T 0 f x y [] [] vs us h3 (by omega) hf hx hy rfl rfl
    ·simp at h
   ·cases fs with
    | nil=>
      unfold nh at h
      cases T<;>first | (exfalso; simp at h; done) | skip
      simp only [eg,aw] at hf
      subst hf
      simp [Op.eqFields]
    | cons g fs=>
      unfold nh at h
      cases T<;>first | (exfalso; simp at h; done) | skip
      rename_i A C
      simp only [au,du,beq_iff_eq] at h
      obtain ⟨⟨⟨⟨h1,h2⟩,h3⟩,h4⟩,h5⟩:=h
      unfold Flat at hx hy
      obtain ⟨p1,p2,b1,b2,rfl,hob,hx1,hx2⟩:=hx
      obtain ⟨q1,q2,c1,c2,rfl,hoc,hy1,hy2⟩:=hy
      obtain ⟨rfl,rfl⟩:=DD.1 hob.symm
      obtain ⟨rfl,rfl⟩:=DD.1 hoc.symm
      simp only [eg] at hf
      split at hf
      case h_2=>simp at hf
      rename_i fA fC hfA hfC
      simp only [aw] at hf
      subst hf
      have hT:bH P g.type A:=⟨⟨64,h3⟩⟩
      have l1:=Flat.len P A hx1
      have l2:=Flat.len P A hy1
      have r1:=zb hT w (v1:=v1) (v3:=p2) l1
      have r2:=zb hT w (v1:=u1) (v3:=q2) l2
      rw [hv,bO,←h2] at r1
      rw [hu,bO,←h2] at r2
      have r3:=ih1 d g.type A fA x.1 y.1 p1 q1 h4 (by omega) hfA hx1 hy1
      have hne : g.name ≠ "_" := by intro e; rw [e] at h1; simp at h1
      simp only [Op.eqFields,if_pos hne,Sem.run_bind,r1,r2,r3,Result.andThen_ok,Sem.run_ite,Sem.run_pure]
      by_cases hb:fA x.1 y.1=true
      ·rw [hb]
       simp only [Bool.not_true,eo,if_false,Bool.true_and]
       have:=ih2 d fs C (off+ay A) fC x.2 y.2 (v1++p1) (u1++q1) p2 q2 h5 (by omega) hfC hx2 hy2 (by simp [hv,l1]) (by simp [hu,l2])
       rw [bO,bO] at this
       exact this
      ·have hb':fA x.1 y.1=false:=by simpa using hb
       rw [hb']; simp
def eqStr (P:Program) (t:TypeId) (T:Ty):Bool:=cA T&&iv P 64 t T&&!P.eqGuardType P.depth t
theorem akw {t:TypeId} {T:Ty} {x y:Operand} {f:den T→den T→Bool} {p q:den T} {vs us:List Value} (h:eqStr P t T=true) (hf:eg T=some f) (hx:Flat P T w G B .no p vs []) (hy:Flat P T w G B .no q us []) (neg:Bool):
  (do eqGuard (if neg then .neq else .eql) t x y (bh T vs) (bh T us); binOp (if neg then .neq else .eql) t (bh T vs) (bh T us):Sem Value).run P w=.ok (.bool (if neg then !f p q else f p q)) w:=by
 simp only [eqStr,au,du] at h
 obtain ⟨⟨h1,h2⟩,h3⟩:=h
 have he:=(RN (P:=P) (w:=w) (G:=G) (B:=B) 64).1 10000 t T f p q vs us h2 (by decide) hf hx hy
 have e1:bh T vs=.agg vs.toArray:=by unfold bh; rw [if_pos h1]
 have e2:bh T us=.agg us.toArray:=by unfold bh; rw [if_pos h1]
 rw [e1,e2] at he ⊢
 cases neg with
 | true=>simp only [if_true,Sem.run_bind,run_eqGuard_agg w .neq t x y _ _ h3,Result.andThen_ok,run_neq_struct,he]
 | false=>simp only [eo,if_false,Sem.run_bind,run_eqGuard_agg w .eql t x y _ _ h3,Result.andThen_ok,run_eql_struct,he]
end
section
variable {P:Program} {B:Nat} {G0:Nat→Nat→Prop} {W0:dc} {n:Nat} {env:Env} {a:Act} {w:World} {ob:Nat→OB} {cl:az}
variable {R:Type} {K:cM R} {r:R} {next:Act→World→Prop} {Q:Exit→Act→World→Prop} {o:Oper} {i:AI}
theorem ald {t yt:TypeId} {T:Ty} {neg:Bool} {x y:Operand} {x' y':Od} (hC:ah P B G0 W0 n env a.tmps w ob) (hK:bE P B G0 W0 n a K r next) (hd:∀ k,o.dst=some k→bl W0 n k) (hdst:i.dst=o.dst)
  (ho:o.op=.binOp (if neg then .neq else .eql) t x y yt) (hi:i.op=.ni neg T x' y') (ht:eqStr P t T=true) (hx:aF x x'=true) (hy:aF y y'=true) (h:step cl i env K=some r):o.wp P a w next Q:=by
 unfold step at h; rw [hi] at h; simp only [hdst,aq] at h
 obtain ⟨s,hs,u,hu,s',hs',u',hu',f,hf,h⟩:=h
 have:=cL hs'; subst this
 have:=cL hu'; subst this
 obtain ⟨vs,e1,f1⟩:=mu hC hx hs
 obtain ⟨us,e2,f2⟩:=mu hC hy hu
 have hr:=akw (x:=x) (y:=y) ht hf f1 f2 neg
 refine bp (v:=.bool (if neg then !f s' u' else f s' u')) (w':=w) ?_ (bz hC hK hd (aO.refl w) (lf _ _ _) h)
 have e:execOp a.eval o=(do pure (.value (←(do eqGuard (if neg then .neq else .eql) t x y (a.eval x) (a.eval y); binOp (if neg then .neq else .eql) t (a.eval x) (a.eval y)))):Sem Next):=by
  unfold execOp; rw [ho]
 rw [e,e1,e2,Sem.run_bind,hr]
 rfl
end
end Go.Fw
/- Contracts of functions, put into what calls answer; keeps of environments. -/
namespace Go.Fw
open Go Go.RowKit
theorem az.ext' {a b:az} (h:∀ f es,a.run f es=b.run f es):a=b:=by
 obtain ⟨r1,k1,e1⟩:=a
 obtain ⟨r2,k2,e2⟩:=b
 have:r1=r2:=by funext f es; exact h f es
 subst this
 have: @k1=@k2:=by funext R f es k; rw [e1,e2]
 subst this
 rfl
structure aQ where
 A:Type
 B:Type
 f:FuncId
 enc:A→List E
 dec:List E→Option A
 S:A→Option B
 av:B→List E
 ok:∀ es a,dec es=some a→es=enc a
def aQ.holds (c:aQ) (cl:az):Prop:=∀ a,cl c.f (c.enc a)=(c.S a).bind fun b=>some (c.av b)
def az.put (cl:az) (c:aQ):az where
 run f es:=match fo f c.f with
  | .isTrue _=>(match c.dec es with | some a=>(c.S a).bind fun b=>some (c.av b) | none=>cl f es)
  | .isFalse _=>cl f es
 runK f es k:=match fo f c.f with
  | .isTrue _=>(match c.dec es with | some a=>(c.S a).bind fun b=>k (c.av b) | none=>cl.runK f es k)
  | .isFalse _=>cl.runK f es k
 eqn f es k:=by
  cases fo f c.f with
  | isFalse _=>exact cl.eqn f es k
  | isTrue _=>
    simp only
    cases c.dec es with
    | none=>exact cl.eqn f es k
    | some a=>simp only [Option.bind_assoc,ar]
theorem aN {c:aQ} {cl:az} (h:c.holds cl):cl.put c=cl:=by
 apply az.ext'
 intro f es
 simp only [az.put]
 cases fo f c.f with
 | isFalse _=>rfl
 | isTrue hf=>
   simp only
   cases hd:c.dec es with
   | none=>rfl
   | some a=>
     have:=c.ok es a hd
     subst this; subst hf
     exact (h a).symm
theorem aV {tb:Table} {pr:mO} {N D:Nat} {f:FuncId} {fd:FD} {es:List E} (hp:pr f=none) (hu:gz es=false) (ht:tb f=some fd) (hl:es.length=fd.nargs) (hd:(fd.lend==kx es)=true):
  bD tb pr N (D+1) f es=exec (bD tb pr N D) N fd.body (params 0 es) (ag fd):=by
 show (match pr f with
  | some p=>p es
  | none=>match gz es with
    | true=>none
    | false=>match tb f with
      | some fd=>match fo es.length fd.nargs with
        | .isTrue _=>(match fd.lend==kx es with
          | true=>exec (bD tb pr N D) N fd.body (params 0 es) (ag fd)
          | false=>none)
        | .isFalse _=>none
      | none=>none)=_
 rw [hp,hu,ht]
 simp only
 cases fo es.length fd.nargs with
 | isTrue _=>simp only [hd]
 | isFalse h=>exact absurd hl h
theorem zT {tb:Table} {pr:mO} {N D:Nat} {f:FuncId} {p:List E→Option (List E)} {es:List E} (hp:pr f=some p):bD tb pr N (D+1) f es=p es:=by
 show (match pr f with
  | some p=>p es
  | none=>match gz es with
    | true=>none
    | false=>match tb f with
      | some fd=>match fo es.length fd.nargs with
        | .isTrue _=>(match fd.lend==kx es with
          | true=>exec (bD tb pr N D) N fd.body (params 0 es) (ag fd)
          | false=>none)
        | .isFalse _=>none
      | none=>none)=_
 rw [hp]
def bL (T:Ty):E→Option (den T)
 | .v T' x=>bg T ⟨T',x⟩
 | _=>none
def pg (T:Ty):E→Option (den T)
 | .at T' x=>bg T ⟨T',x⟩
 | _=>none
theorem nQ {T:Ty} {y:TV} {x:den T} (h:bg T y=some x):y=⟨T,x⟩:=by
 obtain ⟨T',z⟩:=y
 unfold bg at h
 split at h
 ·rename_i hT
  simp only at hT
  subst hT
  simp only [aw] at h
  subst h; rfl
 ·simp at h
theorem XV {T:Ty} {e:E} {x:den T} (h:bL T e=some x):e=.v T x:=by
 cases e<;>simp only [bL] at h<;>first | (exfalso; simp at h; done) | (have:=nQ h; cases this; rfl)
theorem XP {T:Ty} {e:E} {x:den T} (h:pg T e=some x):e=.at T x:=by
 cases e<;>simp only [pg] at h<;>first | (exfalso; simp at h; done) | (have:=nQ h; cases this; rfl)
theorem asY {α:Type} (b:Bool) (x y:α):ad b x y=if b then x else y:=by cases b<;>rfl
def Dc {R:Type} (live:List Nat) (body:Env→KE R→Option R) (K:KE R) (m:Nat):KE R:=fun e env=>match e with
 | .normal=>iter live body K m (aj live env)
 | .exit id=>K (.exit id) env
 | .ret=>K .ret env
theorem bZ {R:Type} (live:List Nat) (body:Env→KE R→Option R) (K:KE R) (m:Nat) (env:Env):iter live body K (m+1) env=body env (Dc live body K m):=dB rfl rfl
theorem ate {R:Type} (live:List Nat) (body:Env→KE R→Option R) (K:KE R) (env:Env):iter live body K 0 env=none:=dB rfl rfl
theorem b6 {R:Type} (live:List Nat) (body:Env→KE R→Option R) (K:KE R) (m:Nat) (env:Env):Dc live body K m .normal env=iter live body K m (aj live env):=dB rfl rfl
theorem b5 {R:Type} (live:List Nat) (body:Env→KE R→Option R) (K:KE R) (m id:Nat) (env:Env):Dc live body K m (.exit id) env=K (.exit id) env:=dB rfl rfl
theorem b7 {R:Type} (live:List Nat) (body:Env→KE R→Option R) (K:KE R) (m:Nat) (env:Env):Dc live body K m .ret env=K .ret env:=dB rfl rfl
theorem b9 {R:Type} (y:Env→Option R) (K:KE R) (env:Env):mI y K .normal env=y env:=dB rfl rfl
theorem b8 {R:Type} (y:Env→Option R) (K:KE R) (id:Nat) (env:Env):mI y K (.exit id) env=K (.exit id) env:=dB rfl rfl
theorem ca {R:Type} (y:Env→Option R) (K:KE R) (env:Env):mI y K .ret env=K .ret env:=dB rfl rfl
theorem ct {R:Type} (id:Nat) (K:KE R) (env:Env):lu id K .normal env=K .normal env:=dB rfl rfl
theorem cw {R:Type} (id:Nat) (K:KE R) (env:Env):lu id K .ret env=K .ret env:=dB rfl rfl
theorem cq {R:Type} (id:Nat) (K:KE R) (env:Env):lu id K (.exit id) env=K .normal env:=by
 unfold lu; simp only
 cases fo id id with
 | isTrue _=>rfl
 | isFalse h=>exact absurd rfl h
theorem asW {R:Type} (id j:Nat) (h:zJ j id=false) (K:KE R) (env:Env):lu id K (.exit j) env=K (.exit j) env:=by
 unfold lu; simp only
 cases fo j id with
 | isTrue e=>subst e; rw [Nat.beq_refl] at h; cases h
 | isFalse _=>rfl
section
variable {cl:az} {N:Nat} {R:Type} (env:Env) (K:KE R)
theorem as9:exec cl N .skip env K=K .normal env:=dB rfl rfl
theorem as8:exec cl N .ret env K=K .ret env:=dB rfl rfl
theorem as7 (id:Nat):exec cl N (.exit id) env K=K (.exit id) env:=dB rfl rfl
theorem bY (a b:AC):exec cl N (.seq a b) env K=exec cl N a env (mI (fun env=>exec cl N b env K) K):=dB rfl rfl
theorem aT (l:List Nat) (b:AC):exec cl N (.out l b) env K=exec cl N b env (fun e env=>K e (aj l env)):=dB rfl rfl
theorem cx (id:Nat) (b:AC):exec cl N (.block id b) env K=exec cl N b env (lu id K):=dB rfl rfl
theorem bX (l:List Nat) (b:AC):exec cl N (.loop l b) env K=iter l (fun env K=>exec cl N b env K) K N (aj l env):=dB rfl rfl
theorem as6 (c:Od) (x y:AC):exec cl N (.cond c x y) env K=(mY (av env c)).bind fun q=>ad q (exec cl N x env K) (exec cl N y env K):=dB rfl rfl
theorem as5 (c:Od) (x y:AC) (b:Bool) (h:mY (av env c)=some b):exec cl N (.cond c x y) env K=ad b (exec cl N x env K) (exec cl N y env K):=by
 show (mY (av env c)).bind (fun q=>ad q (exec cl N x env K) (exec cl N y env K))=_
 rw [h]; rfl
end
theorem aK {α:Type} (x y:α):ad true x y=x:=dB rfl rfl
theorem aB {α:Type} (x y:α):ad false x y=y:=dB rfl rfl
theorem asS {α β:Type} (b:Bool) (x y:Option α) (h:α→Option β):(ad b x y).bind h=ad b (x.bind h) (y.bind h):=by cases b<;>rfl
theorem asT {α β:Type} (c:Prop) [Decidable c] (x y:Option α) (h:α→Option β):(if c then x else y).bind h=if c then x.bind h else y.bind h:=by split<;>rfl
theorem asU {α β:Type} (h:α→Option β):(none:Option α).bind h=none:=rfl
theorem asV {α β:Type} (a:α) (h:α→Option β):(some a).bind h=h a:=rfl
def aQ.eY (c:aQ):List E→Option (List E):=fun es=>(c.dec es).bind fun a=>(c.S a).bind fun b=>some (c.av b)
theorem yW {tb:Table} {pr:mO} {N D:Nat} {c:aQ} (hp:pr c.f=some c.eY) (hd:∀ a,c.dec (c.enc a)=some a):c.holds (bD tb pr N (D+1)):=by
 intro a
 rw [zT hp]
 simp only [aQ.eY,hd,ar]
def ck:List E→Option Unit
 | []=>some ()
 | _=>none
def ba {A B:Type} (d:E→Option A) (r:List E→Option B):List E→Option (A×B)
 | []=>none
 | e::es=>match d e,r es with
   | some a,some b=>some (a,b)
   | _,_=>none
theorem ir {es:List E} {a:Unit} (h:ck es=some a):es=[]:=by
 cases es<;>simp [ck] at h; rfl
theorem Il {A B:Type} {d:E→Option A} {r:List E→Option B} {es:List E} {q:A×B} (h:ba d r es=some q):∃ e es',es=e::es'∧d e=some q.1∧r es'=some q.2:=by
 cases es with
 | nil=>simp [ba] at h
 | cons e es=>
   simp only [ba] at h
   split at h
   ·rename_i a b ha hb; cases h; exact ⟨e,es,rfl,ha,hb⟩
   ·simp at h
theorem gi {T:Ty} {B:Type} {r:List E→Option B} {enc:B→List E} (hr:∀ es b,r es=some b→es=enc b) (es:List E) (q:den T×B) (h:ba (bL T) r es=some q):es=.v T q.1::enc q.2:=by
 obtain ⟨e,es',rfl,h1,h2⟩:=Il h
 rw [XV h1,hr _ _ h2]
theorem B6 {T:Ty} {B:Type} {r:List E→Option B} {enc:B→List E} (hr:∀ es b,r es=some b→es=enc b) (es:List E) (q:den T×B) (h:ba (pg T) r es=some q):es=.at T q.1::enc q.2:=by
 obtain ⟨e,es',rfl,h1,h2⟩:=Il h
 rw [XP h1,hr _ _ h2]
def Io {B:Type} (r:List E→Option B):List E→Option B
 | .dead::es=>r es
 | _=>none
theorem XS {B:Type} {r:List E→Option B} {enc:B→List E} (hr:∀ es b,r es=some b→es=enc b) (es:List E) (q:B) (h:Io r es=some q):es=.dead::enc q:=by
 unfold Io at h
 split at h
 ·rw [hr _ _ h]
 ·cases h
def nM:ax→ax→Bool
 | .no,.no=>true
 | .hole,.hole=>true
 | .mp,.mp=>true
 | .own w e o,.own w' e' o'=>(match w,w' with | true,true=>true | false,false=>true | _,_=>false)&&zJ e e'&&nM o o'
 | .pair a b,.pair a' b'=>nM a a'&&nM b b'
 | _,_=>false
theorem zY:∀ {a b:ax},nM a b=true→a=b
 | .no,.no,_=>rfl
 | .hole,.hole,_=>rfl
 | .mp,.mp,_=>rfl
 | .own w e o,.own w' e' o',h=>by
   simp only [nM,au] at h
   obtain ⟨⟨h1,h2⟩,h3⟩:=h
   have h2:=Nat.eq_of_beq_eq_true h2
   have h3:=zY h3
   subst h2; subst h3
   cases w<;>cases w'<;>simp_all
 | .pair a b,.pair a' b',h=>by
   simp only [nM,au] at h
   rw [zY h.1,zY h.2]
 | .no,.hole,h | .no,.own ..,h | .no,.pair ..,h | .hole,.no,h | .hole,.own ..,h | .hole,.pair ..,h | .own ..,.no,h | .own ..,.hole,h | .own ..,.pair ..,h | .pair ..,.no,h | .pair ..,.hole,h | .pair ..,.own ..,h=>by simp [nM] at h
def u7 (o:ax) (T:Ty):E→Option (den T)
 | .loc T' o' x=>(match nM o' o with | true=>bg T ⟨T',x⟩ | false=>none)
 | _=>none
theorem XR {o:ax} {T:Ty} {e:E} {x:den T} (h:u7 o T e=some x):e=.loc T o x:=by
 unfold u7 at h
 split at h
 ·split at h
  ·rename_i ho
   have:=zY ho
   subst this
   have:=nQ h; cases this; rfl
  ·cases h
 ·cases h
theorem Rm {o:ax} {T:Ty} {B:Type} {r:List E→Option B} {enc:B→List E} (hr:∀ es b,r es=some b→es=enc b) (es:List E) (q:den T×B) (h:ba (u7 o T) r es=some q):es=.loc T o q.1::enc q.2:=by
 obtain ⟨e,es',rfl,h1,h2⟩:=Il h
 rw [XR h1,hr _ _ h2]
def Ro (T:Ty):E→Option (den T)
 | .loc T' _ x=>bg T ⟨T',x⟩
 | _=>none
def Rn (e:TypeId) (T:Ty):List E→Option (den (.sl T)×Unit)
 | [.bJ,.own true e' T' .no xs]=>if e'=e then (bg (.sl T) ⟨.sl T',xs⟩).bind fun xs=>some (xs,()) else none
 | _=>none
theorem as3 {e:TypeId} {T:Ty} (es:List E) (q:den (.sl T)×Unit) (h:Rn e T es=some q):es=[.bJ,.own true e T .no q.1]:=by
 unfold Rn at h
 split at h
 ·split at h
  ·rename_i he
   subst he
   obtain ⟨y,hy,h⟩:=aq.1 h
   cases h
   have:=nQ hy
   cases this; rfl
  ·cases h
 ·cases h
def Im (e:TypeId) (T A C:Ty):List E→Option (den (.fn A C)×(den (.sl T)×Unit))
 | [.bJ,.v F g,.own true e' T' .no xs]=>if e'=e then (bg (.fn A C) ⟨F,g⟩).bind fun g=>(bg (.sl T) ⟨.sl T',xs⟩).bind fun xs=>some (g,(xs,())) else none
 | _=>none
theorem XQ {e:TypeId} {T A C:Ty} (es:List E) (q:den (.fn A C)×(den (.sl T)×Unit)) (h:Im e T A C es=some q):es=[.bJ,.v (.fn A C) q.1,.own true e T .no q.2.1]:=by
 unfold Im at h
 split at h
 ·split at h
  ·rename_i he
   subst he
   obtain ⟨y,hy,h⟩:=aq.1 h
   obtain ⟨z,hz,h⟩:=aq.1 h
   cases h
   have:=nQ hy
   cases this
   have:=nQ hz
   cases this; rfl
  ·cases h
 ·cases h
def Rl (e:TypeId) (T A C:Ty):List E→Option (den (.sl T)×(den (.fn A C)×Unit))
 | [.bJ,.own true e' T' .no xs,.v F g]=>if e'=e then (bg (.sl T) ⟨.sl T',xs⟩).bind fun xs=>(bg (.fn A C) ⟨F,g⟩).bind fun g=>some (xs,(g,())) else none
 | _=>none
theorem as2 {e:TypeId} {T A C:Ty} (es:List E) (q:den (.sl T)×(den (.fn A C)×Unit)) (h:Rl e T A C es=some q):es=[.bJ,.own true e T .no q.1,.v (.fn A C) q.2.1]:=by
 unfold Rl at h
 split at h
 ·split at h
  ·rename_i he
   subst he
   obtain ⟨y,hy,h⟩:=aq.1 h
   obtain ⟨z,hz,h⟩:=aq.1 h
   cases h
   have:=nQ hy
   cases this
   have:=nQ hz
   cases this; rfl
  ·cases h
 ·cases h
def Iq (t e:TypeId):List E→Option (List UInt8×(List UInt8×Unit))
 | [.bJ,.sb t' e' s,.v .str x]=>if t'=t∧e'=e then some (s,(x,())) else none
 | _=>none
theorem XU {t e:TypeId} (es:List E) (q:List UInt8×(List UInt8×Unit)) (h:Iq t e es=some q):es=[.bJ,.sb t e q.1,.v .str q.2.1]:=by
 unfold Iq at h
 split at h
 ·split at h
  ·rename_i he; obtain ⟨rfl,rfl⟩:=he; cases h; rfl
  ·cases h
 ·cases h
def Ip (t e:TypeId):List E→Option (List UInt8×Unit)
 | [.bJ,.sb t' e' s]=>if t'=t∧e'=e then some (s,()) else none
 | _=>none
theorem XT {t e:TypeId} (es:List E) (q:List UInt8×Unit) (h:Ip t e es=some q):es=[.bJ,.sb t e q.1]:=by
 unfold Ip at h
 split at h
 ·split at h
  ·rename_i he; obtain ⟨rfl,rfl⟩:=he; cases h; rfl
  ·cases h
 ·cases h
theorem ahX {n:FuncId} {fd:FD} {N:Nat} {base:az} {f:FuncId} (h:zJ f n=false) (m:Nat) (es:List E):(recC n fd N base m).run f es=base.run f es:=by
 cases m with
 | zero=>rfl
 | succ m=>
   show (match fo f n with
    | .isTrue _=>(match gz es with
      | true=>none
      | false=>match fo es.length fd.nargs with
        | .isTrue _=>(match fd.lend==kx es with
          | true=>exec (recC n fd N base m) N fd.body (params 0 es) (ag fd)
          | false=>none)
        | .isFalse _=>none)
    | .isFalse _=>base.run f es)=_
   cases fo f n with
   | isTrue e=>subst e; rw [Nat.beq_refl] at h; cases h
   | isFalse _=>rfl
theorem Wc {n:FuncId} {fd:FD} {N:Nat} {base:az} {m:Nat} {es:List E} (hu:gz es=false) (hl:es.length=fd.nargs) (hd:(fd.lend==kx es)=true):(recC n fd N base (m+1)).run n es=exec (recC n fd N base m) N fd.body (params 0 es) (ag fd):=by
 have key:∀ f:FuncId,f=n→(recC n fd N base (m+1)).run f es=exec (recC n fd N base m) N fd.body (params 0 es) (ag fd):=by
  intro f hf
  show (match fo f n with
   | .isTrue _=>(match gz es with
     | true=>none
     | false=>match fo es.length fd.nargs with
       | .isTrue _=>(match fd.lend==kx es with
         | true=>exec (recC n fd N base m) N fd.body (params 0 es) (ag fd)
         | false=>none)
       | .isFalse _=>none)
   | .isFalse _=>base.run f es)=_
  cases fo f n with
  | isFalse e=>exact absurd hf e
  | isTrue _=>
    simp only [hu]
    cases fo es.length fd.nargs with
    | isTrue _=>simp only [hd]
    | isFalse h=>exact absurd hl h
 exact key n rfl
theorem yZ {n:FuncId} {fd:FD} {N:Nat} {base:az} {c:aQ} (h:zJ c.f n=false) (hc:c.holds base) (m:Nat):c.holds (recC n fd N base m):=fun a=>(ahX h m _).trans (hc a)
end Go.Fw
/- Facts of closed calls, so that a call is run piece by piece. -/
namespace Go.Fw
open Go Go.RowKit
def mo {α:Type} (f:α→α→Bool):List α→List α→Bool
 | [],[]=>true
 | x::xs,y::ys=>f x y&&mo f xs ys
 | _,_=>false
theorem sh {α:Type} {f:α→α→Bool} (h:∀ x y,f x y=true→x=y):∀ {xs ys:List α},mo f xs ys=true→xs=ys
 | [],[],_=>rfl
 | x::xs,y::ys,e=>by
   simp only [mo,au] at e
   rw [h x y e.1,sh h e.2]
 | [],_::_,e=>by simp [mo] at e
 | _::_,[],e=>by simp [mo] at e
def kr:(T:Ty)→den T→den T→Bool
 | .int _=>fun x y=> @decide (x=y) (Int.instDecidableEq x y)
 | .bool=>fun x y=>match x,y with | true,true=>true | false,false=>true | _,_=>false
 | .str=>mo fun x y=> @decide (x.toNat=y.toNat) (fo _ _)
 | .unit=>fun _ _=>true
 | .pair A B=>fun x y=>kr A x.1 y.1&&kr B x.2 y.2
 | .sl T=>mo (kr T)
 | .arr _ T=>mo (kr T)
 | .fn _ _=>fun _ _=>false
 | .map K V=>mo fun x y=>kr K x.1 y.1&&kr V x.2 y.2
theorem pD:∀ (T:Ty) (x y:den T),kr T x y=true→x=y
 | .int _,x,y,h=>of_decide_eq_true h
 | .bool,x,y,h=>by cases x<;>cases y<;>first | rfl | (simp [kr] at h; done)
 | .str,x,y,h=>sh (fun a b h=>by
   have:=of_decide_eq_true h
   exact UInt8.toNat_inj.1 this) h
 | .unit,x,y,_=>rfl
 | .pair A B,x,y,h=>by
   simp only [kr,au] at h
   exact Prod.ext (pD A _ _ h.1) (pD B _ _ h.2)
 | .sl T,x,y,h=>sh (pD T) h
 | .arr _ T,x,y,h=>sh (pD T) h
 | .fn _ _,x,y,h=>by simp [kr] at h
 | .map K V,x,y,h=>sh (fun a b h=>by
   simp only [au] at h
   exact Prod.ext (pD K _ _ h.1) (pD V _ _ h.2)) h
def Ci (x y:TV):Bool:=if h:x.1=y.1 then kr y.1 (h▸x.2) y.2 else false
theorem RL {x y:TV} (h:Ci x y=true):x=y:=by
 obtain ⟨T,x⟩:=x; obtain ⟨T',y⟩:=y
 unfold Ci at h
 split at h
 ·rename_i e
  simp only at e
  subst e
  have h':kr T x y=true:=h
  rw [pD _ _ _ h']
 ·cases h
def Jd:E→E→Bool
 | .v T x,.v T' y=>Ci ⟨T,x⟩ ⟨T',y⟩
 | .at T x,.at T' y=>Ci ⟨T,x⟩ ⟨T',y⟩
 | _,_=>false
theorem X1 (a b:E) (h:Jd a b=true):a=b:=by
 unfold Jd at h
 split at h
 ·have:=RL h; cases this; rfl
 ·have:=RL h; cases this; rfl
 ·cases h
abbrev Fact:=FuncId×List E×List E
def oz:List Fact→FuncId→List E→Option (List E)
 | [],_,_=>none
 | (g,as,rs)::r,f,es=>match fo g f with
   | .isTrue _=>(match mo Jd as es with | true=>some rs | false=>oz r f es)
   | .isFalse _=>oz r f es
theorem KZ:∀ {fs:List Fact} {f:FuncId} {es rs:List E},oz fs f es=some rs→(f,es,rs)∈fs
 | [],_,_,_,h=>by simp [oz] at h
 | (g,as,rs')::r,f,es,rs,h=>by
   simp only [oz] at h
   split at h
   ·rename_i hg _
    split at h
    ·rename_i he
     simp only [aw] at h
     subst h; subst hg
     rw [sh X1 he]
     exact List.mem_cons_self ..
    ·exact fm _ (KZ h)
   ·exact fm _ (KZ h)
def W5 (fs:List Fact) (cl:az):az:=⟨fun f es=>match oz fs f es with | some rs=>some rs | none=>cl.run f es,fun f es k=>match oz fs f es with | some rs=>k rs | none=>cl.runK f es k,fun f es k=>by
 split
 ·rfl
 ·exact cl.eqn f es k⟩
def zU (cl:az):List Fact→Prop
 | []=>True
 | q::r=>cl.run q.1 q.2.1=some q.2.2∧zU cl r
theorem L8 {cl:az}:∀ {fs:List Fact},zU cl fs→∀ q∈fs,cl.run q.1 q.2.1=some q.2.2
 | [],_,q,hq=>by simp at hq
 | p::r,h,q,hq=>by
   rcases cS.1 hq with rfl | hq
   ·exact h.1
   ·exact L8 h.2 q hq
theorem asJ {fs:List Fact} {cl:az} (h:zU cl fs):W5 fs cl=cl:=by
 apply az.ext'
 intro f es
 show (match oz fs f es with | some rs=>some rs | none=>cl.run f es)=cl.run f es
 split
 ·rename_i rs hl
  exact (L8 h _ (KZ hl)).symm
 ·rfl
theorem ata {tb:Table} {pr:mO} {N D:Nat} {f:FuncId} {fd:FD} {es res:List E} (fs:List Fact) (h1:pr f=none) (hu:gz es=false) (h2:tb f=some fd) (h3:es.length=fd.nargs) (h4:(fd.lend==kx es)=true) (hf:zU (bD tb pr N D) fs)
  (hk:exec (W5 fs (bD tb pr N D)) N fd.body (params 0 es) (ag fd)=some res):(bD tb pr N (D+1)).run f es=some res:=by
 have:=aV (tb:=tb) (pr:=pr) (N:=N) (D:=D) (f:=f) (es:=es) h1 hu h2 h3 h4
 rw [asJ hf] at hk
 exact this.trans hk
end Go.Fw
/- Soundness: ranging over a text. -/
namespace Go.Fw
open Go Go.RowKit
theorem zo (b:UInt8):b.toNat < 256:=b.toNat_lt
theorem XX (s:ByteArray) (i:Nat):(Utf8.decode s i).1 < 2097152:=by
 have h0:=zo (s.get! (i+0)); have h1:=zo (s.get! (i+1)); have h2:=zo (s.get! (i+2)); have h3:=zo (s.get! (i+3))
 unfold Utf8.decode
 simp only [Utf8.runeError]
 repeat' split
 all_goals (simp only; omega)
section
variable {P:Program} {B:Nat} {G0:Nat→Nat→Prop} {W0:dc} {n:Nat} {env:Env} {a:Act} {w:World} {ob:Nat→OB} {tm:Array Value}
variable {R:Type} {K:cM R} {r:R} {next:Act→World→Prop} {Q:Exit→Act→World→Prop} {o:Oper} {i:AI} {cl:az}
theorem akD {b pos:Nat} {s:ByteArray} {ty:TypeId} (h:w.heap[b]?=some (.stringIter s pos)) (hp:pos < s.size):
  (Instr.next (.pointer (some ⟨b,0,none⟩)) true ty).run P w=.ok (.tuple #[.bool true,.int .i64 (pos:Int),.int .i32 ((Utf8.decode s pos).1:Int)]) {w with heap:=w.heap.setIfInBounds b (.stringIter s (pos+(Utf8.decode s pos).2))}:=by
 simp [Instr.next,getObj,setObj,Sem.run,h,hp,goInt]
theorem akC {b pos:Nat} {s:ByteArray} {ty:TypeId} (h:w.heap[b]?=some (.stringIter s pos)) (hp:¬ pos < s.size):
  (Instr.next (.pointer (some ⟨b,0,none⟩)) true ty).run P w=.ok (.tuple #[.bool false]) w:=by
 simp [Instr.next,getObj,Sem.run,h,hp]
theorem alD {t:TypeId} {x:Operand} {y:Od} (hC:ah P B G0 W0 n env a.tmps w ob) (hK:bE P B G0 W0 n a K r next) (hd:∀ k,o.dst=some k→bl W0 n k) (hdst:i.dst=o.dst)
  (ho:o.op=.range t x) (hi:i.op=.Dn y) (ht:bH P t .str) (hx:aF x y=true) (h:step cl i env K=some r):o.wp P a w next Q:=by
 unfold step at h; rw [hi] at h; simp only [hdst,aq] at h
 obtain ⟨s,hs,h⟩:=h
 obtain ⟨hv,hl⟩:=tV hC hx hs
 have hg:aO w (w.alloc (.stringIter ⟨⟨s⟩⟩ 0)):=aO.alloc w _
 refine bp (v:=.pointer (some ⟨w.heap.size,0,none⟩)) (w':=w.alloc (.stringIter ⟨⟨s⟩⟩ 0)) ?_ ?_
 ·simp [execOp,ho,hv,Instr.range,run_underlying ht.str]
 ·cases bU:o.dst with
  | none=>rw [bU] at h; exact bz (d:=none) (e:=.dead) hC hK (fun k hk=>by cases hk) hg (v:=undef) rfl h
  | some k=>
    rw [bU] at h
    have h2:=ah.mF (e:=.it s 0) (v:=.pointer (some ⟨w.heap.size,0,none⟩)) (bk:=[(w.heap.size,0)]) hC (hd k bU) hg ?_ (by simp) (by simp)
    ·exact hK _ _ _ _ h2 h
    ·rw [if_neg (by simp [leads])]
     exact ⟨w.heap.size,rfl,hC.base,heap_alloc_new w _,hl,rfl⟩
theorem ah.Zw (hC:ah P B G0 W0 n env tm w ob) {k b:Nat} {s:List UInt8} {pos pos':Nat} (hk:look env k=.it s pos) (hb:tm.getD k undef=.pointer (some ⟨b,0,none⟩)):
  ah P B G0 W0 n ((k,.it s pos')::env) tm {w with heap:=w.heap.setIfInBounds b (.stringIter ⟨⟨s⟩⟩ pos')} ob:=by
 have hr:=hC.rep k
 rw [hk] at hr
 obtain ⟨b',h1,h2,h3,h4,h5⟩:=hr
 rw [hb] at h1
 simp only [Value.pointer.injEq,aw,Addr.mk.injEq,and_true] at h1
 subst h1
 have hlow:=hC.low k b (by rw [h5]; simp)
 have other:∀ g,g≠b→(w.heap.setIfInBounds b (.stringIter ⟨⟨s⟩⟩ pos'))[g]?=w.heap[g]?:=fun g hg=>by
  rw [Array.getElem?_setIfInBounds_ne (bu hg)]
 have ncell:∀ (b' i:Nat),b'≠b→({w with heap:=w.heap.setIfInBounds b (.stringIter ⟨⟨s⟩⟩ pos')}:World).cell? ⟨b',i,none⟩=w.cell? ⟨b',i,none⟩:=fun b' i hne=>World.cell?_of_block (w:=w) (other b' hne)
 refine ah.step hC ⟨fun j x hx=>.inl ⟨j,hx⟩,fun b' _ hn=>other b' (by rintro rfl; exact hn k (by rw [h5]; simp))⟩ ⟨rfl,rfl,rfl,by simp,fun g hg=>other g (by omega),cE _⟩ (fun b' i _ h=>⟨h,ncell b' i ?_⟩) (fun j=>?_) hC.dist hC.nodup (fun j b' hb'=>by have:=hC.low j b' hb'; simpa using this) hC.size (fun _ _=>rfl)
 ·rintro rfl
  rcases h with ⟨h,_⟩ | ⟨_,_,h⟩
  ·exact absurd h (by omega)
  ·exact absurd (h k 0 (by rw [h5]; simp)) (by omega)
 ·by_cases hj:j=k
  ·subst hj; right
   rw [aP,if_pos rfl]
   exact ⟨b,hb,h2,by rw [Array.getElem?_setIfInBounds_self_of_lt (by omega)],h4,h5⟩
  ·left
   rw [aP,if_neg (bu hj)]
   refine ⟨rfl,rfl,rfl,fun g hg=>other g ?_,fun t ht=>?_⟩
   ·rintro rfl; exact hj (hC.dist j k _ hg (by rw [h5]; simp))
   ·by_cases htk:t=k
    ·subst htk
     have:=(bn.leads ht (hC.rep j)).1
     rw [hk] at this; simp [E.home] at this
    ·refine eL.same (P:=P) (by rw [aP,if_neg (bu htk)]) rfl (hC.rep t) (fun g hg=>other g ?_)
     rintro rfl; exact htk (hC.dist t k _ hg (by rw [h5]; simp))
theorem alB {k:Nat} (hC:ah P B G0 W0 n env a.tmps w ob) (hK:bE P B G0 W0 n a K r next) (hd:∀ k,o.dst=some k→bl W0 n k) (hdst:i.dst=o.dst)
  (ho:o.op=.next (.tmp k) true) (hi:i.op=.dY k) (h:step cl i env K=some r):o.wp P a w next Q:=by
 unfold step at h; rw [hi] at h; simp only [hdst] at h
 have hr:=hC.rep k
 split at h
 ·rename_i s pos he
  rw [he] at hr
  obtain ⟨b,h1,h2,h3,h4,h5⟩:=hr
  have hev:a.eval (.tmp k)=.pointer (some ⟨b,0,none⟩):=h1
  have hsz:(⟨⟨s⟩⟩:ByteArray).size=s.length:=rfl
  by_cases hp:pos < s.length
  ·rw [show decide (pos < s.length)=true by simpa using hp] at h
   simp only [ad] at h
   have hrun:=akD (P:=P) (ty:=o.type) h3 (by rw [hsz]; exact hp)
   refine bp (v:=.tuple #[.bool true,.int .i64 (pos:Int),.int .i32 ((Utf8.decode ⟨⟨s⟩⟩ pos).1:Int)]) (w':={w with heap:=w.heap.setIfInBounds b (.stringIter ⟨⟨s⟩⟩ (pos+(Utf8.decode ⟨⟨s⟩⟩ pos).2))}) ?_ ?_
   ·simp [execOp,ho,hev,hrun]
   ·have hC1:=ah.Zw (pos':=pos+(Utf8.decode ⟨⟨s⟩⟩ pos).2) hC he h1
    have hdl:=XX ⟨⟨s⟩⟩ pos
    refine bz (e:=.cI [.v .bool true,.v (.int .i64) (pos:Int),.v (.int .i32) ((Utf8.decode ⟨⟨s⟩⟩ pos).1:Int)]) hC1 hK hd (aO.refl _) ⟨by simp [leads],_,rfl,?_⟩ h
    refine ⟨.bool true,[.int .i64 (pos:Int),.int .i32 ((Utf8.decode ⟨⟨s⟩⟩ pos).1:Int)],[],[],rfl,rfl,⟨rfl,[.bool true],by unfold Flat; exact ⟨rfl,rfl⟩,rfl⟩,.int .i64 (pos:Int),[.int .i32 ((Utf8.decode ⟨⟨s⟩⟩ pos).1:Int)],[],[],rfl,rfl,⟨rfl,[.int .i64 (pos:Int)],?_,rfl⟩,.int .i32 ((Utf8.decode ⟨⟨s⟩⟩ pos).1:Int),[],[],[],rfl,rfl,⟨rfl,[.int .i32 ((Utf8.decode ⟨⟨s⟩⟩ pos).1:Int)],?_,rfl⟩,rfl,rfl⟩
    ·unfold Flat
     refine ⟨rfl,?_,rfl⟩
     have:(maxLen:Int)≤9223372036854775807:=by decide
     constructor
     ·show (-9223372036854775808:Int)≤_; omega
     ·show _≤(9223372036854775807:Int); omega
    ·unfold Flat
     refine ⟨rfl,?_,rfl⟩
     constructor
     ·show (-2147483648:Int)≤_; omega
     ·show _≤(2147483647:Int); omega
  ·rw [show decide (pos < s.length)=false by simpa using hp] at h
   simp only [ad] at h
   have hrun:=akC (P:=P) (ty:=o.type) h3 (by rw [hsz]; exact hp)
   refine bp (v:=.tuple #[.bool false]) (w':=w) (by simp [execOp,ho,hev,hrun]) ?_
   exact bz (e:=.cI [.v .bool false]) hC hK hd (aO.refl _) ⟨by simp [leads],#[.bool false],rfl,.bool false,[],[],[],rfl,rfl,⟨rfl,[.bool false],by unfold Flat; exact ⟨rfl,rfl⟩,rfl⟩,rfl,rfl⟩ h
 ·simp at h
theorem alA {x:Operand} {y:Od} (hC:ah P B G0 W0 n env a.tmps w ob) (hK:bE P B G0 W0 n a K r next) (hd:∀ k,o.dst=some k→bl W0 n k) (hdst:i.dst=o.dst)
  (ho:o.op=.nilCheck x) (hi:i.op=.jF y) (hx:aF x y=true) (h:step cl i env K=some r):o.wp P a w next Q:=by
 unfold step at h; rw [hi] at h; simp only [hdst] at h
 have hr:=fr hC hx
 have fin:(∃ p,a.eval x=.pointer (some p))→K (aM env o.dst (fB y (av env y)))=some r→o.wp P a w next Q:=by
  rintro ⟨p,hp⟩ h
  exact bp (v:=a.eval x) (by simp [execOp,ho,hp]) (vu hC hK hx hd h)
 split at h
 ·rename_i s p he
  rw [he] at hr
  obtain ⟨_,T,oo,z,b,_,_,_,h4⟩:=hr
  exact fin ⟨_,h4⟩ h
 ·rename_i s p j q he
  rw [he] at hr
  obtain ⟨_,hh,g,m,c,_,_,_,_,h4⟩:=hr
  exact fin ⟨_,h4⟩ h
 ·rename_i T z he
  rw [he] at hr
  obtain ⟨_,b,off,vs,h4,_⟩:=hr
  exact fin ⟨_,h4⟩ h
 ·rename_i T oo z he
  rw [he] at hr
  obtain ⟨b,cur,e,ob',h4,_⟩:=hr
  exact fin ⟨_,h4⟩ h
 ·simp at h
theorem RI {P:Program} {w:World} {G:Nat→Nat→Prop} {B:Nat} {k:IntKind}:∀ {xs:List Int} {cells:List Value} {ob:OB},aL (Flat P (.int k) w G B .no) xs cells ob→cells=xs.map (Value.int k)
 | [],_,_,h=>h.1
 | x::xs,_,_,⟨v1,v2,b1,b2,e1,_,h1,h2⟩=>by
   unfold Flat at h1
   rw [e1,h1.1,RI h2]; rfl
theorem Ue {P:Program} {w:World} {G:Nat→Nat→Prop} {B:Nat} {k:IntKind}:∀ {xs:List Int},(∀ x∈xs,fT k x)→aL (Flat P (.int k) w G B .no) xs (xs.map (Value.int k)) []
 | [],_=>⟨rfl,rfl⟩
 | x::xs,h=>⟨[.int k x],xs.map (Value.int k),[],[],rfl,rfl,by unfold Flat; exact ⟨rfl,h x (by simp),rfl⟩,Ue (fun y hy=>h y (by simp [hy]))⟩
theorem alN {src dst e:TypeId} {x:Operand} {y:Od} (hC:ah P B G0 W0 n env a.tmps w ob) (hK:bE P B G0 W0 n a K r next) (hd:∀ k,o.dst=some k→bl W0 n k) (hdst:i.dst=o.dst)
  (ho:o.op=.convert src dst x) (hi:i.op=.toStr y) (hs:P.underlying src=some (.slice e)) (he:P.underlying e=some (.int .u8)) (ht:P.underlying dst=some .string) (hx:aF x y=true) (h:step cl i env K=some r):o.wp P a w next Q:=by
 unfold step at h; rw [hi] at h; simp only [hdst,aq] at h
 obtain ⟨z,hz,xs,hxs,h⟩:=h
 have:=cL hxs; subst this
 obtain ⟨vs,e1,f1⟩:=mu hC hx hz
 unfold Flat at f1
 obtain ⟨_,A,c,rfl,hle,hmx,hcells⟩:=f1
 have ev:a.eval x=.slice A xs.length c:=e1
 have hrun:(convert src dst (.slice A xs.length c)).run P w=.ok (.string ⟨⟨xs.map fun n=>mS n.toNat⟩⟩) w:=by
  have key:∀ b off,A=some ⟨b,off,none⟩→(∀ j,j < xs.length→w.cell? ⟨b,off+j,none⟩=some (.int .u8 (xs.getD j 0)))→(convert src dst (.slice A xs.length c)).run P w=.ok (.string ⟨⟨xs.map fun n=>mS n.toNat⟩⟩) w:=by
   rintro b off rfl hc
   rw [run_convert_bytes_arg w src e hs he b off xs.length c xs rfl hc dst ht]
   rfl
  rcases hcells with h0 | ⟨b,off,cells,hA,hel,hc⟩
  ·subst h0
   cases A with
   | none=>exact run_convert_bytes_nil w src e hs he _ _ dst ht
   | some p=>
     have e0:=run_bytesToString (P:=P) w p 0 c [] (run_loadCells_list (P:=P) w p [] (fun j v hj=>by simp at hj))
     rw [run_convert_bytes_string w src dst e _ _ _ hs he ht]
     exact e0
  ·refine key b off hA (fun j hj=>?_)
   have e2:=RI hel
   subst e2
   refine (hc j (.int .u8 (xs.getD j 0)) ?_).1
   simp [List.getD,List.getElem?_eq_getElem hj]
 refine bp (v:=.string ⟨⟨xs.map fun n=>mS n.toNat⟩⟩) (w':=w) ?_ (bz (e:=.v .str (xs.map fun n=>mS n.toNat)) hC hK hd (aO.refl w) ⟨rfl,[.string ⟨⟨xs.map fun n=>mS n.toNat⟩⟩],by unfold Flat; exact ⟨rfl,by rw [List.length_map]; exact Nat.le_trans hle hmx,rfl⟩,rfl⟩ h)
 simp [execOp,ho,ev,hrun]
theorem alM {src dst e:TypeId} {x:Operand} {y:Od} (hC:ah P B G0 W0 n env a.tmps w ob) (hK:bE P B G0 W0 n a K r next) (hd:∀ k,o.dst=some k→bl W0 n k) (hdst:i.dst=o.dst)
  (ho:o.op=.convert src dst x) (hi:i.op=.qW y) (hs:P.underlying src=some .string) (ht:P.underlying dst=some (.slice e)) (he:P.underlying e=some (.int .u8)) (hx:aF x y=true) (h:step cl i env K=some r):o.wp P a w next Q:=by
 unfold step at h; rw [hi] at h; simp only [hdst,aq] at h
 obtain ⟨s,hss,h⟩:=h
 obtain ⟨hv,hl⟩:=tV hC hx hss
 have hrun:=run_bytes_of_string w src dst e ⟨⟨s⟩⟩ hs ht he
 have hsz:(⟨⟨s⟩⟩:ByteArray).size=s.length:=rfl
 rw [hsz] at hrun
 generalize hcap:grownCap w s.length 0 e=cap at hrun
 have hge:s.length≤cap:=by rw [←hcap]; exact grownCap_ge w _ _ _
 have hcm:cap≤maxLen:=by rw [←hcap]; exact grownCap_le_maxLen w _ _ _ hl
 generalize hfz:((bytesRow ⟨⟨s⟩⟩ cap).size,(bytesRow ⟨⟨s⟩⟩ cap).size+1)=fz at hrun
 have hg:aO w (w.drew.alloc (.cells (bytesRow ⟨⟨s⟩⟩ cap) e fz)):=(aO.drew w).trans (aO.alloc w.drew _)
 refine bp (v:=.slice (some ⟨w.heap.size,0,none⟩) s.length cap) (w':=w.drew.alloc (.cells (bytesRow ⟨⟨s⟩⟩ cap) e fz)) (by simp [execOp,ho,hv,hrun]) ?_
 cases bU:o.dst with
 | none=>rw [bU] at h; exact bz (d:=none) (e:=.dead) hC hK (fun k hk=>by cases hk) hg (v:=undef) rfl h
 | some k=>
   rw [bU] at h
   have hxl:(s.map fun b=>(b.toNat:Int)).length=s.length:=by simp
   have hrow:cap - s.length+s.length=cap:=by omega
   have hbs:(bytesRow ⟨⟨s⟩⟩ cap).size=cap:=by
    unfold bytesRow
    simp only [Array.size_append,Array.size_map,Array.size_replicate,nF,hsz]
    omega
   have h2:=ah.mF (e:=.own true gV (.int .u8) .no (s.map fun b=>(b.toNat:Int))) (v:=.slice (some ⟨w.heap.size,0,none⟩) s.length cap) (bk:=[(w.heap.size,0)]) hC (hd k bU) hg ?_ (by simp) (by simp)
   ·exact hK _ _ _ _ h2 h
   ·rw [if_neg (by simp [leads])]
    show Flat P (.sl (.int .u8)) _ _ B (.own true gV .no) (s.map fun b=>(b.toNat:Int)) [_] _
    unfold Flat
    refine ⟨_,(s.map fun b=>(b.toNat:Int)).map (Value.int .u8),[],rfl,⟨by simp [ay],.inr ⟨w.heap.size,cap,bytesRow ⟨⟨s⟩⟩ cap,e,fz,by rw [hxl],hC.base,heap_alloc_new w.drew _,by rw [hxl]; exact hge,hcm,by rw [hbs]; simp [ay],?_,fun h=>absurd rfl h,.inr (by rw [←hfz]; exact cE _)⟩⟩,Ue (fun y hy=>?_),by simp [bN,Value.ownBlock]⟩
    ·simp only [ay,Nat.mul_one,hxl]
     unfold bytesRow
     simp only [Array.toList_append,Array.toList_map]
     rw [List.take_left' (by simp)]
     simp [List.map_map,Function.comp_def]
    ·obtain ⟨b,_,rfl⟩:=List.mem_map.1 hy
     have:=zo b
     constructor
     ·show (0:Int)≤_; omega
     ·show _≤(255:Int); omega
end
end Go.Fw
/- Soundness: copies that are shared; calls that write a list anew. -/
namespace Go.Fw
open Go Go.RowKit
section
variable {P:Program} {B:Nat} {G0:Nat→Nat→Prop} {W0:dc} {n:Nat} {env:Env} {tm:Array Value} {a:Act} {w:World} {ob:Nat→OB} {cl:az}
variable {R:Type} {K:cM R} {r:R} {next:Act→World→Prop} {Q:Exit→Act→World→Prop} {o:Oper} {i:AI}
theorem WG {x:Operand} {y:Od} (hC:ah P B G0 W0 n env a.tmps w ob) (hK:bE P B G0 W0 n a K r next) (hd:∀ k,o.dst=some k→bl W0 n k) (hdst:i.dst=o.dst)
  (ho:o.op=.move x∨o.op=.assign x) (hi:i.op=.cp y) (hx:aF x y=true) (h:step cl i env K=some r):o.wp P a w next Q:=by
 unfold step at h; rw [hi] at h; simp only [hdst,aq] at h
 obtain ⟨⟨env',z⟩,hz,h⟩:=h
 obtain ⟨ob',hf,hC',vs,hv,hF⟩:=la hC hx hz
 refine bp (w':=w) (v:=a.eval x) ?_ (bz (e:=.v z.1 z.2) hC' hK hd (aO.refl w) ⟨rfl,vs,hF,hv⟩ h)
 rcases ho with ho | ho<;>simp [execOp,ho]
theorem ah.grow (hC:ah P B G0 W0 n env tm w ob) {w':World} (hg:aO w w') {env':Env} (he:∀ k,look env' k=look env k):ah P B G0 W0 n env' tm w' ob:=by
 refine ah.step hC (.less hg fun k b hb=>⟨k,hb⟩) (hg.below hC.base) (fun b i hb h=>⟨h,hg.cell hb⟩) (fun k=>.inl ⟨he k,rfl,rfl,fun g hg'=>hg.block g (hC.low k g hg').2,fun s hs=>?_⟩) hC.dist hC.nodup (fun k b hb=>⟨(hC.low k b hb).1,Nat.lt_of_lt_of_le (hC.low k b hb).2 hg.size⟩) hC.size (fun _ _=>rfl)
 exact eL.same (P:=P) (he s) rfl (hC.rep s) (fun g hg'=>hg.block g (hC.low s g hg').2)
theorem Le (hC:ah P B G0 W0 n env tm w ob) {s:Nat} {e:TypeId} {T:Ty} {xs:List (den T)} (hs:look env s=.own true e T .no xs):
  ∃ cells,gk w B e (ay T) (tm.getD s undef) xs.length cells∧aL (Flat P T w (Gd B G0 ob) B .no) xs cells []∧ob s=bN (tm.getD s undef) 0:=by
 have hr:=hC.rep s
 rw [hs] at hr
 change Flat P (.sl T) w (Gd B G0 ob) B (.own true e .no) xs [tm.getD s undef] (ob s) at hr
 unfold Flat at hr
 obtain ⟨v',cells,ob',e1,hrow,hel,hob⟩:=hr
 simp only [gC,and_true] at e1
 subst e1
 obtain ⟨hobn,hel0⟩:=aL.pure P (o':=.no) rfl rfl hel
 subst hobn
 exact ⟨cells,hrow,hel0,by rw [hob]; simp⟩
theorem ah.ah1 (hC:ah P B G0 W0 n env tm w ob) {s:Nat} {e:TypeId} {T:Ty} {xs ys:List (den T)} (hs:look env s=.own true e T .no xs) (hlen:ys.length=xs.length) {w':World} {cells cells':List Value}
  (hrow:gk w B e (ay T) (tm.getD s undef) xs.length cells) (hob:ob s=bN (tm.getD s undef) 0) (hl:cells'.length=cells.length) (hel:∀ (w:World) (G:Nat→Nat→Prop),aL (Flat P T w G B .no) ys cells' [])
  (hw:DW w w' (tm.getD s undef) (xs.length * ay T) cells'):ah P B G0 W0 n ((s,.own true e T .no ys)::env) tm w' ob:=by
 rcases hw with ⟨h1,hg,_⟩ | ⟨g,cur,e1,fz,cs,w1,hv,hg,hgr,rfl,hsz,htk⟩
 ·have hx0:xs.length=0:=by
   rcases hrow.2 with ⟨_,h⟩ | ⟨g,cap,cur,e',fz,hv,_⟩
   ·exact h
   ·rw [hv] at h1; simp [Value.ownBlock] at h1
  have hx:xs=[]:=kK.1 hx0
  have hy:ys=[]:=kK.1 (by omega)
  subst hx; subst hy
  refine ah.grow hC hg fun k=>?_
  rw [aP]
  split
  ·rename_i h; subst h; exact hs.symm
  ·rfl
 ·have hg0:(g,0)∈ob s:=by rw [hob]; exact jY hv
  have hlt:g < w.heap.size:=(hC.low s g (aE.2 ⟨_,hg0⟩)).2
  have hC1:ah P B G0 W0 n env tm w1 ob:=ah.grow hC hgr fun _=>rfl
  refine ah.zn hC1 hg0 cs ⟨fun q v hq hv=>?_,fun q h hq=>?_,fun T o x hx=>?_,fun q v hm _=>by simp [eP,hs] at hm⟩ ?_
  ·simp only [bj,hs] at hv
   simp only [bj]; rw [aP,if_pos rfl]; exact hv
  ·simp only [bc,hs] at hq
   simp only [bc]; rw [aP,if_pos rfl]
   cases q with
   | nil=>simp only [aw] at hq; subst hq; exact ⟨_,rfl,rfl,hlen⟩
   | cons=>exact absurd hq (by simp)
  ·rw [hs] at hx; exact absurd hx (by simp)
  ·show Flat P (.sl T) _ (Gd B G0 ob) B (.own true e .no) ys [tm.getD s undef] (ob s)
   unfold Flat
   refine ⟨_,cells',[],rfl,⟨by rw [hl,hrow.1,hlen],?_⟩,hel _ _,by rw [hob]; simp⟩
   rcases hrow.2 with ⟨h,_⟩ | ⟨g',cap,cur',e',fz',hv',hBg,hg',hnc,hcm,hcs,htake,hbf,hfz⟩
   ·rw [h] at hv; simp [Value.ownBlock] at hv
   ·rw [hv'] at hv
    simp [Value.ownBlock] at hv
    subst hv
    rw [hg] at hg'
    cases hg'
    have hg1:w1.heap[g']?=some (.cells cur e1 fz):=by rw [hgr.block g' hlt]; exact hg
    refine .inr ⟨g',cap,cs,e1,fz,by rw [hlen]; exact hv',hBg,setRow_heap w1 g' cur _ e1 fz hg1,by rw [hlen]; exact hnc,hcm,by rw [hsz]; exact hcs,by rw [hlen]; exact htk,hbf,?_⟩
    rcases hfz with h | h
    ·exact .inl h
    ·right; rw [hsz]; exact h
theorem VW {x:Operand} {y:Od} (hC:ah P B G0 W0 n env a.tmps w ob) (hx:aF x y=true) {s:Nat} (hy:qO env y=some s) {e:TypeId} {T:Ty} {o:ax} {xs:List (den T)} {wr:Bool} (hs:look env s=.own wr e T o xs):a.eval x=a.tmps.getD s undef:=by
 cases y with
 | t k=>
   simp only [qO] at hy
   rw [jH hx a]
   split at hy
   ·cases hy; rfl
   ·rename_i s' hk
    cases hy
    have hr:=hC.rep k
    rw [hk] at hr
    obtain ⟨_,h1,_⟩:=hr
    simp only [bj,hs,aw] at h1
    exact h1.symm
   ·cases hy
 | c=>simp [qO] at hy
 | nil=>simp [qO] at hy
 | fn=>simp [qO] at hy
theorem aL.eZ {T:Ty} (hs:cB T=true) {G:Nat→Nat→Prop} (B2:Nat) (w2:World) (G2:Nat→Nat→Prop) {xs:List (den T)} {vs:List Value} (h:aL (Flat P T w G B .no) xs vs []):aL (Flat P T w2 G2 B2 .no) xs vs []:=
 aL.imp (fun x v b hb hx=>by
  have:b=[]:=by cases b with | nil=>rfl | cons q r=>exact absurd (hb q (by simp)) (by simp)
  subst this
  exact (Flat.eZ P T hs hx).2 _ _ _ _) h
theorem alP {f:FuncId} {us:Array Operand} {ats:Array TypeId} {x:Operand} {y:Od} (hgood:Good P W0.t cl) (hC:ah P B G0 W0 n env a.tmps w ob) (hK:bE P B G0 W0 n a K r next) (hd:∀ k,o.dst=some k→bl W0 n k) (hdst:i.dst=o.dst)
  (ho:o.op=.call {callee:=.value (.func f),args:=us,argTypes:=ats}) (hi:i.op=.LA f y) (hus:us.toList=[x]) (hx:aF x y=true) (h:step cl i env K=some r):o.wp P a w next Q:=by
 unfold step at h; rw [hi] at h; simp only [hdst,az.eqn,aq] at h
 obtain ⟨s,hs,h⟩:=h
 split at h
 case h_2=>simp at h
 rename_i e T xs hl
 split at h
 case isFalse=>simp at h
 rename_i hb
 simp only [au,du,beq_eq_false_iff_ne] at hb
 simp only [aq] at h
 obtain ⟨res,hres,z,hz,ys',hys,h⟩:=h
 obtain ⟨ys,rfl,hlen,hcal,hw⟩:=hgood.wr f e T xs res hres hb.1
 simp only [qN,aw] at hz
 subst hz
 have:=cL hys
 cases this
 obtain ⟨cells,hrow,hel,hob⟩:=Le hC hl
 have hev:=VW hC hx hs hl
 have hcall:=hw w B (Gd B G0 ob) _ cells hb.2 hrow hel
 have hrun:(execOp a.eval o).run P w=.ok (.enter f (us.map a.eval)) w:=by
  have:=mH hcal (us.map a.eval) w
  simp [execOp,ho,resolve,Deferred.ofValue,invoke,Act.eval,this]
 have e2:us.map a.eval=#[a.tmps.getD s undef]:=by apply Array.toList_inj.1; simp [hus,hev]
 rw [e2] at hrun
 refine kH hrun (Calls.mono hcall ?_)
 rintro en w' ⟨rfl,cells',hcl,hel',hrw⟩
 have hC':=ah.ah1 hC hl hlen hrow hob hcl (fun w2 G2=>aL.eZ hb.1 B w2 G2 hel') hrw
 exact ⟨_,rfl,bz (e:=.cI []) hC' hK hd (aO.refl w') ⟨by simp,#[],rfl,rfl,rfl⟩ h⟩
end
end Go.Fw
