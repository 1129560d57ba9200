/- Own work: the value machine, part 4. -/
import Derived.Test.YtooiookccchmeaaGreatFwB3
import Derived.Laws.StructEq
import Derived.Test.YtooiookccchmeaaGreatFwB1
import Derived.Laws.RangeString
import Derived.Laws.BytesArg
import Derived.Laws.IdiomStrings
set_option linter.unusedVariables false
set_option linter.unusedSimpArgs false
open Array renaming getElem?_toList → iL
open Bool renaming and_eq_true → aq, false_eq_true → dN, not_eq_true' → dc
open Eq renaming trans → dO
open List renaming length_append → b5, getElem?_toArray → BH, append_assoc → bI, getElem?_append_left → fP, getElem?_append_right → eC, nodup_cons → nN, mem_append → dn, mem_cons → cD, nodup_append → iP, take_append_drop → pK, drop_left → BD, length_set → lV, length → kr, size_toArray → mH, take_left → BO, append_eq_nil_iff → BB, mem_cons_of_mem → eL, length_eq_zero_iff → lU
open List.cons renaming injEq → gg
open Nat renaming le_refl → cE, decEq → eQ, beq → xm
open Ne renaming symm → bp
open Option renaming bind_eq_some_iff → aj, bind_some → ar
open Option.some renaming injEq → av
open Prod.mk renaming injEq → er
open Sigma.mk renaming inj → jq
open UInt8 renaming ofNat → l6
/- Soundness, part 19: writing. -/
namespace Go.Fw
open Go Go.RowKit
theorem wq:∀ (p:Path) (T:Ty) {x:den T} {y:TV},b7 T=true→aF T p x=some y→b7 y.1=true
 | [],T,x,y,hs,h=>by simp only [aF,av] at h; subst h; exact hs
 | .l::p,.pair A C,x,y,hs,h=>by simp only [b7,aq] at hs; simp only [aF] at h; exact wq p A hs.1 h
 | .r::p,.pair A C,x,y,hs,h=>by simp only [b7,aq] at hs; simp only [aF] at h; exact wq p C hs.2 h
 | .ix i::p,.arr n T,x,y,hs,h=>by
   simp only [b7] at hs; simp only [aF] at h
   split at h
   ·exact wq p T hs h
   ·simp at h
 | .l::_,.int _,_,_,_,h | .l::_,.bool,_,_,_,h | .l::_,.str,_,_,_,h | .l::_,.unit,_,_,_,h | .l::_,.sl _,_,_,_,h | .l::_,.arr _ _,_,_,_,h | .l::_,.fn _ _,_,_,_,h=>by simp [aF] at h
 | .r::_,.int _,_,_,_,h | .r::_,.bool,_,_,_,h | .r::_,.str,_,_,_,h | .r::_,.unit,_,_,_,h | .r::_,.sl _,_,_,_,h | .r::_,.arr _ _,_,_,_,h | .r::_,.fn _ _,_,_,_,h=>by simp [aF] at h
 | .ix _::_,.int _,_,_,_,h | .ix _::_,.bool,_,_,_,h | .ix _::_,.str,_,_,_,h | .ix _::_,.unit,_,_,_,h | .ix _::_,.sl _,_,_,_,h | .ix _::_,.pair _ _,_,_,_,h | .ix _::_,.fn _ _,_,_,_,h=>by simp [aF] at h
theorem fB:∀ (p:Path) (T:Ty) {x x1:den T} {T':Ty} {z:den T'},aZ T p x ⟨T',z⟩=some x1→∃ y:den T',aF T p x=some ⟨T',y⟩
 | [],T,x,x1,T',z,h=>by
   simp only [aZ] at h
   have:=cI h; cases this
   exact ⟨x,by cases T<;>rfl⟩
 | .l::p,.pair A C,x,x1,T',z,h=>by
   simp only [aZ,aj] at h; obtain ⟨u,h,_⟩:=h
   simp only [aF]; exact fB p A h
 | .r::p,.pair A C,x,x1,T',z,h=>by
   simp only [aZ,aj] at h; obtain ⟨u,h,_⟩:=h
   simp only [aF]; exact fB p C h
 | .ix i::p,.arr n T,x,x1,T',z,h=>by
   simp only [aZ] at h
   split at h
   ·rename_i hi
    simp only [aj] at h; obtain ⟨u,h,_⟩:=h
    simp only [aF]; rw [if_pos hi]; exact fB p T h
   ·simp at h
 | .l::_,.int _,_,_,_,_,h | .l::_,.bool,_,_,_,_,h | .l::_,.str,_,_,_,_,h | .l::_,.unit,_,_,_,_,h | .l::_,.sl _,_,_,_,_,h | .l::_,.arr _ _,_,_,_,_,h | .l::_,.fn _ _,_,_,_,_,h=>by simp [aZ] at h
 | .r::_,.int _,_,_,_,_,h | .r::_,.bool,_,_,_,_,h | .r::_,.str,_,_,_,_,h | .r::_,.unit,_,_,_,_,h | .r::_,.sl _,_,_,_,_,h | .r::_,.arr _ _,_,_,_,_,h | .r::_,.fn _ _,_,_,_,_,h=>by simp [aZ] at h
 | .ix _::_,.int _,_,_,_,_,h | .ix _::_,.bool,_,_,_,_,h | .ix _::_,.str,_,_,_,_,h | .ix _::_,.unit,_,_,_,_,h | .ix _::_,.sl _,_,_,_,_,h | .ix _::_,.pair _ _,_,_,_,_,h | .ix _::_,.fn _ _,_,_,_,_,h=>by simp [aZ] at h
theorem nA {P:Program} {w:World} {G:Nat→Nat→Prop} {B:Nat} {o:aw} {T:Ty} {x:den T} {vs:List Value} {ob:OB} {p:Path} {T':Ty} {y:den T'} (hF:Flat P T w G B o x vs ob) (h:aF T p x=some ⟨T',y⟩):a7 T p+ax T'≤ax T:=by
 obtain ⟨v1,v2,v3,b1,b2,b3,e1,_,e3,e4,_⟩:=Flat.lens P p T hF h
 have h1:=Flat.len P T hF
 have h2:=Flat.len P T' e4
 rw [e1] at h1; simp only [b5] at h1; omega
theorem NQ {U:Ty} (h:bZ U=false):ax U=1:=by cases U<;>first | rfl | (simp [bZ] at h; done)
theorem wQ {P:Program} {w:World} {G:Nat→Nat→Prop} {B:Nat}:∀ (q p:Path) (T0:Ty) {o:aw} {x x1:den T0} {vs:List Value} {ob:OB} {T U:Ty} {z:den T} {xs:den U},b7 U=false∧bZ U=false→Flat P T0 w G B o x vs ob→b7 T=true→
  aZ T0 p x ⟨T,z⟩=some x1→cc q=false→aF T0 q x=some ⟨U,xs⟩→aF T0 q x1=some ⟨U,xs⟩∧(a7 T0 q < a7 T0 p∨a7 T0 p+ax T≤a7 T0 q)
 | [],p,T0,o,x,x1,vs,ob,T,U,z,xs,hU,hF,hs,hset,_,hg=>by
   exfalso
   have:T0=U:=by
    simp only [aF,av] at hg
    exact (jq hg).1
   subst this
   obtain ⟨y,hy⟩:=fB p _ hset
   cases p with
   | nil=>
     simp only [aF,av] at hy
     have:=(jq hy).1
     subst this; rw [hU.1] at hs; cases hs
   | cons st p=>cases T0<;>simp [bZ] at hU<;>cases st<;>simp [aF] at hy
 | .l::q,p,.pair A C,o,x,x1,vs,ob,T,U,z,xs,hU,hF,hs,hset,hq,hg=>by
   have hF':=hF
   unfold Flat at hF; obtain ⟨u1,u2,c1,c2,rfl,rfl,h1,h2⟩:=hF
   simp only [aF] at hg
   simp only [cc] at hq
   obtain ⟨y,hy⟩:=fB p _ hset
   match p,hset,hy with
   | [],hset,hy=>
     exfalso
     simp only [aF,av] at hy
     have:=(jq hy).1
     subst this
     simp only [b7,aq] at hs
     have:=wq q A hs.1 hg
     simp [hU.1] at this
   | .l::p,hset,hy=>
     simp only [aZ,aj,av] at hset
     obtain ⟨u,hu,rfl⟩:=hset
     simp only [aF,a7]
     exact wQ q p A hU h1 hs hu hq hg
   | .r::p,hset,hy=>
     simp only [aZ,aj,av] at hset
     obtain ⟨u,hu,rfl⟩:=hset
     simp only [aF,a7]
     refine ⟨hg,.inl ?_⟩
     have:=nA h1 hg
     have:=NQ hU.2
     omega
   | .ix i::p,hset,hy=>simp [aZ] at hset
 | .r::q,p,.pair A C,o,x,x1,vs,ob,T,U,z,xs,hU,hF,hs,hset,hq,hg=>by
   have hF':=hF
   unfold Flat at hF; obtain ⟨u1,u2,c1,c2,rfl,rfl,h1,h2⟩:=hF
   simp only [aF] at hg
   simp only [cc] at hq
   obtain ⟨y,hy⟩:=fB p _ hset
   match p,hset,hy with
   | [],hset,hy=>
     exfalso
     simp only [aF,av] at hy
     have:=(jq hy).1
     subst this
     simp only [b7,aq] at hs
     have:=wq q C hs.2 hg
     simp [hU.1] at this
   | .r::p,hset,hy=>
     simp only [aZ,aj,av] at hset
     obtain ⟨u,hu,rfl⟩:=hset
     simp only [aF,a7]
     have:=wQ q p C hU h2 hs hu hq hg
     exact ⟨this.1,by omega⟩
   | .l::p,hset,hy=>
     simp only [aZ,aj,av] at hset
     obtain ⟨u,hu,rfl⟩:=hset
     simp only [aF,a7] at hy ⊢
     refine ⟨hg,.inr ?_⟩
     have:=nA h1 hy
     omega
   | .ix i::p,hset,hy=>simp [aZ] at hset
 | .ix i::q,p,T0,_,_,_,_,_,_,_,_,_,_,_,_,_,hq,_=>by simp [cc] at hq
 | .l::_,_,.int _,_,_,_,_,_,_,_,_,_,_,_,_,_,_,h | .l::_,_,.bool,_,_,_,_,_,_,_,_,_,_,_,_,_,_,h | .l::_,_,.str,_,_,_,_,_,_,_,_,_,_,_,_,_,_,h | .l::_,_,.unit,_,_,_,_,_,_,_,_,_,_,_,_,_,_,h | .l::_,_,.sl _,_,_,_,_,_,_,_,_,_,_,_,_,_,_,h | .l::_,_,.arr _ _,_,_,_,_,_,_,_,_,_,_,_,_,_,_,h | .l::_,_,.fn _ _,_,_,_,_,_,_,_,_,_,_,_,_,_,_,h=>by simp [aF] at h
 | .r::_,_,.int _,_,_,_,_,_,_,_,_,_,_,_,_,_,_,h | .r::_,_,.bool,_,_,_,_,_,_,_,_,_,_,_,_,_,_,h | .r::_,_,.str,_,_,_,_,_,_,_,_,_,_,_,_,_,_,h | .r::_,_,.unit,_,_,_,_,_,_,_,_,_,_,_,_,_,_,h | .r::_,_,.sl _,_,_,_,_,_,_,_,_,_,_,_,_,_,_,h | .r::_,_,.arr _ _,_,_,_,_,_,_,_,_,_,_,_,_,_,_,h | .r::_,_,.fn _ _,_,_,_,_,_,_,_,_,_,_,_,_,_,_,h=>by simp [aF] at h
theorem pR:∀ (q:Path) (o:aw),o.pure=true→(bU o q).pure=true
 | [],_,h=>h
 | .l::q,o,h=>pR q o.l (aw.se h)
 | .r::q,o,h=>pR q o.r (aw.sf h)
 | .ix _::_,_,_=>rfl
theorem wR {P:Program} {w:World} {G:Nat→Nat→Prop} {B:Nat}:∀ (q p:Path) (T0:Ty) {o:aw} {x x1:den T0} {vs:List Value} {ob:OB} {T U:Ty} {z:den T} {xs:den U},b7 U=false∧bZ U=false→Flat P T0 w G B o x vs ob→(bU o p).pure=true→
  aZ T0 p x ⟨T,z⟩=some x1→(bU o q).pure=false→aF T0 q x=some ⟨U,xs⟩→aF T0 q x1=some ⟨U,xs⟩∧(a7 T0 q < a7 T0 p∨a7 T0 p+ax T≤a7 T0 q)
 | [],p,T0,o,x,x1,vs,ob,T,U,z,xs,hU,hF,hs,hset,hq,hg=>by
   exfalso
   have:T0=U:=by
    simp only [aF,av] at hg
    exact (jq hg).1
   subst this
   obtain ⟨y,hy⟩:=fB p _ hset
   cases p with
   | nil=>
     simp only [bU] at hs hq
     rw [hq] at hs; cases hs
   | cons st p=>cases T0<;>simp [bZ] at hU<;>cases st<;>simp [aF] at hy
 | .l::q,p,.pair A C,o,x,x1,vs,ob,T,U,z,xs,hU,hF,hs,hset,hq,hg=>by
   have hF':=hF
   unfold Flat at hF; obtain ⟨u1,u2,c1,c2,rfl,rfl,h1,h2⟩:=hF
   simp only [aF] at hg
   obtain ⟨y,hy⟩:=fB p _ hset
   match p,hset,hy with
   | [],hset,hy=>
     exfalso
     have:=pR (.l::q) o hs
     rw [hq] at this; cases this
   | .l::p,hset,hy=>
     simp only [aZ,aj,av] at hset
     obtain ⟨u,hu,rfl⟩:=hset
     simp only [aF,a7]
     exact wR q p A hU h1 hs hu hq hg
   | .r::p,hset,hy=>
     simp only [aZ,aj,av] at hset
     obtain ⟨u,hu,rfl⟩:=hset
     simp only [aF,a7]
     refine ⟨hg,.inl ?_⟩
     have:=nA h1 hg
     have:=NQ hU.2
     omega
   | .ix i::p,hset,hy=>simp [aZ] at hset
 | .r::q,p,.pair A C,o,x,x1,vs,ob,T,U,z,xs,hU,hF,hs,hset,hq,hg=>by
   have hF':=hF
   unfold Flat at hF; obtain ⟨u1,u2,c1,c2,rfl,rfl,h1,h2⟩:=hF
   simp only [aF] at hg
   obtain ⟨y,hy⟩:=fB p _ hset
   match p,hset,hy with
   | [],hset,hy=>
     exfalso
     have:=pR (.r::q) o hs
     rw [hq] at this; cases this
   | .r::p,hset,hy=>
     simp only [aZ,aj,av] at hset
     obtain ⟨u,hu,rfl⟩:=hset
     simp only [aF,a7]
     have:=wR q p C hU h2 hs hu hq hg
     exact ⟨this.1,by omega⟩
   | .l::p,hset,hy=>
     simp only [aZ,aj,av] at hset
     obtain ⟨u,hu,rfl⟩:=hset
     simp only [aF,a7] at hy ⊢
     refine ⟨hg,.inr ?_⟩
     have:=nA h1 hy
     omega
   | .ix i::p,hset,hy=>simp [aZ] at hset
 | .ix i::q,p,T0,_,_,_,_,_,_,_,_,_,_,_,_,_,hq,_=>by simp [bU,aw.pure] at hq
 | .l::_,_,.int _,_,_,_,_,_,_,_,_,_,_,_,_,_,_,h | .l::_,_,.bool,_,_,_,_,_,_,_,_,_,_,_,_,_,_,h | .l::_,_,.str,_,_,_,_,_,_,_,_,_,_,_,_,_,_,h | .l::_,_,.unit,_,_,_,_,_,_,_,_,_,_,_,_,_,_,h | .l::_,_,.sl _,_,_,_,_,_,_,_,_,_,_,_,_,_,_,h | .l::_,_,.arr _ _,_,_,_,_,_,_,_,_,_,_,_,_,_,_,h | .l::_,_,.fn _ _,_,_,_,_,_,_,_,_,_,_,_,_,_,_,h=>by simp [aF] at h
 | .r::_,_,.int _,_,_,_,_,_,_,_,_,_,_,_,_,_,_,h | .r::_,_,.bool,_,_,_,_,_,_,_,_,_,_,_,_,_,_,h | .r::_,_,.str,_,_,_,_,_,_,_,_,_,_,_,_,_,_,h | .r::_,_,.unit,_,_,_,_,_,_,_,_,_,_,_,_,_,_,h | .r::_,_,.sl _,_,_,_,_,_,_,_,_,_,_,_,_,_,_,h | .r::_,_,.arr _ _,_,_,_,_,_,_,_,_,_,_,_,_,_,_,h | .r::_,_,.fn _ _,_,_,_,_,_,_,_,_,_,_,_,_,_,_,h=>by simp [aF] at h
theorem sR:∀ (p:Path) (o:aw),cc p=true→(bU o p).pure=true
 | [],_,h=>by simp [cc] at h
 | .l::p,o,h=>by simp only [cc] at h; exact sR p o.l h
 | .r::p,o,h=>by simp only [cc] at h; exact sR p o.r h
 | .ix _::_,_,_=>rfl
theorem Flat.sj {P:Program} {w:World} {G:Nat→Nat→Prop} {B:Nat}:∀ (p:Path) (T:Ty) {o:aw} {x y:den T} {vs:List Value} {ob:OB} {z:TV},aF T p y=some z→Flat P T w G B (eI o p (bU o p)) x vs ob→Flat P T w G B o x vs ob
 | [],_,_,_,_,_,_,_,_,h=>h
 | .ix _::_,_,_,_,_,_,_,_,_,h=>h
 | .l::p,.pair A C,o,x,y,vs,ob,z,hg,h=>by
   simp only [aF] at hg
   unfold Flat at h ⊢
   obtain ⟨v1,v2,b1,b2,e1,e2,h1,h2⟩:=h
   exact ⟨v1,v2,b1,b2,e1,e2,Flat.sj p A hg h1,h2⟩
 | .r::p,.pair A C,o,x,y,vs,ob,z,hg,h=>by
   simp only [aF] at hg
   unfold Flat at h ⊢
   obtain ⟨v1,v2,b1,b2,e1,e2,h1,h2⟩:=h
   exact ⟨v1,v2,b1,b2,e1,e2,h1,Flat.sj p C hg h2⟩
 | .l::_,.int _,_,_,_,_,_,_,h,_ | .l::_,.bool,_,_,_,_,_,_,h,_ | .l::_,.str,_,_,_,_,_,_,h,_ | .l::_,.unit,_,_,_,_,_,_,h,_ | .l::_,.sl _,_,_,_,_,_,_,h,_ | .l::_,.arr _ _,_,_,_,_,_,_,h,_ | .l::_,.fn _ _,_,_,_,_,_,_,h,_=>by simp [aF] at h
 | .r::_,.int _,_,_,_,_,_,_,h,_ | .r::_,.bool,_,_,_,_,_,_,h,_ | .r::_,.str,_,_,_,_,_,_,h,_ | .r::_,.unit,_,_,_,_,_,_,h,_ | .r::_,.sl _,_,_,_,_,_,_,h,_ | .r::_,.arr _ _,_,_,_,_,_,_,h,_ | .r::_,.fn _ _,_,_,_,_,_,_,h,_=>by simp [aF] at h
section
variable {P:Program} {B:Nat} {G0:Nat→Nat→Prop} {W0:cZ} {n:Nat} {env:Env} {tm:Array Value} {a:Act} {w:World} {ob:Nat→OB} {cl:ay}
variable {R:Type} {K:cH R} {r:R} {next:Act→World→Prop} {Q:Exit→Act→World→Prop} {o:Oper} {i:AI}
theorem Below.setRow {b:Nat} (hb:B≤b) (cs:Array Value):Below B w (w.setRow b cs):=
 ⟨rfl,rfl,rfl,by simp,fun k hk=>setRow_other w b k cs (by omega),cE _⟩
theorem ae.wW (hC:ae P B G0 W0 n env tm w ob) {s b:Nat} (hb:(b,0)∈ob s) (cs:Array Value) {e:E} (hhome:eo w tm env (w.setRow b cs) tm ((s,e)::env) s)
  (hnew:bm P (w.setRow b cs) (Gd B G0 ob) B tm ((s,e)::env) e (tm.getD s undef) (ob s)):ae P B G0 W0 n ((s,e)::env) tm (w.setRow b cs) ob:=by
 have hlow:=hC.low s b (aC.2 ⟨_,hb⟩)
 refine ae.step hC ⟨fun k b hb=>.inl ⟨k,hb⟩,fun b' _ hn=>setRow_other w b b' cs (by rintro rfl; exact hn s (aC.2 ⟨_,hb⟩))⟩ (Below.setRow hlow.1 cs) (fun b' i _ h=>⟨h,?_⟩) (fun j=>?_) hC.dist hC.nodup (fun k b' hb'=>by rw [setRow_size]; exact hC.low k b' hb') hC.size (fun _ _=>rfl)
 ·refine cell_setRow_other w b cs _ ?_
  rintro rfl
  rcases h with ⟨h,_⟩ | ⟨_,_,h⟩
  ·exact absurd h (by have:=hlow.1; simp at this ⊢; omega)
  ·exact absurd (h s 0 hb) (by simp)
 ·by_cases hj:j=s
  ·subst hj; right; rw [aL,if_pos rfl]; exact hnew
  ·left
   rw [aL,if_neg (bp hj)]
   refine ⟨rfl,rfl,rfl,fun g hg=>setRow_other w b g cs ?_,fun t ht=>?_⟩
   ·rintro rfl; exact hj (hC.dist j s _ hg (aC.2 ⟨_,hb⟩))
   ·by_cases hts:t=s
    ·subst hts; exact hhome
    ·refine eo.same (P:=P) (by rw [aL,if_neg (bp hts)]) rfl (hC.rep t) (fun g hg=>setRow_other w b g cs ?_)
     rintro rfl; exact hts (hC.dist t s _ hg (aC.2 ⟨_,hb⟩))
theorem wV {v1 v2 v3 u:List Value} (h:u.length=v2.length):(v1++v2++v3).take v1.length++u++(v1++v2++v3).drop (v1.length+u.length)=v1++u++v3:=by
 rw [h]; simp [List.drop_append]
theorem aht (hC:ae P B G0 W0 n env tm w ob) {s:Nat} {T0 T:Ty} {oa:aw} {x0 x1:den T0} {p:Path} {z:den T} {vs:List Value} (hs:look env s=.loc T0 oa x0) (hsc:b7 T=true) (hset:aZ T0 p x0 ⟨T,z⟩=some x1)
  (hz:Flat P T w (fun _ _=>True) B .no z vs []):∃ b cur e,tm.getD s undef=.pointer (some ⟨b,0,none⟩)∧w.heap[b]?=some (.cells cur e (0,0))∧a7 T0 p+vs.length≤cur.size∧
   ae P B G0 W0 n ((s,.loc T0 oa x1)::env) tm (w.setRow b (cur.toList.take (a7 T0 p)++vs++cur.toList.drop (a7 T0 p+vs.length)).toArray) ob:=by
 obtain ⟨y,hy⟩:=fB p T0 hset
 obtain ⟨b,cur,e,v1,v2,v3,b1,b2,b3,k1,k2,k3,k4,k5,k6,k7,k8⟩:=kh (a:=⟨tm,[]⟩) hC hs hy
 have hlv:vs.length=v2.length:=by rw [Flat.len P T hz,Flat.len P T k7]
 obtain ⟨hb2,_⟩:=Flat.eH P T hsc k7
 subst hb2
 have hz':Flat P T w (Gd B G0 ob) B (bU oa p) z vs []:=(Flat.eH P T hsc hz).2 _ _ _ _
 have hnew:=k8 _ z vs [] x1 (fun h=>sR p oa h) hz' hset
 have hnew:=Flat.sj p T0 hy hnew
 have hcs:(cur.toList.take (a7 T0 p)++vs++cur.toList.drop (a7 T0 p+vs.length))=v1++vs++v3:=by
  rw [k4,←k5]; exact wV hlv
 have hb0:(b,0)∈ob s:=by rw [k6]; simp
 refine ⟨b,cur,e,k1,k2,?_,?_⟩
 ·have:cur.size=cur.toList.length:=by simp
  rw [this,k4,←k5,hlv]; simp
 ·rw [hcs]
  have hr:=hC.rep s
  rw [hs] at hr
  obtain ⟨b',cur',e',ob',l1,l2,l3,l4,l5⟩:=hr
  rw [show tm.getD s undef=_ from k1] at l1; cases l1
  rw [k2] at l3; cases l3
  have hmap:∀ (q:Path) (v:Value),ew env s q=true→bj w tm env s q=some v→ew ((s,.loc T0 oa x1)::env) s q=true∧bj (w.setRow b (v1++vs++v3).toArray) tm ((s,.loc T0 oa x1)::env) s q=some v:=by
   intro q v hq hv
   simp only [bj,hs,k1] at hv
   simp only [ew,hs] at hq
   split at hq
   ·rename_i K V xs ha hg
    have hk:=wQ q p T0 ⟨rfl,rfl⟩ l4 hsc hset (by cases hx:cc q with | false=>rfl | true=>have:=sR q oa hx; rw [ha] at this; cases this) hg
    have hle:=nA l4 hg
    refine ⟨by simp only [ew]; rw [aL,if_pos rfl]; simp only [ha,hk.1],?_⟩
    simp only [bj]; rw [aL,if_pos rfl]; simp only [k1]
    rw [cell_setRow_same w b _ cur _ e (0,0) k2,←hv,cell_of_row w b _ cur e (0,0) k2]
    have hcur:∀ j,cur[j]?=(v1++v2++v3)[j]?:=fun j=>by rw [←iL,k4]
    rw [hcur]
    simp only [BH]
    rcases hk.2 with hlt | hge
    ·rw [←k5] at hlt
     rw [bI,fP hlt,bI,fP hlt]
    ·rw [←k5] at hge
     have hl2:=Flat.len P T hz
     rw [bI,eC (by omega),eC (by omega),bI,eC (by omega),eC (by omega),hlv]
   ·simp at hq
  refine ae.wW hC hb0 _ ⟨fun q v hq hv=>?_,fun q h hq=>?_,fun T o x hx=>?_,hmap⟩ ?_
  ·simp only [bj,hs,k1] at hv
   simp only [bj]; rw [aL,if_pos rfl]; simp only [k1]
   simp only [a8,hs] at hq
   split at hq
   ·rename_i wr ed o' T' xs ha hg
    have hk:=wQ q p T0 ⟨rfl,rfl⟩ l4 hsc hset (mO q oa ha) hg
    have hle:=nA l4 hg
    rw [cell_setRow_same w b _ cur _ e (0,0) k2,←hv,cell_of_row w b _ cur e (0,0) k2]
    have hcur:∀ j,cur[j]?=(v1++v2++v3)[j]?:=fun j=>by rw [←iL,k4]
    rw [hcur]
    simp only [BH]
    rcases hk.2 with hlt | hge
    ·rw [←k5] at hlt
     rw [bI,fP hlt,bI,fP hlt]
    ·rw [←k5] at hge
     have hl2:=Flat.len P T hz
     rw [bI,eC (by omega),eC (by omega),bI,eC (by omega),eC (by omega),hlv]
   ·simp at hq
  ·simp only [a8,hs] at hq
   simp only [a8]; rw [aL,if_pos rfl]
   simp only
   split at hq
   ·rename_i wr ed o' T' xs ha hg
    simp only [av] at hq; subst hq
    have hk:=wQ q p T0 ⟨rfl,rfl⟩ l4 hsc hset (mO q oa ha) hg
    exact ⟨_,by rw [ha,hk.1],rfl,rfl⟩
   ·simp at hq
  ·rw [hs] at hx; cases hx
   exact ⟨_,_,by rw [aL,if_pos rfl],rfl⟩
  ·refine ⟨b,_,e,b1++[]++b3,k1,k3,setRow_heap w b cur _ e (0,0) k2,?_,k6⟩
   have hnd:=hC.nodup s
   rw [k6] at hnd
   simp only [jt,nN] at hnd
   refine Flat.mono P T0 (fun b' i hb' h=>⟨h,?_⟩) ⟨by simp,fun k hk=>setRow_other w b k _ (by omega)⟩ (fun g hg=>setRow_other w b g _ ?_) hnew
   ·refine cell_setRow_other w b _ _ ?_
    rintro rfl
    rcases h with ⟨h,_⟩ | ⟨_,_,h⟩
    ·exact absurd h (by simp; omega)
    ·exact absurd (h s 0 hb0) (by simp)
   ·rintro rfl; exact hnd.1 hg
theorem ahs (hC:ae P B G0 W0 n env tm w ob) {s:Nat} {T0 T:Ty} {oa:aw} {x0 x1:den T0} {p:Path} {z:den T} {vs:List Value} (hs:look env s=.loc T0 oa x0) (hsc:(bU oa p).pure=true) (hset:aZ T0 p x0 ⟨T,z⟩=some x1)
  (hz:Flat P T w (Gd B G0 ob) B .no z vs []):∃ b cur e,tm.getD s undef=.pointer (some ⟨b,0,none⟩)∧w.heap[b]?=some (.cells cur e (0,0))∧a7 T0 p+vs.length≤cur.size∧
   ae P B G0 W0 n ((s,.loc T0 oa x1)::env) tm (w.setRow b (cur.toList.take (a7 T0 p)++vs++cur.toList.drop (a7 T0 p+vs.length)).toArray) ob:=by
 obtain ⟨y,hy⟩:=fB p T0 hset
 obtain ⟨b,cur,e,v1,v2,v3,b1,b2,b3,k1,k2,k3,k4,k5,k6,k7,k8⟩:=kh (a:=⟨tm,[]⟩) hC hs hy
 have hlv:vs.length=v2.length:=by rw [Flat.len P T hz,Flat.len P T k7]
 have hb2:=(Flat.pure P T hsc (o':=.no) rfl k7).1
 subst hb2
 have hz':Flat P T w (Gd B G0 ob) B (bU oa p) z vs []:=(Flat.pure P T (o:=.no) rfl hsc hz).2
 have hnew:=k8 _ z vs [] x1 (fun h=>sR p oa h) hz' hset
 have hnew:=Flat.sj p T0 hy hnew
 have hcs:(cur.toList.take (a7 T0 p)++vs++cur.toList.drop (a7 T0 p+vs.length))=v1++vs++v3:=by
  rw [k4,←k5]; exact wV hlv
 have hb0:(b,0)∈ob s:=by rw [k6]; simp
 refine ⟨b,cur,e,k1,k2,?_,?_⟩
 ·have:cur.size=cur.toList.length:=by simp
  rw [this,k4,←k5,hlv]; simp
 ·rw [hcs]
  have hr:=hC.rep s
  rw [hs] at hr
  obtain ⟨b',cur',e',ob',l1,l2,l3,l4,l5⟩:=hr
  rw [show tm.getD s undef=_ from k1] at l1; cases l1
  rw [k2] at l3; cases l3
  have hmap:∀ (q:Path) (v:Value),ew env s q=true→bj w tm env s q=some v→ew ((s,.loc T0 oa x1)::env) s q=true∧bj (w.setRow b (v1++vs++v3).toArray) tm ((s,.loc T0 oa x1)::env) s q=some v:=by
   intro q v hq hv
   simp only [bj,hs,k1] at hv
   simp only [ew,hs] at hq
   split at hq
   ·rename_i K V xs ha hg
    have hk:=wR q p T0 ⟨rfl,rfl⟩ l4 hsc hset (by rw [ha]; rfl) hg
    have hle:=nA l4 hg
    refine ⟨by simp only [ew]; rw [aL,if_pos rfl]; simp only [ha,hk.1],?_⟩
    simp only [bj]; rw [aL,if_pos rfl]; simp only [k1]
    rw [cell_setRow_same w b _ cur _ e (0,0) k2,←hv,cell_of_row w b _ cur e (0,0) k2]
    have hcur:∀ j,cur[j]?=(v1++v2++v3)[j]?:=fun j=>by rw [←iL,k4]
    rw [hcur]
    simp only [BH]
    rcases hk.2 with hlt | hge
    ·rw [←k5] at hlt
     rw [bI,fP hlt,bI,fP hlt]
    ·rw [←k5] at hge
     have hl2:=Flat.len P T hz
     rw [bI,eC (by omega),eC (by omega),bI,eC (by omega),eC (by omega),hlv]
   ·simp at hq
  refine ae.wW hC hb0 _ ⟨fun q v hq hv=>?_,fun q h hq=>?_,fun T o x hx=>?_,hmap⟩ ?_
  ·simp only [bj,hs,k1] at hv
   simp only [bj]; rw [aL,if_pos rfl]; simp only [k1]
   simp only [a8,hs] at hq
   split at hq
   ·rename_i wr ed o' T' xs ha hg
    have hk:=wR q p T0 ⟨rfl,rfl⟩ l4 hsc hset (by rw [ha]; rfl) hg
    have hle:=nA l4 hg
    rw [cell_setRow_same w b _ cur _ e (0,0) k2,←hv,cell_of_row w b _ cur e (0,0) k2]
    have hcur:∀ j,cur[j]?=(v1++v2++v3)[j]?:=fun j=>by rw [←iL,k4]
    rw [hcur]
    simp only [BH]
    rcases hk.2 with hlt | hge
    ·rw [←k5] at hlt
     rw [bI,fP hlt,bI,fP hlt]
    ·rw [←k5] at hge
     have hl2:=Flat.len P T hz
     rw [bI,eC (by omega),eC (by omega),bI,eC (by omega),eC (by omega),hlv]
   ·simp at hq
  ·simp only [a8,hs] at hq
   simp only [a8]; rw [aL,if_pos rfl]
   simp only
   split at hq
   ·rename_i wr ed o' T' xs ha hg
    simp only [av] at hq; subst hq
    have hk:=wR q p T0 ⟨rfl,rfl⟩ l4 hsc hset (by rw [ha]; rfl) hg
    exact ⟨_,by rw [ha,hk.1],rfl,rfl⟩
   ·simp at hq
  ·rw [hs] at hx; cases hx
   exact ⟨_,_,by rw [aL,if_pos rfl],rfl⟩
  ·refine ⟨b,_,e,b1++[]++b3,k1,k3,setRow_heap w b cur _ e (0,0) k2,?_,k6⟩
   have hnd:=hC.nodup s
   rw [k6] at hnd
   simp only [jt,nN] at hnd
   refine Flat.mono P T0 (fun b' i hb' h=>⟨h,?_⟩) ⟨by simp,fun k hk=>setRow_other w b k _ (by omega)⟩ (fun g hg=>setRow_other w b g _ ?_) hnew
   ·refine cell_setRow_other w b _ _ ?_
    rintro rfl
    rcases h with ⟨h,_⟩ | ⟨_,_,h⟩
    ·exact absurd h (by simp; omega)
    ·exact absurd (h s 0 hb0) (by simp)
   ·rintro rfl; exact hnd.1 hg
def lD (ob:Nat→OB) (s:Nat) (k:Option Nat) (bs:OB) (j:Nat):OB:=if j=s then bs else if k=some j then [] else ob j
theorem IH (s:Nat) (k:Option Nat) (bs:OB):lD ob s k bs s=bs:=by simp [lD]
theorem IG {s:Nat} {k:Option Nat} {j:Nat} (bs:OB) (h:j≠s) (hk:k=some j):lD ob s k bs j=[]:=by simp [lD,h,hk]
theorem wG {s:Nat} {k:Option Nat} {j:Nat} (bs:OB) (h:j≠s) (hk:k≠some j):lD ob s k bs j=ob j:=by simp [lD,h,hk]
theorem Bw (hC:ae P B G0 W0 n env tm w ob) {s:Nat} {T0 T:Ty} {oa o2:aw} {x0 x1:den T0} {p:Path} {z:den T} {vs:List Value} {k:Option Nat} {c:OB} {env1:Env} (hs:look env s=.loc T0 oa x0) (hset:aZ T0 p x0 ⟨T,z⟩=some x1)
  (hks:∀ j,k=some j→j≠s) (hc:c=match k with | some j=>ob j | none=> []) (hix:cc p=true→o2.pure=true) (hz:Flat P T w (Gd B G0 ob) B o2 z vs c)
  (hl:∀ j,j≠s→(k=some j∧look env1 j=.ref s p∧vs=[tm.getD j undef]∧(a8 ((s,.loc T0 (eI oa p o2) x1)::env1) s p).isSome=true)∨
   (k≠some j∧((look env1 j=.dead∧∃ t,leads t (look env j)=true)∨(look env1 j=look env j∧ez s (look env j)=false∧∀ t,k=some t→leads t (look env j)=false)))):
  ∃ b cur e,tm.getD s undef=.pointer (some ⟨b,0,none⟩)∧w.heap[b]?=some (.cells cur e (0,0))∧a7 T0 p+vs.length≤cur.size∧
    ∃ ob',ae P B G0 W0 n ((s,.loc T0 (eI oa p o2) x1)::env1) tm (w.setRow b (cur.toList.take (a7 T0 p)++vs++cur.toList.drop (a7 T0 p+vs.length)).toArray) ob':=by
 obtain ⟨y,hy⟩:=fB p T0 hset
 obtain ⟨b,cur,e,v1,v2,v3,b1,b2,b3,k1,k2,k3,k4,k5,k6,k7,k8⟩:=kh (a:=⟨tm,[]⟩) hC hs hy
 have hlv:vs.length=v2.length:=by rw [Flat.len P T hz,Flat.len P T k7]
 have hnew:=k8 _ z vs c x1 hix hz hset
 have hcs:(cur.toList.take (a7 T0 p)++vs++cur.toList.drop (a7 T0 p+vs.length))=v1++vs++v3:=by
  rw [k4,←k5]; exact wV hlv
 have hb0:(b,0)∈ob s:=by rw [k6]; simp
 refine ⟨b,cur,e,k1,k2,?_,?_⟩
 ·have:cur.size=cur.toList.length:=by simp
  rw [this,k4,←k5,hlv]; simp
 rw [hcs]
 -- the records
 have hck:∀ q,q∈c→∃ t,k=some t∧t≠s∧q∈ob t:=by
  intro q hq
  cases k with
  | none=>rw [hc] at hq; exact absurd hq (by simp)
  | some t=>rw [hc] at hq; exact ⟨t,rfl,hks t rfl,hq⟩
 have hcd:∀ x,x∈blocks c→∃ t,k=some t∧t≠s∧x∈blocks (ob t):=by
  intro x hx
  obtain ⟨l,hx⟩:=aC.1 hx
  obtain ⟨t,h1,h2,h3⟩:=hck _ hx
  exact ⟨t,h1,h2,aC.2 ⟨l,h3⟩⟩
 have hnd:=hC.nodup s
 rw [k6] at hnd
 simp only [jt,eF,nN] at hnd
 have hcn:(blocks c).Nodup:=by
  cases k with
  | none=>rw [hc]; simp
  | some t=>rw [hc]; exact hC.nodup t
 have hcs':∀ x,x∈blocks c→x∉blocks (ob s):=by
  intro x hx hx'
  obtain ⟨t,_,h2,h3⟩:=hcd x hx
  exact h2 (hC.dist t s x h3 hx')
 have hbn:b∉blocks (b1++c++b3):=by
  intro h
  simp only [eF,dn] at h hnd
  rcases h with (h | h) | h
  ·exact hnd.1 (.inl (.inl h))
  ·exact hcs' b h (aC.2 ⟨0,hb0⟩)
  ·exact hnd.1 (.inr h)
 have from_:∀ j q,q∈lD ob s k ((b,0)::(b1++c++b3)) j→(j=s∧(q∈ob s∨q∈c))∨(j≠s∧k≠some j∧q∈ob j):=by
  intro j q hq
  by_cases h:j=s
  ·subst h
   rw [IH] at hq
   refine .inl ⟨rfl,?_⟩
   simp only [cD,dn] at hq
   rw [k6]
   simp only [cD,dn]
   rcases hq with h | (h | h) | h
   ·exact .inl (.inl h)
   ·exact .inl (.inr (.inl (.inl h)))
   ·exact .inr h
   ·exact .inl (.inr (.inr h))
  ·by_cases h2:k=some j
   ·rw [IG _ h h2] at hq; exact absurd hq (by simp)
   ·rw [wG _ h h2] at hq; exact .inr ⟨h,h2,hq⟩
 have src:∀ j q,q∈lD ob s k ((b,0)::(b1++c++b3)) j→∃ j',q∈ob j'∧((j=s∧(j'=s∨k=some j'))∨(j≠s∧k≠some j∧j'=j)):=by
  intro j q hq
  rcases from_ j q hq with ⟨h1,h2 | h2⟩ | ⟨h1,h2,h3⟩
  ·exact ⟨s,h2,.inl ⟨h1,.inl rfl⟩⟩
  ·obtain ⟨t,h3,_,h4⟩:=hck q h2
   exact ⟨t,h4,.inl ⟨h1,.inr h3⟩⟩
  ·exact ⟨j,h3,.inr ⟨h1,h2,rfl⟩⟩
 have hGd:∀ b' i,Gd B G0 ob b' i→Gd B G0 (lD ob s k ((b,0)::(b1++c++b3))) b' i:=fun b' i h=>
  nI (fun j x lim hj=>by obtain ⟨j',h1,_⟩:=src j _ hj; exact ⟨j',lim,h1,cE _⟩) h
 have hcell:∀ b' i,Gd B G0 ob b' i→(w.setRow b (v1++vs++v3).toArray).cell? ⟨b',i,none⟩=w.cell? ⟨b',i,none⟩:=by
  intro b' i h
  refine cell_setRow_other w b _ _ ?_
  rintro rfl
  rcases h with ⟨h,_⟩ | ⟨_,_,h⟩
  ·exact absurd h (by simp; omega)
  ·exact absurd (h s 0 hb0) (by simp)
 refine ⟨lD ob s k ((b,0)::(b1++c++b3)),ae.step hC ⟨fun j x hx=>(by obtain ⟨l,hx⟩:=aC.1 hx; obtain ⟨j',h1,_⟩:=src j _ hx; exact .inl ⟨j',aC.2 ⟨_,h1⟩⟩),fun b' _ hn=>setRow_other w b b' _ (by rintro rfl; exact hn s (aC.2 ⟨_,hb0⟩))⟩ (Below.setRow k3 _) (fun b' i _ h=>⟨hGd b' i h,hcell b' i h⟩) (fun j=>?_) ?_ ?_ ?_ hC.size (fun _ _=>rfl)⟩
 ·by_cases hj:j=s
  ·subst hj
   right
   rw [aL,if_pos rfl,IH]
   refine ⟨b,_,e,b1++c++b3,k1,k3,setRow_heap w b cur _ e (0,0) k2,?_,rfl⟩
   refine Flat.mono P T0 (fun b' i _ h=>⟨hGd b' i h,hcell b' i h⟩) ⟨by simp,fun t ht=>setRow_other w b t _ (by omega)⟩ (fun g hg=>setRow_other w b g _ ?_) hnew
   rintro rfl; exact hbn hg
  ·rcases hl j hj with ⟨h1,h2,h3,h4⟩ | ⟨h1,⟨h2,t,h3⟩ | ⟨h2,h3,h4⟩⟩
   ·right
    rw [aL,if_neg (bp hj),h2,IG _ hj h1]
    refine ⟨rfl,?_,.inl h4⟩
    simp only [bj]; rw [aL,if_pos rfl]; simp only [k1]
    rw [cell_setRow_same w b _ cur _ e (0,0) k2,h3,←k5]
    simp
   ·right
    rw [aL,if_neg (bp hj),h2,wG _ hj h1]
    exact (bm.leads h3 (hC.rep j)).2
   ·have hbj:∀ g∈blocks (ob j),(w.setRow b (v1++vs++v3).toArray).heap[g]?=w.heap[g]?:=by
     intro g hg
     refine setRow_other w b g _ ?_
     rintro rfl; exact hj (hC.dist j s _ hg (aC.2 ⟨_,hb0⟩))
    by_cases hld:leads s (look env j)=true
    ·right
     rw [aL,if_neg (bp hj),h2,wG _ hj h1]
     have hr:=hC.rep j
     cases hej:look env j with
     | ptr s' q=>
       rw [hej] at hr hld
       simp only [leads,beq_iff_eq] at hld; subst hld
       obtain ⟨m0,T',o',x',b',m1,m2,m3,m4⟩:=hr
       rw [hs] at m1; cases m1
       exact ⟨m0,T0,_,_,b',by rw [aL,if_pos rfl],m2,m3,m4⟩
     | _=>
       rw [hej] at hld h3
       exact absurd (h3.symm.trans hld) (by simp)
    ·left
     rw [aL,if_neg (bp hj),wG _ hj h1]
     refine ⟨h2,rfl,rfl,hbj,fun t ht=>?_⟩
     have hts:t≠s:=by rintro rfl; exact hld ht
     have hhome:=(bm.leads ht (hC.rep j)).1
     have htk:k≠some t:=by intro h; rw [h4 t h] at ht; exact absurd ht (by simp)
     refine eo.same (P:=P) ?_ rfl (hC.rep t) (fun g hg=>setRow_other w b g _ ?_)
     ·rw [aL,if_neg (bp hts)]
      rcases hl t hts with ⟨m1,_⟩ | ⟨_,⟨_,t',m3⟩ | ⟨m2,_⟩⟩
      ·exact absurd m1 htk
      ·rw [pc hhome] at m3; exact absurd m3 (by simp)
      ·exact m2
     ·rintro rfl; exact hts (hC.dist t s _ hg (aC.2 ⟨_,hb0⟩))
 ·intro i j x hi hj
  obtain ⟨l1,hi⟩:=aC.1 hi
  obtain ⟨l2,hj⟩:=aC.1 hj
  obtain ⟨i',h1,h2⟩:=src i _ hi
  obtain ⟨j',h3,h4⟩:=src j _ hj
  have:=hC.dist i' j' x (aC.2 ⟨_,h1⟩) (aC.2 ⟨_,h3⟩)
  subst this
  rcases h2 with ⟨rfl,h2⟩ | ⟨h2,h5,rfl⟩<;>rcases h4 with ⟨rfl,h4⟩ | ⟨h4,h6,rfl⟩
  ·rfl
  ·rcases h2 with h2 | h2
   ·exact h2.symm
   ·exact absurd h2 h6
  ·rcases h4 with h4 | h4
   ·exact h4
   ·exact absurd h4 h5
  ·rfl
 ·intro j
  by_cases h:j=s
  ·subst h
   rw [IH]
   simp only [jt,nN]
   refine ⟨hbn,?_⟩
   simp only [eF]
   obtain ⟨h1,h2⟩:=hnd
   rw [iP] at h2 ⊢
   obtain ⟨h3,h4,h5⟩:=h2
   rw [iP] at h3 ⊢
   refine ⟨⟨h3.1,hcn,fun x hx y hy hxy=>?_⟩,h4,fun x hx y hy hxy=>?_⟩
   ·subst hxy
    refine hcs' x hy ?_
    rw [k6]; simp only [jt,eF,cD,dn]; exact .inr (.inl (.inl hx))
   ·subst hxy
    rcases dn.1 hx with hx | hx
    ·exact h5 x (List.mem_append_left _ hx) x hy rfl
    ·refine hcs' x hx ?_
     rw [k6]; simp only [jt,eF,cD,dn]; exact .inr (.inr hy)
  ·by_cases h2:k=some j
   ·rw [IG _ h h2]; simp
   ·rw [wG _ h h2]; exact hC.nodup j
 ·intro j x hx
  obtain ⟨l,hx⟩:=aC.1 hx
  obtain ⟨j',h1,_⟩:=src j _ hx
  rw [setRow_size]
  exact hC.low j' x (aC.2 ⟨_,h1⟩)
theorem IV:∀ (p:Path) (T:Ty) {x x1:den T} {T':Ty} {z:den T'},cc p=false→aZ T p x ⟨T',z⟩=some x1→aF T p x1=some ⟨T',z⟩
 | [],T,x,x1,T',z,_,h=>by
   simp only [aZ] at h
   have:=cI h; cases this
   cases T<;>rfl
 | .l::p,.pair A C,x,x1,T',z,hp,h=>by
   simp only [aZ,aj,av] at h; obtain ⟨u,h,rfl⟩:=h
   simp only [aF]; exact IV p A hp h
 | .r::p,.pair A C,x,x1,T',z,hp,h=>by
   simp only [aZ,aj,av] at h; obtain ⟨u,h,rfl⟩:=h
   simp only [aF]; exact IV p C hp h
 | .ix _::_,_,_,_,_,_,hp,_=>by simp [cc] at hp
 | .l::_,.int _,_,_,_,_,_,h | .l::_,.bool,_,_,_,_,_,h | .l::_,.str,_,_,_,_,_,h | .l::_,.unit,_,_,_,_,_,h | .l::_,.sl _,_,_,_,_,_,h | .l::_,.arr _ _,_,_,_,_,_,h | .l::_,.fn _ _,_,_,_,_,_,h=>by simp [aZ] at h
 | .r::_,.int _,_,_,_,_,_,h | .r::_,.bool,_,_,_,_,_,h | .r::_,.str,_,_,_,_,_,h | .r::_,.unit,_,_,_,_,_,h | .r::_,.sl _,_,_,_,_,_,h | .r::_,.arr _ _,_,_,_,_,_,h | .r::_,.fn _ _,_,_,_,_,_,h=>by simp [aZ] at h
theorem BV:∀ (p:Path) (o b:aw),cc p=false→bU (eI o p b) p=b
 | [],_,_,_=>rfl
 | .l::p,o,b,h=>BV p o.l b h
 | .r::p,o,b,h=>BV p o.r b h
 | .ix _::_,_,_,h=>by simp [cc] at h
theorem aod {x:Od} {env':Env} {T:Ty} {z:den T} (h:dM env x=some (env',⟨T,z⟩)) (hs:b7 T=true):env'=env:=by
 unfold dM at h
 simp only [aj,av,er] at h
 obtain ⟨y,h1,h2,rfl⟩:=h
 unfold cS at h1
 split at h1
 ·rename_i T' x' he
  rw [he] at h2; exact h2.symm
 ·split at h1
  ·simp only [av] at h1; cases h1; simp [b7] at hs
  ·simp at h1
 ·simp only [aj] at h1
  obtain ⟨hh,_,h1⟩:=h1
  split at h1
  ·simp only [av] at h1; cases h1; simp [b7] at hs
  ·simp at h1
 ·simp at h1
theorem ahq (hC:ae P B G0 W0 n env tm w ob) {s:Nat} {e:TypeId} {T0 T:Ty} {oa:aw} {xs:List (den T0)} {j:Nat} {q:Path} {z:den T} {u:den T0} {vs:List Value} (hs:look env s=.own true e T0 oa xs) (ho:oa.pure=true) (hj:j < xs.length)
  (hset:aZ T0 q (xs.getD j (zero T0)) ⟨T,z⟩=some u) (hz:Flat P T w (Gd B G0 ob) B .no z vs []):
  ∃ g cap cur e' fz,tm.getD s undef=.slice (some ⟨g,0,none⟩) xs.length cap∧w.heap[g]?=some (.cells cur e' fz)∧oB fz cur.size∧(j * ax T0+a7 T0 q)+vs.length≤cur.size∧
    ae P B G0 W0 n ((s,.own true e T0 oa (xs.set j u))::env) tm (w.setRow g (cur.toList.take (j * ax T0+a7 T0 q)++vs++cur.toList.drop ((j * ax T0+a7 T0 q)+vs.length)).toArray) ob:=by
 have hr:=hC.rep s
 rw [hs] at hr
 change Flat P (.sl T0) w (Gd B G0 ob) B (.own true e oa) xs [tm.getD s undef] (ob s) at hr
 unfold Flat at hr
 obtain ⟨v',cells,ob',e1,hrow,hel,hob⟩:=hr
 simp only [gg,and_true] at e1
 subst e1
 obtain ⟨hobn,hel0⟩:=aJ.pure P (o':=.no) ho rfl hel
 subst hobn
 have hrow':=hrow
 rcases hrow.2 with ⟨_,hn⟩ | ⟨g,cap,cur,e1,fz,hv,hBg,hg,hnc,hcm,hcs,htake,hbf,hfz⟩
 ·omega
 have hg0:(g,0)∈ob s:=by rw [hob,hv]; simp [bK,Value.ownBlock]
 obtain ⟨y,hy⟩:=fB q T0 hset
 obtain ⟨v1,v2,v3,c1,c2,c3,f1,f2,f3,f4,f5⟩:=aJ.split (fun x v b hx=>Flat.len P _ hx) j (zero T0) hel0 hj
 obtain ⟨u1,u2,u3,d1,d2,d3,g1,g2,g3,g4,g5⟩:=Flat.lens P q T0 f4 hy
 have hlv:vs.length=u2.length:=by rw [Flat.len P T hz,Flat.len P T g4]
 have hc:c1=[]∧c2=[]∧c3=[]:=by
  have:c1++c2++c3=[]:=f2.symm
  simp at this; exact ⟨this.1,this.2.1,this.2.2⟩
 obtain ⟨rfl,rfl,rfl⟩:=hc
 have hd:d1=[]∧d2=[]∧d3=[]:=by
  have:d1++d2++d3=[]:=g2.symm
  simp at this; exact ⟨this.1,this.2.1,this.2.2⟩
 obtain ⟨rfl,rfl,rfl⟩:=hd
 have hnew:=f5 u (u1++vs++u3) [] (by
  have:=g5 .no z vs [] u (fun _=>rfl) hz hset
  exact (Flat.pure P T0 (pA q .no .no rfl rfl) (o':=.no) rfl this).2)
 have hcur:cur.toList=(v1++u1)++u2++(u3++v3++cur.toList.drop (xs.length * ax T0)):=by
  rw [←pK (xs.length * ax T0) cur.toList,htake,f1,g1]
  have:(v1++(u1++u2++u3)++v3).length=xs.length * ax T0:=by rw [←g1,←f1]; exact hrow.1
  have h2:(v1++(u1++u2++u3)++v3++cur.toList.drop (xs.length * ax T0)).drop (xs.length * ax T0)=cur.toList.drop (xs.length * ax T0):=by
   rw [←this,BD]
  rw [h2]
  simp only [bI]
 have hoff:(v1++u1).length=j * ax T0+a7 T0 q:=by rw [b5,f3,g3]
 have hcs2:(cur.toList.take (j * ax T0+a7 T0 q)++vs++cur.toList.drop ((j * ax T0+a7 T0 q)+vs.length))=(v1++u1)++vs++(u3++v3++cur.toList.drop (xs.length * ax T0)):=by
  rw [←hoff]
  have:=wV (v1:=v1++u1) (v3:=u3++v3++cur.toList.drop (xs.length * ax T0)) hlv
  rw [←hcur] at this
  exact this
 refine ⟨g,cap,cur,e1,fz,hv,hg,hfz,?_,?_⟩
 ·have:cur.size=cur.toList.length:=by simp
  rw [this,hcur,←hoff,hlv]; simp only [b5]; omega
 rw [hcs2]
 have hlow:=hC.low s g (aC.2 ⟨_,hg0⟩)
 refine ae.wW hC hg0 _ ⟨fun q v hq hv=>?_,fun q h hq=>?_,fun T o x hx=>?_,fun q v hm _=>by simp [ew,hs] at hm⟩ ?_
 ·simp only [bj,hs] at hv
  simp only [bj]; rw [aL,if_pos rfl]; exact hv
 ·simp only [a8,hs] at hq
  simp only [a8]; rw [aL,if_pos rfl]
  cases q with
  | nil=>simp only [av] at hq; subst hq; exact ⟨_,rfl,rfl,by simp⟩
  | cons=>exact absurd hq (by simp)
 ·rw [hs] at hx; exact absurd hx (by simp)
 ·have hcell:∀ b' i,Gd B G0 ob b' i→(w.setRow g ((v1++u1)++vs++(u3++v3++cur.toList.drop (xs.length * ax T0))).toArray).cell? ⟨b',i,none⟩=w.cell? ⟨b',i,none⟩:=by
   intro b' i h
   refine cell_setRow_other w g _ _ ?_
   rintro rfl
   rcases h with ⟨h,_⟩ | ⟨_,_,h⟩
   ·exact absurd h (by simp; omega)
   ·exact absurd (h s 0 hg0) (by simp)
  have hlen2:(v1++(u1++vs++u3)++v3).length=xs.length * ax T0:=by
   have h1:cells.length=xs.length * ax T0:=hrow.1
   rw [f1,g1] at h1
   simp only [b5] at h1 ⊢
   omega
  show Flat P (.sl T0) _ (Gd B G0 ob) B (.own true e oa) (xs.set j u) [tm.getD s undef] (ob s)
  unfold Flat
  refine ⟨_,v1++(u1++vs++u3)++v3,[],rfl,⟨by rw [lV]; exact hlen2,.inr ⟨g,cap,_,e1,fz,by rw [lV]; exact hv,hBg,setRow_heap w g cur _ e1 fz hg,by rw [lV]; exact hnc,hcm,?_,?_,hbf,?_⟩⟩,?_,?_⟩
  ·rw [←hcs]
   have h1:cur.size=cur.toList.length:=by simp
   have h2:=congrArg kr hcur
   rw [h1,h2]
   simp only [mH,b5]; omega
  ·simp only [lV]
   have h1:(v1++u1)++vs++(u3++v3++cur.toList.drop (xs.length * ax T0))=(v1++(u1++vs++u3)++v3)++cur.toList.drop (xs.length * ax T0):=by simp only [bI]
   rw [h1,←hlen2]
   simp only [BO]
  ·have hz1:cur.size=cur.toList.length:=by simp
   have hz2:=congrArg kr hcur
   rcases hfz with h | h
   ·exact .inl h
   ·right; simp only [mH,b5] at hz2 ⊢; omega
  ·exact aJ.imp (fun x v b hb hx=>by
    have:b=[]:=by cases b with | nil=>rfl | cons q r=>exact absurd (hb q (by simp)) (by simp)
    subst this
    have hx2:Flat P T0 (w.setRow g ((v1++u1)++vs++(u3++v3++cur.toList.drop (xs.length * ax T0))).toArray) (Gd B G0 ob) B .no x v []:=Flat.mono P T0 (fun b' i _ h=>⟨h,hcell b' i h⟩) ⟨by simp,fun t ht=>setRow_other w g t _ (by omega)⟩ (by simp) hx
    exact (Flat.pure P T0 (o:=.no) rfl ho hx2).2) (by simpa using hnew)
  ·rw [hob]; simp
end
end Go.Fw
/- Soundness: an element of a slice that a variable's part holds is written. -/
namespace Go.Fw
open Go Go.RowKit
theorem Flat.A4 (P:Program):∀ (p:Path) (T:Ty) {w:World} {G:Nat→Nat→Prop} {B:Nat} {o:aw} {x:den T} {vs:List Value} {ob:OB} {T':Ty} {y:den T'},cc p=false→Flat P T w G B o x vs ob→aF T p x=some ⟨T',y⟩→
  ∃ v1 v2 v3 b1 b2 b3,vs=v1++v2++v3∧ob=b1++b2++b3∧v1.length=a7 T p∧Flat P T' w G B (bU o p) y v2 b2∧
    ∀ (w':World) (o2:aw) (y2:den T') (u:List Value) (c:OB) (x2:den T),(∀ b i,b < w.heap.size→G b i→G b i∧w'.cell? ⟨b,i,none⟩=w.cell? ⟨b,i,none⟩)→bP B w w'→(∀ g,g∈blocks b1∨g∈blocks b3→w'.heap[g]?=w.heap[g]?)→
      Flat P T' w' G B o2 y2 u c→aZ T p x ⟨T',y2⟩=some x2→Flat P T w' G B (eI o p o2) x2 (v1++u++v3) (b1++c++b3)
 | [],T,w,G,B,o,x,vs,ob,T',y,_,hF,h=>by
   simp only [aF,av] at h
   obtain ⟨rfl,h⟩:=jq h
   rw [eq_of_heq h] at hF
   refine ⟨[],vs,[],[],ob,[],by simp,by simp,by cases T<;>rfl,hF,?_⟩
   intro w' o2 y2 u c x2 _ _ _ hy hs
   have hs':bh T ⟨T,y2⟩=some x2:=by cases T<;>exact hs
   rw [zx,av] at hs'
   subst hs'
   simpa [eI] using hy
 | .l::p,.pair A C,w,G,B,o,x,vs,ob,T',y,hp,hF,h=>by
   unfold Flat at hF; obtain ⟨u1,u2,c1,c2,rfl,rfl,h1,h2⟩:=hF
   simp only [aF] at h
   obtain ⟨v1,v2,v3,b1,b2,b3,rfl,rfl,hl,hF2,hset⟩:=Flat.A4 P p A hp h1 h
   refine ⟨v1,v2,v3++u2,b1,b2,b3++c2,by simp,by simp,hl,hF2,?_⟩
   intro w' o2 y2 u c x2 hG hL hO hy hs
   simp only [aZ,aj,av] at hs
   obtain ⟨z,hz,rfl⟩:=hs
   unfold Flat
   refine ⟨v1++u++v3,u2,b1++c++b3,c2,by simp,by simp,hset w' o2 y2 u c z hG hL (fun g hg=>hO g ?_) hy hz,Flat.mono P C hG hL (fun g hg=>hO g (by simp [hg])) h2⟩
   rcases hg with hg | hg
   ·exact .inl hg
   ·exact .inr (by simp [hg])
 | .r::p,.pair A C,w,G,B,o,x,vs,ob,T',y,hp,hF,h=>by
   have hlen:∀ {vs ob},Flat P A w G B o.l x.1 vs ob→vs.length=ax A:=fun h=>Flat.len P A h
   unfold Flat at hF; obtain ⟨u1,u2,c1,c2,rfl,rfl,h1,h2⟩:=hF
   simp only [aF] at h
   obtain ⟨v1,v2,v3,b1,b2,b3,rfl,rfl,hl,hF2,hset⟩:=Flat.A4 P p C hp h2 h
   refine ⟨u1++v1,v2,v3,c1++b1,b2,b3,by simp,by simp,by rw [b5,hlen h1,hl]; rfl,hF2,?_⟩
   intro w' o2 y2 u c x2 hG hL hO hy hs
   simp only [aZ,aj,av] at hs
   obtain ⟨z,hz,rfl⟩:=hs
   unfold Flat
   refine ⟨u1,v1++u++v3,c1,b1++c++b3,by simp,by simp,Flat.mono P A hG hL (fun g hg=>hO g (by simp [hg])) h1,hset w' o2 y2 u c z hG hL (fun g hg=>hO g ?_) hy hz⟩
   rcases hg with hg | hg
   ·exact .inl (by simp [hg])
   ·exact .inr hg
 | .ix _::_,_,_,_,_,_,_,_,_,_,_,hp,_,_=>by simp [cc] at hp
 | .l::_,.int _,_,_,_,_,_,_,_,_,_,_,_,h | .l::_,.bool,_,_,_,_,_,_,_,_,_,_,_,h | .l::_,.str,_,_,_,_,_,_,_,_,_,_,_,h | .l::_,.unit,_,_,_,_,_,_,_,_,_,_,_,h | .l::_,.sl _,_,_,_,_,_,_,_,_,_,_,_,h | .l::_,.arr _ _,_,_,_,_,_,_,_,_,_,_,_,h | .l::_,.fn _ _,_,_,_,_,_,_,_,_,_,_,_,h=>by simp [aF] at h
 | .r::_,.int _,_,_,_,_,_,_,_,_,_,_,_,h | .r::_,.bool,_,_,_,_,_,_,_,_,_,_,_,h | .r::_,.str,_,_,_,_,_,_,_,_,_,_,_,h | .r::_,.unit,_,_,_,_,_,_,_,_,_,_,_,h | .r::_,.sl _,_,_,_,_,_,_,_,_,_,_,_,h | .r::_,.arr _ _,_,_,_,_,_,_,_,_,_,_,_,h | .r::_,.fn _ _,_,_,_,_,_,_,_,_,_,_,_,h=>by simp [aF] at h
theorem H3:∀ (q p:Path) (T0:Ty) {x x1:den T0} {T1 T':Ty} {xs ys:List (den T1)} {zs:List (den T')},cc q=false→aF T0 p x=some ⟨.sl T1,xs⟩→aZ T0 p x ⟨.sl T1,ys⟩=some x1→ys.length=xs.length→aF T0 q x=some ⟨.sl T',zs⟩→
  ∃ zs':List (den T'),aF T0 q x1=some ⟨.sl T',zs'⟩∧zs'.length=zs.length
 | [],p,T0,x,x1,T1,T',xs,ys,zs,_,hp,hs,hl,hq=>by
   have:T0=.sl T':=by
    simp only [aF,av] at hq
    exact (jq hq).1
   subst this
   cases p with
   | nil=>
     simp only [aF,av] at hp hq
     obtain ⟨h1,h2⟩:=jq hp
     cases h1
     obtain ⟨_,h3⟩:=jq hq
     have e1:=eq_of_heq h2; have e2:=eq_of_heq h3
     have hs':bh (.sl T1) ⟨.sl T1,ys⟩=some x1:=hs
     rw [zx,av] at hs'
     subst hs'
     exact ⟨ys,rfl,by rw [hl,←e1,←e2]⟩
   | cons st p=>cases st<;>simp [aF] at hp
 | .l::q,p,.pair A C,x,x1,T1,T',xs,ys,zs,hix,hp,hs,hl,hq=>by
   simp only [aF] at hq
   simp only [cc] at hix
   match p,hp,hs with
   | [],hp,_=>exact absurd (jq (by simpa only [aF,av] using hp)).1 (by simp)
   | .l::p,hp,hs=>
     simp only [aZ,aj,av] at hs
     obtain ⟨u,hu,rfl⟩:=hs
     simp only [aF] at hp ⊢
     exact H3 q p A hix hp hu hl hq
   | .r::p,hp,hs=>
     simp only [aZ,aj,av] at hs
     obtain ⟨u,hu,rfl⟩:=hs
     simp only [aF]
     exact ⟨zs,hq,rfl⟩
   | .ix i::p,hp,hs=>simp [aZ] at hs
 | .r::q,p,.pair A C,x,x1,T1,T',xs,ys,zs,hix,hp,hs,hl,hq=>by
   simp only [aF] at hq
   simp only [cc] at hix
   match p,hp,hs with
   | [],hp,_=>exact absurd (jq (by simpa only [aF,av] using hp)).1 (by simp)
   | .r::p,hp,hs=>
     simp only [aZ,aj,av] at hs
     obtain ⟨u,hu,rfl⟩:=hs
     simp only [aF] at hp ⊢
     exact H3 q p C hix hp hu hl hq
   | .l::p,hp,hs=>
     simp only [aZ,aj,av] at hs
     obtain ⟨u,hu,rfl⟩:=hs
     simp only [aF]
     exact ⟨zs,hq,rfl⟩
   | .ix i::p,hp,hs=>simp [aZ] at hs
 | .ix _::_,_,_,_,_,_,_,_,_,_,hix,_,_,_,_=>by simp [cc] at hix
 | .l::_,_,.int _,_,_,_,_,_,_,_,_,_,_,_,h | .l::_,_,.bool,_,_,_,_,_,_,_,_,_,_,_,h | .l::_,_,.str,_,_,_,_,_,_,_,_,_,_,_,h | .l::_,_,.unit,_,_,_,_,_,_,_,_,_,_,_,h | .l::_,_,.sl _,_,_,_,_,_,_,_,_,_,_,_,h | .l::_,_,.arr _ _,_,_,_,_,_,_,_,_,_,_,_,h | .l::_,_,.fn _ _,_,_,_,_,_,_,_,_,_,_,_,h=>by simp [aF] at h
 | .r::_,_,.int _,_,_,_,_,_,_,_,_,_,_,_,h | .r::_,_,.bool,_,_,_,_,_,_,_,_,_,_,_,h | .r::_,_,.str,_,_,_,_,_,_,_,_,_,_,_,h | .r::_,_,.unit,_,_,_,_,_,_,_,_,_,_,_,h | .r::_,_,.sl _,_,_,_,_,_,_,_,_,_,_,_,h | .r::_,_,.arr _ _,_,_,_,_,_,_,_,_,_,_,_,h | .r::_,_,.fn _ _,_,_,_,_,_,_,_,_,_,_,_,h=>by simp [aF] at h
section
variable {P:Program} {B:Nat} {G0:Nat→Nat→Prop} {W0:cZ} {n:Nat} {env:Env} {tm:Array Value} {a:Act} {w:World} {ob:Nat→OB} {cl:ay}
theorem afZ {G:Nat→Nat→Prop} {e:TypeId} {T0 T:Ty} {oa:aw} {xs:List (den T0)} {j:Nat} {q:Path} {z:den T} {u:den T0} {vs:List Value} {v:Value} {obv:OB} (hr:Flat P (.sl T0) w G B (.own true e oa) xs [v] obv) (ho:oa.pure=true) (hj:j < xs.length)
  (hset:aZ T0 q (xs.getD j (zero T0)) ⟨T,z⟩=some u) (hz:Flat P T w G B .no z vs []) (hno:∀ g i,(g,0)∈obv→¬ G g i):
  ∃ g cap cur e' fz,v=.slice (some ⟨g,0,none⟩) xs.length cap∧obv=[(g,0)]∧w.heap[g]?=some (.cells cur e' fz)∧oB fz cur.size∧(j * ax T0+a7 T0 q)+vs.length≤cur.size∧
    Flat P (.sl T0) (w.setRow g (cur.toList.take (j * ax T0+a7 T0 q)++vs++cur.toList.drop ((j * ax T0+a7 T0 q)+vs.length)).toArray) G B (.own true e oa) (xs.set j u) [v] obv:=by
 unfold Flat at hr
 obtain ⟨v',cells,ob',e1,hrow,hel,hob⟩:=hr
 simp only [gg,and_true] at e1
 subst e1
 obtain ⟨hobn,hel0⟩:=aJ.pure P (o':=.no) ho rfl hel
 subst hobn
 have hrow':=hrow
 rcases hrow.2 with ⟨_,hn⟩ | ⟨g,cap,cur,e1,fz,hv,hBg,hg,hnc,hcm,hcs,htake,hbf,hfz⟩
 ·omega
 have hob2:obv=[(g,0)]:=by rw [hob,hv]; simp [bK,Value.ownBlock]
 have hg0:(g,0)∈obv:=by rw [hob2]; simp
 obtain ⟨y,hy⟩:=fB q T0 hset
 obtain ⟨v1,v2,v3,c1,c2,c3,f1,f2,f3,f4,f5⟩:=aJ.split (fun x v b hx=>Flat.len P _ hx) j (zero T0) hel0 hj
 obtain ⟨u1,u2,u3,d1,d2,d3,g1,g2,g3,g4,g5⟩:=Flat.lens P q T0 f4 hy
 have hlv:vs.length=u2.length:=by rw [Flat.len P T hz,Flat.len P T g4]
 have hc:c1=[]∧c2=[]∧c3=[]:=by
  have:c1++c2++c3=[]:=f2.symm
  simp at this; exact ⟨this.1,this.2.1,this.2.2⟩
 obtain ⟨rfl,rfl,rfl⟩:=hc
 have hd:d1=[]∧d2=[]∧d3=[]:=by
  have:d1++d2++d3=[]:=g2.symm
  simp at this; exact ⟨this.1,this.2.1,this.2.2⟩
 obtain ⟨rfl,rfl,rfl⟩:=hd
 have hnew:=f5 u (u1++vs++u3) [] (by
  have:=g5 .no z vs [] u (fun _=>rfl) hz hset
  exact (Flat.pure P T0 (pA q .no .no rfl rfl) (o':=.no) rfl this).2)
 have hcur:cur.toList=(v1++u1)++u2++(u3++v3++cur.toList.drop (xs.length * ax T0)):=by
  rw [←pK (xs.length * ax T0) cur.toList,htake,f1,g1]
  have:(v1++(u1++u2++u3)++v3).length=xs.length * ax T0:=by rw [←g1,←f1]; exact hrow.1
  have h2:(v1++(u1++u2++u3)++v3++cur.toList.drop (xs.length * ax T0)).drop (xs.length * ax T0)=cur.toList.drop (xs.length * ax T0):=by
   rw [←this,BD]
  rw [h2]
  simp only [bI]
 have hoff:(v1++u1).length=j * ax T0+a7 T0 q:=by rw [b5,f3,g3]
 have hcs2:(cur.toList.take (j * ax T0+a7 T0 q)++vs++cur.toList.drop ((j * ax T0+a7 T0 q)+vs.length))=(v1++u1)++vs++(u3++v3++cur.toList.drop (xs.length * ax T0)):=by
  rw [←hoff]
  have:=wV (v1:=v1++u1) (v3:=u3++v3++cur.toList.drop (xs.length * ax T0)) hlv
  rw [←hcur] at this
  exact this
 refine ⟨g,cap,cur,e1,fz,hv,hob2,hg,hfz,?_,?_⟩
 ·have:cur.size=cur.toList.length:=by simp
  rw [this,hcur,←hoff,hlv]; simp only [b5]; omega
 rw [hcs2]
 have hcell:∀ b' i,G b' i→(w.setRow g ((v1++u1)++vs++(u3++v3++cur.toList.drop (xs.length * ax T0))).toArray).cell? ⟨b',i,none⟩=w.cell? ⟨b',i,none⟩:=by
  intro b' i h
  refine cell_setRow_other w g _ _ ?_
  rintro rfl
  exact hno _ _ hg0 h
 have hlen2:(v1++(u1++vs++u3)++v3).length=xs.length * ax T0:=by
  have h1:cells.length=xs.length * ax T0:=hrow.1
  rw [f1,g1] at h1
  simp only [b5] at h1 ⊢
  omega
 show Flat P (.sl T0) _ G B (.own true e oa) (xs.set j u) [v] obv
 unfold Flat
 refine ⟨_,v1++(u1++vs++u3)++v3,[],rfl,⟨by rw [lV]; exact hlen2,.inr ⟨g,cap,_,e1,fz,by rw [lV]; exact hv,hBg,setRow_heap w g cur _ e1 fz hg,by rw [lV]; exact hnc,hcm,?_,?_,hbf,?_⟩⟩,?_,?_⟩
 ·rw [←hcs]
  have h1:cur.size=cur.toList.length:=by simp
  have h2:=congrArg kr hcur
  rw [h1,h2]
  simp only [mH,b5]; omega
 ·simp only [lV]
  have h1:(v1++u1)++vs++(u3++v3++cur.toList.drop (xs.length * ax T0))=(v1++(u1++vs++u3)++v3)++cur.toList.drop (xs.length * ax T0):=by simp only [bI]
  rw [h1,←hlen2]
  simp only [BO]
 ·have hz1:cur.size=cur.toList.length:=by simp
  have hz2:=congrArg kr hcur
  rcases hfz with h | h
  ·exact .inl h
  ·right; simp only [mH,b5] at hz2 ⊢; omega
 ·exact aJ.imp (fun x v b hb hx=>by
   have:b=[]:=by cases b with | nil=>rfl | cons q r=>exact absurd (hb q (by simp)) (by simp)
   subst this
   have hx2:Flat P T0 (w.setRow g ((v1++u1)++vs++(u3++v3++cur.toList.drop (xs.length * ax T0))).toArray) G B .no x v []:=Flat.mono P T0 (fun b' i _ h=>⟨h,hcell b' i h⟩) ⟨by simp,fun t ht=>setRow_other w g t _ (by omega)⟩ (by simp) hx
   exact (Flat.pure P T0 (o:=.no) rfl ho hx2).2) (by simpa using hnew)
 ·rw [hob]; simp
theorem ahr (hC:ae P B G0 W0 n env tm w ob) {s:Nat} {e:TypeId} {T0 T1 T:Ty} {oa o':aw} {x0 x1:den T0} {p:Path} {xs:List (den T1)} {j:Nat} {q:Path} {z:den T} {u:den T1} {vs:List Value} (hs:look env s=.loc T0 oa x0) (ha:bU oa p=.own true e o')
  (hg:aF T0 p x0=some ⟨.sl T1,xs⟩) (ho:o'.pure=true) (hj:j < xs.length) (hset:aZ T1 q (xs.getD j (zero T1)) ⟨T,z⟩=some u) (hset2:aZ T0 p x0 ⟨.sl T1,xs.set j u⟩=some x1) (hz:Flat P T w (Gd B G0 ob) B .no z vs []):
  ∃ g cap cur e' fz,bj w tm env s p=some (.slice (some ⟨g,0,none⟩) xs.length cap)∧w.heap[g]?=some (.cells cur e' fz)∧oB fz cur.size∧(j * ax T1+a7 T1 q)+vs.length≤cur.size∧
    ae P B G0 W0 n ((s,.loc T0 oa x1)::env) tm (w.setRow g (cur.toList.take (j * ax T1+a7 T1 q)++vs++cur.toList.drop ((j * ax T1+a7 T1 q)+vs.length)).toArray) ob:=by
 have hix:cc p=false:=mO p oa ha
 have hr:=hC.rep s
 rw [hs] at hr
 obtain ⟨b,cur,e0,ob',k1,k2,k3,k4,k5⟩:=hr
 obtain ⟨v1,v2,v3,b1,b2,b3,e1,e2,e3,e4,e5⟩:=Flat.A4 P p T0 hix k4 hg
 rw [ha] at e4
 obtain ⟨v,rfl⟩:∃ v,v2=[v]:=by
  have:=Flat.len P _ e4
  cases v2 with
  | nil=>simp [ax] at this
  | cons v r=>cases r with | nil=>exact ⟨v,rfl⟩ | cons=>simp [ax] at this
 have hsub:∀ q,q∈b2→q∈ob s:=fun q hq=>by rw [k5,e2]; simp [hq]
 obtain ⟨g,cap,curg,e',fz,r1,r2,r3,rf,r4,r5⟩:=afZ e4 ho hj hset hz (fun g i hg hG=>by
  have h0:=hsub _ hg
  have hlow:=hC.low s g (aC.2 ⟨_,h0⟩)
  rcases hG with ⟨h,_⟩ | ⟨_,_,h⟩
  ·omega
  ·exact absurd (h s 0 h0) (by simp))
 have hg0:(g,0)∈ob s:=hsub _ (by rw [r2]; simp)
 have hlow:=hC.low s g (aC.2 ⟨_,hg0⟩)
 have hnd:=hC.nodup s
 rw [k5,e2,r2] at hnd
 simp only [jt,eF,JN,nN,iP,dn,cD] at hnd
 have hbg:b≠g:=fun h=>hnd.1 (.inl (.inr (.inl h)))
 have hcellb:w.cell? ⟨b,a7 T0 p,none⟩=some v:=by
  rw [cell_of_row w b _ cur e0 (0,0) k3,←iL,e1,←e3]
  simp
 have hhead:bj w tm env s p=some (.slice (some ⟨g,0,none⟩) xs.length cap):=by
  simp only [bj,hs,k1,hcellb,r1]
 refine ⟨g,cap,curg,e',fz,hhead,r3,rf,r4,?_⟩
 refine ae.wW hC hg0 _ ⟨fun q' v' hq hv=>?_,fun q' h hq=>?_,fun T o x hx=>?_,fun q' v' hm hv=>⟨RZ (x1:=x1) hs (by rw [aL,if_pos rfl]) hm,?_⟩⟩ ?_
 ·simp only [bj,hs,k1] at hv
  simp only [bj]; rw [aL,if_pos rfl]; simp only [k1]
  rw [cell_setRow_other w g _ _ (by exact hbg)]; exact hv
 ·simp only [a8,hs] at hq
  simp only [a8]; rw [aL,if_pos rfl]
  simp only
  split at hq
  ·rename_i wr ed o2 T' zs ha2 hg2
   simp only [av] at hq; subst hq
   obtain ⟨zs',h1,h2⟩:=H3 q' p T0 (mO q' oa ha2) hg hset2 (by simp) hg2
   exact ⟨⟨wr,ed,T',o2,zs'⟩,by rw [ha2,h1],rfl,h2⟩
  ·simp at hq
 ·rw [hs] at hx; cases hx
  exact ⟨_,_,by rw [aL,if_pos rfl],rfl⟩
 ·simp only [bj,hs,k1] at hv
  simp only [bj]; rw [aL,if_pos rfl]; simp only [k1]
  rw [cell_setRow_other w g _ _ (by exact hbg)]; exact hv
 ·refine ⟨b,cur,e0,ob',k1,k2,by rw [setRow_other w g b _ hbg]; exact k3,?_,k5⟩
  have hnew:=e5 (w.setRow g (curg.toList.take (j * ax T1+a7 T1 q)++vs++curg.toList.drop ((j * ax T1+a7 T1 q)+vs.length)).toArray) (.own true e o') (xs.set j u) [v] b2 x1 (fun b' i _ h=>⟨h,?_⟩) ⟨by simp,fun t ht=>setRow_other w g t _ (by omega)⟩ (fun t ht=>setRow_other w g t _ ?_) r5 hset2
  ·rw [←ha] at hnew
   rw [e1,e2]
   exact Flat.sj p T0 hg hnew
  ·refine cell_setRow_other w g _ _ ?_
   intro hbb
   replace hbb:b'=g:=hbb
   rcases h with ⟨h,_⟩ | ⟨_,_,h⟩
   ·omega
   ·rw [hbb] at h; exact absurd (h s 0 hg0) (by simp)
  ·rintro rfl
   rcases ht with ht | ht
   ·exact hnd.2.1.2.2 _ ht _ (by simp) rfl
   ·exact hnd.2.2.2 _ (.inr (by simp)) _ ht rfl
end
end Go.Fw
/- Soundness, part 20: store. -/
namespace Go.Fw
open Go Go.RowKit
section
variable {P:Program} {B:Nat} {G0:Nat→Nat→Prop} {W0:cZ} {n:Nat} {env:Env} {tm:Array Value} {a:Act} {w:World} {ob:Nat→OB} {cl:ay}
variable {R:Type} {K:cH R} {r:R} {next:Act→World→Prop} {Q:Exit→Act→World→Prop} {o:Oper} {i:AI}
theorem adw {y:Od} {env':Env} {z:TV} (h:dM env y=some (env',z)) {s:Nat} {e:TypeId} {T:Ty} {oa:aw} {xs:List (den T)} (hs:look env' s=.own true e T oa xs):look env s=.own true e T oa xs:=by
 unfold dM at h
 simp only [aj,av,er] at h
 obtain ⟨_,_,h2,_⟩:=h
 split at h2
 ·rename_i s' _
  subst h2
  rcases Fz.freeze env s' s with h3 | ⟨wr,ed,T',o',xs',_,h3⟩ | ⟨T',o',x',_,h3⟩
  ·rw [←h3]; exact hs
  ·rw [h3] at hs; cases hs
  ·rw [h3] at hs; cases hs
 ·rw [h2]; exact hs
theorem run_store {t:TypeId} {T:Ty} {x y:Operand} (ho:o.op=.store t x y) (hT:bC P t T) {g off:Nat} {e:TypeId} {fz:Nat×Nat} {cur:Array Value} {vs:List Value} (hx:a.eval x=.pointer (some ⟨g,off,none⟩)) (hy:a.eval y=bg T vs)
  (hg:w.heap[g]?=some (.cells cur e fz)) (hfz:oB fz cur.size) (hl:vs.length=ax T) (h1:∀ u∈vs,u.oneCell'=true) (hfit:off+vs.length≤cur.size):
  (execOp a.eval o).run P w=.ok .skip (w.setRow g (cur.toList.take off++vs++cur.toList.drop (off+vs.length)).toArray):=by
 have:=agf hT w hg hfz hl h1 hfit
 simp [execOp,ho,hx,hy,Instr.storeAt,Instr.sureAddr,this]
theorem lR (hdn:o.dst=none) {w':World} (hrun:(execOp a.eval o).run P w=.ok .skip w') (h:next a w'):o.wp P a w next Q:=by
 refine anC hrun ?_
 rw [hdn]; exact h
theorem aaO (s k j:Nat) (env:Env):look (jc s (kill k env)) j=if leads k (look env j)=true then .dead else if ez s (look env j)=true then .dead else look env j:=by
 rw [rZ,nx]
 by_cases h:leads k (look env j)=true
 ·rw [if_pos h,if_pos h]; rfl
 ·rw [if_neg h,if_neg h]
theorem Sm {T:Ty} {G:Nat→Nat→Prop} {wr:Bool} {e:TypeId} {oa:aw} {xs:List (den T)} {vs:List Value} {b:OB} (h:Flat P (.sl T) w G B (.own wr e oa) xs vs b):∀ u∈vs,u.oneCell'=true:=by
 unfold Flat at h
 obtain ⟨v,cells,ob',rfl,h2,_⟩:=h
 rcases h2.2 with h | ⟨g,cap,cur,_,_,rfl,_⟩
 ·rw [h.1]; simp [Value.oneCell']
 ·simp [Value.oneCell']
theorem Sn {y:Od} {env':Env} {z:TV} (h:dM env y=some (env',z)):Fz env env':=by
 unfold dM at h
 simp only [aj,av,er] at h
 obtain ⟨_,_,h2,_⟩:=h
 split at h2
 ·subst h2; exact Fz.freeze _ _
 ·rw [h2]; exact Fz.refl _
theorem A3 {s:Nat} {e:E} (h:ez s e=true):leads s e=true:=by
 cases e<;>first | exact h | (exfalso; simp [ez] at h; done)
theorem ahk {t:TypeId} {T:Ty} {x xv:Operand} {y yv:Od} (hC:ae P B G0 W0 n env a.tmps w ob) (hK:bA P B G0 W0 n a K r next) (hdn:o.dst=none)
  (ho:o.op=.store t x xv) (hi:i.op=.store T y yv) (hT:bC P t T) (hx:aE x y=true) (hv:aE xv yv=true) (h:step cl i env K=some r):o.wp P a w next Q:=by
 unfold step at h; rw [hi] at h; simp only at h
 have hr:=eS hC hx
 split at h
 ·rename_i s p j q he
  rw [he] at hr
  split at h
  ·rename_i e T0 oa xs hs
   split at h
   ·simp only [aj] at h
    obtain ⟨⟨env',zz⟩,hp,z,hz,h⟩:=h
    split at h
    case isFalse=>simp at h
    rename_i hj
    simp only [aj] at h
    obtain ⟨u,hu,_,hown,h⟩:=h
    split at h
    case isFalse=>simp at h
    rename_i hpure
    have:=cI hz; cases this
    obtain ⟨ob',hf,hC',vs,hvs,hF⟩:=lJ hC hv hp
    have hs':look env' s=.own true e T0 oa xs:=by
     split at hown
     ·rename_i e2 T2 o2 xs2 h2
      have h3:=adw hp h2
      rw [hs] at h3; cases h3
      exact h2
     ·simp at hown
    obtain ⟨g,cap,cur,e',fz,k1,k2,kf,k3,k4⟩:=ahq hC' hs' hpure hj hu hF
    obtain ⟨_,h',g',m,c,m1,m2,m3,m4,m5⟩:=hr
    simp only [a8,hs,av] at m1; subst m1
    simp only [bj,hs,k1,av,Value.slice.injEq,Addr.mk.injEq] at m2
    obtain ⟨⟨rfl,_⟩,_⟩:=m2
    refine lR hdn (run_store ho hT m5 hvs k2 kf (Flat.len P T hF) (Flat.one P T (o:=.no) rfl hF) k3) ?_
    exact hK _ _ _ _ k4 h
   ·simp at h
  ·rename_i T0' oa' x0' hs0
   simp only [aj] at h
   obtain ⟨⟨env',zz⟩,hp,z,hz,h⟩:=h
   have:=cI hz; cases this
   simp only at h
   split at h
   case h_2=>simp at h
   rename_i T0 oa x0 hs'
   split at h
   ·rename_i ed o' T1 xs ha hg
    split at h
    case isFalse=>simp at h
    rename_i hj
    simp only [aj] at h
    obtain ⟨u,hu,x1,hx1,h⟩:=h
    split at h
    case isFalse=>simp at h
    rename_i hpure
    have hsame:look env' s=look env s:=by
     rcases Sn hp s with h1 | ⟨_,_,_,_,_,h1,_⟩ | ⟨T3,o3,x3,h1,h2⟩
     ·exact h1
     ·rw [hs0] at h1; cases h1
     ·rw [hs'] at h2; cases h2
      rw [l8] at ha
      exfalso
      cases hq:bU o3 p<;>rw [hq] at ha<;>simp [aw.bn] at ha
    have hs:look env s=.loc T0 oa x0:=by rw [←hsame]; exact hs'
    obtain ⟨ob',hf,hC',vs,hvs,hF⟩:=lJ hC hv hp
    obtain ⟨g,cap,cur,e',fz,k1,k2,kf,k3,k4⟩:=ahr hC' hs' ha hg hpure hj hu hx1 hF
    have k1:bj w a.tmps env s p=some (.slice (some ⟨g,0,none⟩) xs.length cap):=by
     simp only [bj,hs] ; simp only [bj,hs'] at k1; exact k1
    obtain ⟨_,h',g',m,c,m1,m2,m3,m4,m5⟩:=hr
    simp only [a8,hs,ha,hg,av] at m1; subst m1
    rw [k1] at m2
    simp only [av,Value.slice.injEq,Addr.mk.injEq] at m2
    obtain ⟨⟨rfl,_⟩,_⟩:=m2
    refine lR hdn (run_store ho hT m5 hvs k2 kf (Flat.len P T hF) (Flat.one P T (o:=.no) rfl hF) k3) ?_
    exact hK _ _ _ _ k4 h
   ·simp at h
  ·simp at h
 ·split at h
  ·rename_i s p hm
   split at h
   ·rename_i T0 oa x0 hs
    obtain ⟨b,hb1,hb2⟩:=Iz hC hx hm hs
    split at h
    ·rename_i hsc
     simp only [aj] at h
     obtain ⟨zz,hz,z,hc,x1,hset,h⟩:=h
     have:=cI hc; subst this
     obtain ⟨vs,hvs,hF⟩:=lz hC hv hz
     obtain ⟨b',cur,e,k1,k2,k3,k4⟩:=aht hC hs hsc hset hF
     rw [hb1] at k1; cases k1
     refine lR hdn (run_store ho hT hb2 hvs k2 (.inl rfl) (Flat.len P T hF) (Flat.one P T (o:=.no) rfl hF) k3) ?_
     exact hK _ _ _ _ k4 h
    ·split at h
     ·rename_i wr e T1 o1 xs he
      have hrv:=eS hC hv
      rw [he] at hrv
      split at h
      ·rename_i k
       simp only [aj] at h
       obtain ⟨z,hz,x1,hset,h⟩:=h
       split at h
       ·simp at h
       ·rename_i hix
        have hzz:=cI hz
        cases hzz
        simp only [au] at he
        have hks:k≠s:=by rintro rfl; rw [hs] at he; cases he
        have hrv':Flat P (.sl T1) w (Gd B G0 ob) B (.own wr e o1) xs [a.tmps.getD k undef] (ob k):=by
         have:=jg hv a
         rw [this] at hrv; exact hrv
        obtain ⟨b',cur,e',k1,k2,k3,ob',k4⟩:=Bw (k:=some k) (c:=ob k) (env1:=(k,.ref s p)::jc s (kill k env)) hC hs hset (fun j hj=>by cases hj; exact hks) rfl (fun hh=>by rw [hix] at hh; simp at hh) hrv' (by
          intro j hj
          by_cases hjk:k=j
          ·subst hjk
           refine .inl ⟨rfl,by rw [aL,if_pos rfl],rfl,?_⟩
           simp only [a8]; rw [aL,if_pos rfl]
           simp only [BV p oa _ hix,IV p T0 hix hset,Option.isSome_some]
          ·right
           refine ⟨fun e=>hjk (by cases e; rfl),?_⟩
           rw [aL,if_neg hjk,aaO]
           by_cases h1:leads k (look env j)=true
           ·rw [if_pos h1]; exact .inl ⟨rfl,k,h1⟩
           ·rw [if_neg h1]
            by_cases h2:ez s (look env j)=true
            ·rw [if_pos h2]; exact .inl ⟨rfl,s,A3 h2⟩
            ·rw [if_neg h2]
             exact .inr ⟨rfl,by simpa using h2,fun t ht=>by cases ht; simpa using h1⟩)
        rw [hb1] at k1; cases k1
        refine lR hdn (run_store ho hT hb2 (by rw [jg hv a]; rfl) k2 (.inl rfl) rfl (Sm hrv') k3) ?_
        exact hK _ _ _ _ k4 h
      ·rename_i hnt
       simp only [aj] at h
       obtain ⟨z,hz,x1,hset,h⟩:=h
       split at h
       ·simp at h
       ·rename_i hix
        have:=cI hz
        cases this
        have hob:pj ob yv=[]:=by cases yv<;>first | rfl | exact (hnt _ rfl).elim
        rw [hob] at hrv
        obtain ⟨b',cur,e',k1,k2,k3,ob',k4⟩:=Bw (k:=none) (c:=[]) (env1:=jc s env) hC hs hset (fun j hj=>by cases hj) rfl (fun hh=>by rw [hix] at hh; simp at hh) hrv (by
          intro j hj
          right
          refine ⟨by simp,?_⟩
          rw [rZ]
          by_cases h2:ez s (look env j)=true
          ·rw [if_pos h2]; exact .inl ⟨rfl,s,A3 h2⟩
          ·rw [if_neg h2]
           exact .inr ⟨rfl,by simpa using h2,fun t ht=>by cases ht⟩)
        rw [hb1] at k1; cases k1
        refine lR hdn (run_store ho hT hb2 rfl k2 (.inl rfl) rfl (Sm hrv) k3) ?_
        exact hK _ _ _ _ k4 h
     ·rename_i T1 o1 x2 he
      have hrv:=eS hC hv
      rw [he] at hrv
      obtain ⟨_,vs,hF,hvs⟩:=hrv
      simp only [aj] at h
      obtain ⟨z,hz,x1,hset,h⟩:=h
      split at h
      ·simp at h
      ·rename_i hix
       simp only [Bool.or_eq_false_iff,Bool.not_eq_false'] at hix
       have:=cI hz
       cases this
       obtain ⟨b',cur,e',k1,k2,k3,ob',k4⟩:=Bw (k:=none) (c:=[]) (env1:=jc s env) hC hs hset (fun j hj=>by cases hj) rfl (fun hh=>by rw [hix.1] at hh; simp at hh) hF (by
         intro j hj
         right
         refine ⟨by simp,?_⟩
         rw [rZ]
         by_cases h2:ez s (look env j)=true
         ·rw [if_pos h2]; exact .inl ⟨rfl,s,A3 h2⟩
         ·rw [if_neg h2]
          exact .inr ⟨rfl,by simpa using h2,fun t ht=>by cases ht⟩)
       rw [hb1] at k1; cases k1
       exact lR hdn (run_store ho hT hb2 hvs k2 (.inl rfl) (Flat.len P _ hF) (Flat.one P _ hix.2 hF) k3) (hK _ _ _ _ k4 h)
     ·simp only [aj] at h
      obtain ⟨⟨env',zz⟩,hp,z,hz,h⟩:=h
      have:=cI hz; cases this
      split at h
      ·rename_i T2 o2 x2 hs2
       simp only [aj] at h
       obtain ⟨x1,hset,h⟩:=h
       obtain ⟨ob',hf,hC',vs,hvs,hF⟩:=lJ hC hv hp
       have hT2:T2=T0:=by
        simp only at hs2
        rcases Sn hp s with h3 | ⟨wr,ed,T',o',xs',h4,h3⟩ | ⟨T',o',x',h4,h3⟩
        ·rw [hs,hs2] at h3; cases h3; rfl
        ·rw [hs] at h4; cases h4
        ·rw [hs] at h4; rw [hs2] at h3; cases h4; cases h3; rfl
       subst hT2
       split at h
       ·rename_i hpu
        obtain ⟨b',cur,e',k1,k2,k3,k4⟩:=ahs hC' hs2 hpu hset hF
        rw [hb1] at k1; cases k1
        refine lR hdn (run_store ho hT hb2 hvs k2 (.inl rfl) (Flat.len P T hF) (Flat.one P T (o:=.no) rfl hF) k3) ?_
        exact hK _ _ _ _ k4 h
       obtain ⟨b',cur,e',k1,k2,k3,ob2,k4⟩:=Bw (k:=none) (c:=[]) (o2:=.no) (env1:=jc s env') hC' hs2 hset (fun j hj=>by cases hj) rfl (fun _=>rfl) hF (by
         intro j hj
         right
         refine ⟨by simp,?_⟩
         rw [rZ]
         by_cases h2:ez s (look env' j)=true
         ·rw [if_pos h2]; exact .inl ⟨rfl,s,A3 h2⟩
         ·rw [if_neg h2]
          exact .inr ⟨rfl,by simpa using h2,fun t ht=>by cases ht⟩)
       rw [hb1] at k1; cases k1
       refine lR hdn (run_store ho hT hb2 hvs k2 (.inl rfl) (Flat.len P T hF) (Flat.one P T (o:=.no) rfl hF) k3) ?_
       exact hK _ _ _ _ k4 h
      ·simp at h
   ·simp at h
  ·simp at h
def B6 (P:Program) (t:TypeId):Bool:=match P.underlying t with | some .bool=>true | _=>false
theorem run_equalIn_bool (d:Nat) {t:TypeId} (ht:P.underlying t=some .bool) (p q:Bool):(Op.equalIn (d+1) t (.bool p) (.bool q)).run P w=.ok (p==q) w:=by
 simp only [Op.equalIn,Sem.run_bind,run_underlying ht,Result.andThen_ok]
 rfl
theorem run_equal_bool {t:TypeId} (ht:P.underlying t=some .bool) (p q:Bool):(Op.equal t (.bool p) (.bool q)).run P w=.ok (p==q) w:=run_equalIn_bool 9999 ht p q
theorem af5 {t:TypeId} {x y:Operand} (ht:P.underlying t=some .bool) (neg:Bool) (p q:Bool):
  ((do eqGuard (if neg then .neq else .eql) t x y (.bool p) (.bool q); binOp (if neg then .neq else .eql) t (.bool p) (.bool q)):Sem Value).run P w=.ok (.bool (if neg then !(p==q) else p==q)) w:=by
 have h:=run_equal_bool (P:=P) (w:=w) ht p q
 cases neg with
 | true=>
   have e:binOp .neq t (.bool p) (.bool q)=(do pure (.bool (!(←Op.equal t (.bool p) (.bool q)))):Sem Value):=rfl
   have g:(eqGuard .neq t x y (.bool p) (.bool q)).run P w=.ok () w:=rfl
   simp only [if_true,Sem.run_bind,g,Result.andThen_ok,e,h]
   rfl
 | false=>
   have e:binOp .eql t (.bool p) (.bool q)=(do pure (.bool (←Op.equal t (.bool p) (.bool q))):Sem Value):=rfl
   have g:(eqGuard .eql t x y (.bool p) (.bool q)).run P w=.ok () w:=rfl
   simp only [dN,if_false,Sem.run_bind,g,Result.andThen_ok,e,h]
   rfl
theorem agO {t yt:TypeId} {neg:Bool} {x y:Operand} {x' y':Od} (hC:ae P B G0 W0 n env a.tmps w ob) (hK:bA P B G0 W0 n a K r next) (hd:∀ k,o.dst=some k→bl W0 n k) (hdst:i.dst=o.dst)
  (ho:o.op=.binOp (if neg then .neq else .eql) t x y yt) (hi:i.op=.mn neg .bool x' y') (ht:B6 P t=true) (hx:aE x x'=true) (hy:aE y y'=true) (h:step cl i env K=some r):o.wp P a w next Q:=by
 unfold step at h; rw [hi] at h; simp only [hdst,aj] at h
 obtain ⟨s,hs,u,hu,s',hs',u',hu',f,hf,h⟩:=h
 have:=cI hs'; subst this
 have:=cI hu'; subst this
 obtain ⟨vs,e1,f1⟩:=lz hC hx hs
 obtain ⟨us,e2,f2⟩:=lz hC hy hu
 unfold Flat at f1 f2
 obtain ⟨rfl,_⟩:=f1
 obtain ⟨rfl,_⟩:=f2
 simp only [dL,av] at hf
 subst hf
 have ht':P.underlying t=some .bool:=by
  unfold B6 at ht
  split at ht
  ·assumption
  ·simp at ht
 have e1':a.eval x=.bool s':=e1
 have e2':a.eval y=.bool u':=e2
 have hr:=af5 (P:=P) (w:=w) (x:=x) (y:=y) ht' neg s' u'
 refine bo (v:=.bool (if neg then !(s'==u') else (s'==u'))) (w':=w) ?_ (bu hC hK hd (aM.refl w) (ko _ _ _) h)
 have e:execOp a.eval o=(do pure (.value (←(do eqGuard (if neg then .neq else .eql) t x y (a.eval x) (a.eval y); binOp (if neg then .neq else .eql) t (a.eval x) (a.eval y)))):Sem Next):=by
  unfold execOp; rw [ho]
 rw [e,e1',e2',Sem.run_bind,hr]
 rfl
end
end Go.Fw
/- Soundness: equality of structs. -/
namespace Go.Fw
open Go Go.RowKit
mutual
def hP (P:Program):Nat→TypeId→Ty→Bool
 | 0,_,_=>false
 | n+1,t,T=>match P.underlying t with
   | some (.int _)=>(match T with | .int _=>true | _=>false)
   | some .bool=>(match T with | .bool=>true | _=>false)
   | some .string=>(match T with | .str=>true | _=>false)
   | some (.struct fs)=>bZ T&&!P.stoodInHeld t&&ml P n fs.toList T 0
   | _=>false
def ml (P:Program):Nat→List Field→Ty→Nat→Bool
 | 0,_,_,_=>false
 | _+1,[],T,_=>(match T with | .unit=>true | _=>false)
 | n + 1, f :: fs, T, off => (match T with | .pair A B => !(f.name == "_") && f.offset == off && cW P 64 f.type A && hP P n f.type A && ml P n fs B (off + ax A) | _ => false)
end
section
variable {P:Program} {w:World} {G:Nat→Nat→Prop} {B:Nat}
theorem OA:∀ (n:Nat),
  (∀ (d:Nat) (t:TypeId) (T:Ty) (f:den T→den T→Bool) (x y:den T) (vs us:List Value),hP P n t T=true→n≤d→dL T=some f→Flat P T w G B .no x vs []→Flat P T w G B .no y us []→
   (Op.equalIn d t (bg T vs) (bg T us)).run P w=.ok (f x y) w)∧
  (∀ (d:Nat) (fs:List Field) (T:Ty) (off:Nat) (f:den T→den T→Bool) (x y:den T) (v1 u1 vs us:List Value),ml P n fs T off=true→n≤d→dL T=some f→Flat P T w G B .no x vs []→Flat P T w G B .no y us []→
   v1.length=off→u1.length=off→(Op.eqFields d (v1++vs).toArray (u1++us).toArray fs).run P w=.ok (f x y) w):=by
 intro n
 induction n with
 | zero=>exact ⟨fun d t T f x y vs us h=>by simp [hP] at h,fun d fs T off f x y v1 u1 vs us h=>by simp [ml] at h⟩
 | succ n ih=>
   obtain ⟨ih1,ih2⟩:=ih
   refine ⟨fun d t T f x y vs us h hd hf hx hy=>?_,fun d fs T off f x y v1 u1 vs us h hd hf hx hy hv hu=>?_⟩
   ·obtain ⟨d,rfl⟩:∃ d',d=d'+1:=⟨d - 1,by omega⟩
    unfold hP at h
    split at h
    ·rename_i k hk
     cases T<;>first | (exfalso; simp at h; done) | skip
     unfold Flat at hx hy
     obtain ⟨rfl,_⟩:=hx
     obtain ⟨rfl,_⟩:=hy
     simp only [dL,av] at hf
     subst hf
     exact run_equalIn_int w d t _ _ x y hk
    ·rename_i hk
     cases T<;>first | (exfalso; simp at h; done) | skip
     unfold Flat at hx hy
     obtain ⟨rfl,_⟩:=hx
     obtain ⟨rfl,_⟩:=hy
     simp only [dL,av] at hf
     subst hf
     exact run_equalIn_bool' w d t x y hk
    ·rename_i hk
     cases T<;>first | (exfalso; simp at h; done) | skip
     unfold Flat at hx hy
     obtain ⟨rfl,_⟩:=hx
     obtain ⟨rfl,_⟩:=hy
     simp only [dL,av] at hf
     subst hf
     have:=run_equalIn_string (P:=P) w d t ⟨⟨x⟩⟩ ⟨⟨y⟩⟩ hk
     rw [ByteArray.toList_eq,ByteArray.toList_eq] at this
     exact this
    ·rename_i fs hk
     simp only [aq,dc] at h
     obtain ⟨⟨h1,h2⟩,h3⟩:=h
     have e1:bg T vs=.agg vs.toArray:=by unfold bg; rw [if_pos h1]
     have e2:bg T us=.agg us.toArray:=by unfold bg; rw [if_pos h1]
     have hfo:P.fieldsOf t=fs:=by unfold Program.fieldsOf; rw [hk]
     rw [e1,e2,run_equalIn_struct w d t _ _ (by rw [hfo]; exact hk) h2,hfo]
     exact ih2 d fs.toList T 0 f x y [] [] vs us h3 (by omega) hf hx hy rfl rfl
    ·simp at h
   ·cases fs with
    | nil=>
      unfold ml at h
      cases T<;>first | (exfalso; simp at h; done) | skip
      simp only [dL,av] at hf
      subst hf
      simp [Op.eqFields]
    | cons g fs=>
      unfold ml at h
      cases T<;>first | (exfalso; simp at h; done) | skip
      rename_i A C
      simp only [aq,dc,beq_iff_eq] at h
      obtain ⟨⟨⟨⟨h1,h2⟩,h3⟩,h4⟩,h5⟩:=h
      unfold Flat at hx hy
      obtain ⟨p1,p2,b1,b2,rfl,hob,hx1,hx2⟩:=hx
      obtain ⟨q1,q2,c1,c2,rfl,hoc,hy1,hy2⟩:=hy
      obtain ⟨rfl,rfl⟩:=BB.1 hob.symm
      obtain ⟨rfl,rfl⟩:=BB.1 hoc.symm
      simp only [dL] at hf
      split at hf
      case h_2=>simp at hf
      rename_i fA fC hfA hfC
      simp only [av] at hf
      subst hf
      have hT:bC P g.type A:=⟨⟨64,h3⟩⟩
      have l1:=Flat.len P A hx1
      have l2:=Flat.len P A hy1
      have r1:=wN hT w (v1:=v1) (v3:=p2) l1
      have r2:=wN hT w (v1:=u1) (v3:=q2) l2
      rw [hv,bI,←h2] at r1
      rw [hu,bI,←h2] at r2
      have r3:=ih1 d g.type A fA x.1 y.1 p1 q1 h4 (by omega) hfA hx1 hy1
      have hne : g.name ≠ "_" := by intro e; rw [e] at h1; simp at h1
      simp only [Op.eqFields,if_pos hne,Sem.run_bind,r1,r2,r3,Result.andThen_ok,Sem.run_ite,Sem.run_pure]
      by_cases hb:fA x.1 y.1=true
      ·rw [hb]
       simp only [Bool.not_true,dN,if_false,Bool.true_and]
       have:=ih2 d fs C (off+ax A) fC x.2 y.2 (v1++p1) (u1++q1) p2 q2 h5 (by omega) hfC hx2 hy2 (by simp [hv,l1]) (by simp [hu,l2])
       rw [bI,bI] at this
       exact this
      ·have hb':fA x.1 y.1=false:=by simpa using hb
       rw [hb']; simp
def eqStr (P:Program) (t:TypeId) (T:Ty):Bool:=bZ T&&hP P 64 t T&&!P.eqGuardType P.depth t
theorem af7 {t:TypeId} {T:Ty} {x y:Operand} {f:den T→den T→Bool} {p q:den T} {vs us:List Value} (h:eqStr P t T=true) (hf:dL T=some f) (hx:Flat P T w G B .no p vs []) (hy:Flat P T w G B .no q us []) (neg:Bool):
  (do eqGuard (if neg then .neq else .eql) t x y (bg T vs) (bg T us); binOp (if neg then .neq else .eql) t (bg T vs) (bg T us):Sem Value).run P w=.ok (.bool (if neg then !f p q else f p q)) w:=by
 simp only [eqStr,aq,dc] at h
 obtain ⟨⟨h1,h2⟩,h3⟩:=h
 have he:=(OA (P:=P) (w:=w) (G:=G) (B:=B) 64).1 10000 t T f p q vs us h2 (by decide) hf hx hy
 have e1:bg T vs=.agg vs.toArray:=by unfold bg; rw [if_pos h1]
 have e2:bg T us=.agg us.toArray:=by unfold bg; rw [if_pos h1]
 rw [e1,e2] at he ⊢
 cases neg with
 | true=>simp only [if_true,Sem.run_bind,run_eqGuard_agg w .neq t x y _ _ h3,Result.andThen_ok,run_neq_struct,he]
 | false=>simp only [dN,if_false,Sem.run_bind,run_eqGuard_agg w .eql t x y _ _ h3,Result.andThen_ok,run_eql_struct,he]
end
section
variable {P:Program} {B:Nat} {G0:Nat→Nat→Prop} {W0:cZ} {n:Nat} {env:Env} {a:Act} {w:World} {ob:Nat→OB} {cl:ay}
variable {R:Type} {K:cH R} {r:R} {next:Act→World→Prop} {Q:Exit→Act→World→Prop} {o:Oper} {i:AI}
theorem agP {t yt:TypeId} {T:Ty} {neg:Bool} {x y:Operand} {x' y':Od} (hC:ae P B G0 W0 n env a.tmps w ob) (hK:bA P B G0 W0 n a K r next) (hd:∀ k,o.dst=some k→bl W0 n k) (hdst:i.dst=o.dst)
  (ho:o.op=.binOp (if neg then .neq else .eql) t x y yt) (hi:i.op=.mn neg T x' y') (ht:eqStr P t T=true) (hx:aE x x'=true) (hy:aE y y'=true) (h:step cl i env K=some r):o.wp P a w next Q:=by
 unfold step at h; rw [hi] at h; simp only [hdst,aj] at h
 obtain ⟨s,hs,u,hu,s',hs',u',hu',f,hf,h⟩:=h
 have:=cI hs'; subst this
 have:=cI hu'; subst this
 obtain ⟨vs,e1,f1⟩:=lz hC hx hs
 obtain ⟨us,e2,f2⟩:=lz hC hy hu
 have hr:=af7 (x:=x) (y:=y) ht hf f1 f2 neg
 refine bo (v:=.bool (if neg then !f s' u' else f s' u')) (w':=w) ?_ (bu hC hK hd (aM.refl w) (ko _ _ _) h)
 have e:execOp a.eval o=(do pure (.value (←(do eqGuard (if neg then .neq else .eql) t x y (a.eval x) (a.eval y); binOp (if neg then .neq else .eql) t (a.eval x) (a.eval y)))):Sem Next):=by
  unfold execOp; rw [ho]
 rw [e,e1,e2,Sem.run_bind,hr]
 rfl
end
end Go.Fw
/- Contracts of functions, put into what calls answer; keeps of environments. -/
namespace Go.Fw
open Go Go.RowKit
theorem ay.ext' {a b:ay} (h:∀ f es,a.run f es=b.run f es):a=b:=by
 obtain ⟨r1,k1,e1⟩:=a
 obtain ⟨r2,k2,e2⟩:=b
 have:r1=r2:=by funext f es; exact h f es
 subst this
 have: @k1=@k2:=by funext R f es k; rw [e1,e2]
 subst this
 rfl
structure aO where
 A:Type
 B:Type
 f:FuncId
 enc:A→List E
 dec:List E→Option A
 S:A→Option B
 au:B→List E
 ok:∀ es a,dec es=some a→es=enc a
def aO.holds (c:aO) (cl:ay):Prop:=∀ a,cl c.f (c.enc a)=(c.S a).bind fun b=>some (c.au b)
def ay.put (cl:ay) (c:aO):ay where
 run f es:=match eQ f c.f with
  | .isTrue _=>(match c.dec es with | some a=>(c.S a).bind fun b=>some (c.au b) | none=>cl f es)
  | .isFalse _=>cl f es
 runK f es k:=match eQ f c.f with
  | .isTrue _=>(match c.dec es with | some a=>(c.S a).bind fun b=>k (c.au b) | none=>cl.runK f es k)
  | .isFalse _=>cl.runK f es k
 eqn f es k:=by
  cases eQ f c.f with
  | isFalse _=>exact cl.eqn f es k
  | isTrue _=>
    simp only
    cases c.dec es with
    | none=>exact cl.eqn f es k
    | some a=>simp only [Option.bind_assoc,ar]
theorem aP {c:aO} {cl:ay} (h:c.holds cl):cl.put c=cl:=by
 apply ay.ext'
 intro f es
 simp only [ay.put]
 cases eQ f c.f with
 | isFalse _=>rfl
 | isTrue hf=>
   simp only
   cases hd:c.dec es with
   | none=>rfl
   | some a=>
     have:=c.ok es a hd
     subst this; subst hf
     exact (h a).symm
theorem aW {tb:Table} {pr:lW} {N D:Nat} {f:FuncId} {fd:FD} {es:List E} (hp:pr f=none) (hu:fY es=false) (ht:tb f=some fd) (hl:es.length=fd.nargs) (hd:(fd.lend==jO es)=true):
  bz tb pr N (D+1) f es=exec (bz tb pr N D) N fd.body (params 0 es) (ah fd):=by
 show (match pr f with
  | some p=>p es
  | none=>match fY es with
    | true=>none
    | false=>match tb f with
      | some fd=>match eQ es.length fd.nargs with
        | .isTrue _=>(match fd.lend==jO es with
          | true=>exec (bz tb pr N D) N fd.body (params 0 es) (ah fd)
          | false=>none)
        | .isFalse _=>none
      | none=>none)=_
 rw [hp,hu,ht]
 simp only
 cases eQ es.length fd.nargs with
 | isTrue _=>simp only [hd]
 | isFalse h=>exact absurd hl h
theorem xB {tb:Table} {pr:lW} {N D:Nat} {f:FuncId} {p:List E→Option (List E)} {es:List E} (hp:pr f=some p):bz tb pr N (D+1) f es=p es:=by
 show (match pr f with
  | some p=>p es
  | none=>match fY es with
    | true=>none
    | false=>match tb f with
      | some fd=>match eQ es.length fd.nargs with
        | .isTrue _=>(match fd.lend==jO es with
          | true=>exec (bz tb pr N D) N fd.body (params 0 es) (ah fd)
          | false=>none)
        | .isFalse _=>none
      | none=>none)=_
 rw [hp]
def bG (T:Ty):E→Option (den T)
 | .v T' x=>bh T ⟨T',x⟩
 | _=>none
def n9 (T:Ty):E→Option (den T)
 | .at T' x=>bh T ⟨T',x⟩
 | _=>none
theorem mT {T:Ty} {y:TV} {x:den T} (h:bh T y=some x):y=⟨T,x⟩:=by
 obtain ⟨T',z⟩:=y
 unfold bh at h
 split at h
 ·rename_i hT
  simp only at hT
  subst hT
  simp only [av] at h
  subst h; rfl
 ·simp at h
theorem Ul {T:Ty} {e:E} {x:den T} (h:bG T e=some x):e=.v T x:=by
 cases e<;>simp only [bG] at h<;>first | (exfalso; simp at h; done) | (have:=mT h; cases this; rfl)
theorem Ug {T:Ty} {e:E} {x:den T} (h:n9 T e=some x):e=.at T x:=by
 cases e<;>simp only [n9] at h<;>first | (exfalso; simp at h; done) | (have:=mT h; cases this; rfl)
theorem anP {α:Type} (b:Bool) (x y:α):ad b x y=if b then x else y:=by cases b<;>rfl
def A9 {R:Type} (live:List Nat) (body:Env→KE R→Option R) (K:KE R) (m:Nat):KE R:=fun e env=>match e with
 | .normal=>iter live body K m (ak live env)
 | .exit id=>K (.exit id) env
 | .ret=>K .ret env
theorem ck {R:Type} (live:List Nat) (body:Env→KE R→Option R) (K:KE R) (m:Nat) (env:Env):iter live body K (m+1) env=body env (A9 live body K m):=dO rfl rfl
theorem an6 {R:Type} (live:List Nat) (body:Env→KE R→Option R) (K:KE R) (env:Env):iter live body K 0 env=none:=dO rfl rfl
theorem cq {R:Type} (live:List Nat) (body:Env→KE R→Option R) (K:KE R) (m:Nat) (env:Env):A9 live body K m .normal env=iter live body K m (ak live env):=dO rfl rfl
theorem cm {R:Type} (live:List Nat) (body:Env→KE R→Option R) (K:KE R) (m id:Nat) (env:Env):A9 live body K m (.exit id) env=K (.exit id) env:=dO rfl rfl
theorem ct {R:Type} (live:List Nat) (body:Env→KE R→Option R) (K:KE R) (m:Nat) (env:Env):A9 live body K m .ret env=K .ret env:=dO rfl rfl
theorem b9 {R:Type} (y:Env→Option R) (K:KE R) (env:Env):lN y K .normal env=y env:=dO rfl rfl
theorem b8 {R:Type} (y:Env→Option R) (K:KE R) (id:Nat) (env:Env):lN y K (.exit id) env=K (.exit id) env:=dO rfl rfl
theorem ca {R:Type} (y:Env→Option R) (K:KE R) (env:Env):lN y K .ret env=K .ret env:=dO rfl rfl
theorem cz {R:Type} (id:Nat) (K:KE R) (env:Env):kE id K .normal env=K .normal env:=dO rfl rfl
theorem cA {R:Type} (id:Nat) (K:KE R) (env:Env):kE id K .ret env=K .ret env:=dO rfl rfl
theorem cy {R:Type} (id:Nat) (K:KE R) (env:Env):kE id K (.exit id) env=K .normal env:=by
 unfold kE; simp only
 cases eQ id id with
 | isTrue _=>rfl
 | isFalse h=>exact absurd rfl h
theorem anN {R:Type} (id j:Nat) (h:xm j id=false) (K:KE R) (env:Env):kE id K (.exit j) env=K (.exit j) env:=by
 unfold kE; simp only
 cases eQ j id with
 | isTrue e=>subst e; rw [Nat.beq_refl] at h; cases h
 | isFalse _=>rfl
section
variable {cl:ay} {N:Nat} {R:Type} (env:Env) (K:KE R)
theorem an1:exec cl N .skip env K=K .normal env:=dO rfl rfl
theorem an0:exec cl N .ret env K=K .ret env:=dO rfl rfl
theorem anZ (id:Nat):exec cl N (.exit id) env K=K (.exit id) env:=dO rfl rfl
theorem b6 (a b:AC):exec cl N (.seq a b) env K=exec cl N a env (lN (fun env=>exec cl N b env K) K):=dO rfl rfl
theorem aY (l:List Nat) (b:AC):exec cl N (.out l b) env K=exec cl N b env (fun e env=>K e (ak l env)):=dO rfl rfl
theorem cB (id:Nat) (b:AC):exec cl N (.block id b) env K=exec cl N b env (kE id K):=dO rfl rfl
theorem cj (l:List Nat) (b:AC):exec cl N (.loop l b) env K=iter l (fun env K=>exec cl N b env K) K N (ak l env):=dO rfl rfl
theorem anY (c:Od) (x y:AC):exec cl N (.cond c x y) env K=(ma (au env c)).bind fun q=>ad q (exec cl N x env K) (exec cl N y env K):=dO rfl rfl
theorem anX (c:Od) (x y:AC) (b:Bool) (h:ma (au env c)=some b):exec cl N (.cond c x y) env K=ad b (exec cl N x env K) (exec cl N y env K):=by
 show (ma (au env c)).bind (fun q=>ad q (exec cl N x env K) (exec cl N y env K))=_
 rw [h]; rfl
end
theorem aR {α:Type} (x y:α):ad true x y=x:=dO rfl rfl
theorem aH {α:Type} (x y:α):ad false x y=y:=dO rfl rfl
theorem anJ {α β:Type} (b:Bool) (x y:Option α) (h:α→Option β):(ad b x y).bind h=ad b (x.bind h) (y.bind h):=by cases b<;>rfl
theorem anK {α β:Type} (c:Prop) [Decidable c] (x y:Option α) (h:α→Option β):(if c then x else y).bind h=if c then x.bind h else y.bind h:=by split<;>rfl
theorem anL {α β:Type} (h:α→Option β):(none:Option α).bind h=none:=rfl
theorem anM {α β:Type} (a:α) (h:α→Option β):(some a).bind h=h a:=rfl
def aO.fc (c:aO):List E→Option (List E):=fun es=>(c.dec es).bind fun a=>(c.S a).bind fun b=>some (c.au b)
theorem Bh {tb:Table} {pr:lW} {N D:Nat} {c:aO} (hp:pr c.f=some c.fc) (hd:∀ a,c.dec (c.enc a)=some a):c.holds (bz tb pr N (D+1)):=by
 intro a
 rw [xB hp]
 simp only [aO.fc,hd,ar]
def bY:List E→Option Unit
 | []=>some ()
 | _=>none
def bc {A B:Type} (d:E→Option A) (r:List E→Option B):List E→Option (A×B)
 | []=>none
 | e::es=>match d e,r es with
   | some a,some b=>some (a,b)
   | _,_=>none
theorem iW {es:List E} {a:Unit} (h:bY es=some a):es=[]:=by
 cases es<;>simp [bY] at h; rfl
theorem FR {A B:Type} {d:E→Option A} {r:List E→Option B} {es:List E} {q:A×B} (h:bc d r es=some q):∃ e es',es=e::es'∧d e=some q.1∧r es'=some q.2:=by
 cases es with
 | nil=>simp [bc] at h
 | cons e es=>
   simp only [bc] at h
   split at h
   ·rename_i a b ha hb; cases h; exact ⟨e,es,rfl,ha,hb⟩
   ·simp at h
theorem fX {T:Ty} {B:Type} {r:List E→Option B} {enc:B→List E} (hr:∀ es b,r es=some b→es=enc b) (es:List E) (q:den T×B) (h:bc (bG T) r es=some q):es=.v T q.1::enc q.2:=by
 obtain ⟨e,es',rfl,h1,h2⟩:=FR h
 rw [Ul h1,hr _ _ h2]
theorem zU {T:Ty} {B:Type} {r:List E→Option B} {enc:B→List E} (hr:∀ es b,r es=some b→es=enc b) (es:List E) (q:den T×B) (h:bc (n9 T) r es=some q):es=.at T q.1::enc q.2:=by
 obtain ⟨e,es',rfl,h1,h2⟩:=FR h
 rw [Ug h1,hr _ _ h2]
def N5 {B:Type} (r:List E→Option B):List E→Option B
 | .dead::es=>r es
 | _=>none
theorem anU {B:Type} {r:List E→Option B} {enc:B→List E} (hr:∀ es b,r es=some b→es=enc b) (es:List E) (q:B) (h:N5 r es=some q):es=.dead::enc q:=by
 unfold N5 at h
 split at h
 ·rw [hr _ _ h]
 ·cases h
def mP:aw→aw→Bool
 | .no,.no=>true
 | .hole,.hole=>true
 | .mp,.mp=>true
 | .own w e o,.own w' e' o'=>(match w,w' with | true,true=>true | false,false=>true | _,_=>false)&&xm e e'&&mP o o'
 | .pair a b,.pair a' b'=>mP a a'&&mP b b'
 | _,_=>false
theorem xF:∀ {a b:aw},mP a b=true→a=b
 | .no,.no,_=>rfl
 | .hole,.hole,_=>rfl
 | .mp,.mp,_=>rfl
 | .own w e o,.own w' e' o',h=>by
   simp only [mP,aq] at h
   obtain ⟨⟨h1,h2⟩,h3⟩:=h
   have h2:=Nat.eq_of_beq_eq_true h2
   have h3:=xF h3
   subst h2; subst h3
   cases w<;>cases w'<;>simp_all
 | .pair a b,.pair a' b',h=>by
   simp only [mP,aq] at h
   rw [xF h.1,xF h.2]
 | .no,.hole,h | .no,.own ..,h | .no,.pair ..,h | .hole,.no,h | .hole,.own ..,h | .hole,.pair ..,h | .own ..,.no,h | .own ..,.hole,h | .own ..,.pair ..,h | .pair ..,.no,h | .pair ..,.hole,h | .pair ..,.own ..,h=>by simp [mP] at h
def tj (o:aw) (T:Ty):E→Option (den T)
 | .loc T' o' x=>(match mP o' o with | true=>bh T ⟨T',x⟩ | false=>none)
 | _=>none
theorem Ui {o:aw} {T:Ty} {e:E} {x:den T} (h:tj o T e=some x):e=.loc T o x:=by
 unfold tj at h
 split at h
 ·split at h
  ·rename_i ho
   have:=xF ho
   subst this
   have:=mT h; cases this; rfl
  ·cases h
 ·cases h
theorem N4 {o:aw} {T:Ty} {B:Type} {r:List E→Option B} {enc:B→List E} (hr:∀ es b,r es=some b→es=enc b) (es:List E) (q:den T×B) (h:bc (tj o T) r es=some q):es=.loc T o q.1::enc q.2:=by
 obtain ⟨e,es',rfl,h1,h2⟩:=FR h
 rw [Ui h1,hr _ _ h2]
def N7 (T:Ty):E→Option (den T)
 | .loc T' _ x=>bh T ⟨T',x⟩
 | _=>none
def N6 (e:TypeId) (T:Ty):List E→Option (den (.sl T)×Unit)
 | [.bE,.own true e' T' .no xs]=>if e'=e then (bh (.sl T) ⟨.sl T',xs⟩).bind fun xs=>some (xs,()) else none
 | _=>none
theorem anV {e:TypeId} {T:Ty} (es:List E) (q:den (.sl T)×Unit) (h:N6 e T es=some q):es=[.bE,.own true e T .no q.1]:=by
 unfold N6 at h
 split at h
 ·split at h
  ·rename_i he
   subst he
   obtain ⟨y,hy,h⟩:=aj.1 h
   cases h
   have:=mT hy
   cases this; rfl
  ·cases h
 ·cases h
def FT (e:TypeId) (T A C:Ty):List E→Option (den (.fn A C)×(den (.sl T)×Unit))
 | [.bE,.v F g,.own true e' T' .no xs]=>if e'=e then (bh (.fn A C) ⟨F,g⟩).bind fun g=>(bh (.sl T) ⟨.sl T',xs⟩).bind fun xs=>some (g,(xs,())) else none
 | _=>none
theorem Uh {e:TypeId} {T A C:Ty} (es:List E) (q:den (.fn A C)×(den (.sl T)×Unit)) (h:FT e T A C es=some q):es=[.bE,.v (.fn A C) q.1,.own true e T .no q.2.1]:=by
 unfold FT at h
 split at h
 ·split at h
  ·rename_i he
   subst he
   obtain ⟨y,hy,h⟩:=aj.1 h
   obtain ⟨z,hz,h⟩:=aj.1 h
   cases h
   have:=mT hy
   cases this
   have:=mT hz
   cases this; rfl
  ·cases h
 ·cases h
def N3 (e:TypeId) (T A C:Ty):List E→Option (den (.sl T)×(den (.fn A C)×Unit))
 | [.bE,.own true e' T' .no xs,.v F g]=>if e'=e then (bh (.sl T) ⟨.sl T',xs⟩).bind fun xs=>(bh (.fn A C) ⟨F,g⟩).bind fun g=>some (xs,(g,())) else none
 | _=>none
theorem anT {e:TypeId} {T A C:Ty} (es:List E) (q:den (.sl T)×(den (.fn A C)×Unit)) (h:N3 e T A C es=some q):es=[.bE,.own true e T .no q.1,.v (.fn A C) q.2.1]:=by
 unfold N3 at h
 split at h
 ·split at h
  ·rename_i he
   subst he
   obtain ⟨y,hy,h⟩:=aj.1 h
   obtain ⟨z,hz,h⟩:=aj.1 h
   cases h
   have:=mT hy
   cases this
   have:=mT hz
   cases this; rfl
  ·cases h
 ·cases h
def FV (t e:TypeId):List E→Option (List UInt8×(List UInt8×Unit))
 | [.bE,.sb t' e' s,.v .str x]=>if t'=t∧e'=e then some (s,(x,())) else none
 | _=>none
theorem Uk {t e:TypeId} (es:List E) (q:List UInt8×(List UInt8×Unit)) (h:FV t e es=some q):es=[.bE,.sb t e q.1,.v .str q.2.1]:=by
 unfold FV at h
 split at h
 ·split at h
  ·rename_i he; obtain ⟨rfl,rfl⟩:=he; cases h; rfl
  ·cases h
 ·cases h
def FU (t e:TypeId):List E→Option (List UInt8×Unit)
 | [.bE,.sb t' e' s]=>if t'=t∧e'=e then some (s,()) else none
 | _=>none
theorem Uj {t e:TypeId} (es:List E) (q:List UInt8×Unit) (h:FU t e es=some q):es=[.bE,.sb t e q.1]:=by
 unfold FU at h
 split at h
 ·split at h
  ·rename_i he; obtain ⟨rfl,rfl⟩:=he; cases h; rfl
  ·cases h
 ·cases h
theorem adI {n:FuncId} {fd:FD} {N:Nat} {base:ay} {f:FuncId} (h:xm f n=false) (m:Nat) (es:List E):(recC n fd N base m).run f es=base.run f es:=by
 cases m with
 | zero=>rfl
 | succ m=>
   show (match eQ f n with
    | .isTrue _=>(match fY es with
      | true=>none
      | false=>match eQ es.length fd.nargs with
        | .isTrue _=>(match fd.lend==jO es with
          | true=>exec (recC n fd N base m) N fd.body (params 0 es) (ah fd)
          | false=>none)
        | .isFalse _=>none)
    | .isFalse _=>base.run f es)=_
   cases eQ f n with
   | isTrue e=>subst e; rw [Nat.beq_refl] at h; cases h
   | isFalse _=>rfl
theorem Ss {n:FuncId} {fd:FD} {N:Nat} {base:ay} {m:Nat} {es:List E} (hu:fY es=false) (hl:es.length=fd.nargs) (hd:(fd.lend==jO es)=true):(recC n fd N base (m+1)).run n es=exec (recC n fd N base m) N fd.body (params 0 es) (ah fd):=by
 have key:∀ f:FuncId,f=n→(recC n fd N base (m+1)).run f es=exec (recC n fd N base m) N fd.body (params 0 es) (ah fd):=by
  intro f hf
  show (match eQ f n with
   | .isTrue _=>(match fY es with
     | true=>none
     | false=>match eQ es.length fd.nargs with
       | .isTrue _=>(match fd.lend==jO es with
         | true=>exec (recC n fd N base m) N fd.body (params 0 es) (ah fd)
         | false=>none)
       | .isFalse _=>none)
   | .isFalse _=>base.run f es)=_
  cases eQ f n with
  | isFalse e=>exact absurd hf e
  | isTrue _=>
    simp only [hu]
    cases eQ es.length fd.nargs with
    | isTrue _=>simp only [hd]
    | isFalse h=>exact absurd hl h
 exact key n rfl
theorem wK {n:FuncId} {fd:FD} {N:Nat} {base:ay} {c:aO} (h:xm c.f n=false) (hc:c.holds base) (m:Nat):c.holds (recC n fd N base m):=fun a=>(adI h m _).trans (hc a)
end Go.Fw
/- Facts of closed calls, so that a call is run piece by piece. -/
namespace Go.Fw
open Go Go.RowKit
def lv {α:Type} (f:α→α→Bool):List α→List α→Bool
 | [],[]=>true
 | x::xs,y::ys=>f x y&&lv f xs ys
 | _,_=>false
theorem qy {α:Type} {f:α→α→Bool} (h:∀ x y,f x y=true→x=y):∀ {xs ys:List α},lv f xs ys=true→xs=ys
 | [],[],_=>rfl
 | x::xs,y::ys,e=>by
   simp only [lv,aq] at e
   rw [h x y e.1,qy h e.2]
 | [],_::_,e=>by simp [lv] at e
 | _::_,[],e=>by simp [lv] at e
def jN:(T:Ty)→den T→den T→Bool
 | .int _=>fun x y=> @decide (x=y) (Int.instDecidableEq x y)
 | .bool=>fun x y=>match x,y with | true,true=>true | false,false=>true | _,_=>false
 | .str=>lv fun x y=> @decide (x.toNat=y.toNat) (eQ _ _)
 | .unit=>fun _ _=>true
 | .pair A B=>fun x y=>jN A x.1 y.1&&jN B x.2 y.2
 | .sl T=>lv (jN T)
 | .arr _ T=>lv (jN T)
 | .fn _ _=>fun _ _=>false
 | .map K V=>lv fun x y=>jN K x.1 y.1&&jN V x.2 y.2
theorem oz:∀ (T:Ty) (x y:den T),jN T x y=true→x=y
 | .int _,x,y,h=>of_decide_eq_true h
 | .bool,x,y,h=>by cases x<;>cases y<;>first | rfl | (simp [jN] at h; done)
 | .str,x,y,h=>qy (fun a b h=>by
   have:=of_decide_eq_true h
   exact UInt8.toNat_inj.1 this) h
 | .unit,x,y,_=>rfl
 | .pair A B,x,y,h=>by
   simp only [jN,aq] at h
   exact Prod.ext (oz A _ _ h.1) (oz B _ _ h.2)
 | .sl T,x,y,h=>qy (oz T) h
 | .arr _ T,x,y,h=>qy (oz T) h
 | .fn _ _,x,y,h=>by simp [jN] at h
 | .map K V,x,y,h=>qy (fun a b h=>by
   simp only [aq] at h
   exact Prod.ext (oz K _ _ h.1) (oz V _ _ h.2)) h
def Ac (x y:TV):Bool:=if h:x.1=y.1 then jN y.1 (h▸x.2) y.2 else false
theorem Oy {x y:TV} (h:Ac x y=true):x=y:=by
 obtain ⟨T,x⟩:=x; obtain ⟨T',y⟩:=y
 unfold Ac at h
 split at h
 ·rename_i e
  simp only at e
  subst e
  have h':jN T x y=true:=h
  rw [oz _ _ _ h']
 ·cases h
def GD:E→E→Bool
 | .v T x,.v T' y=>Ac ⟨T,x⟩ ⟨T',y⟩
 | .at T x,.at T' y=>Ac ⟨T,x⟩ ⟨T',y⟩
 | _,_=>false
theorem Ur (a b:E) (h:GD a b=true):a=b:=by
 unfold GD at h
 split at h
 ·have:=Oy h; cases this; rfl
 ·have:=Oy h; cases this; rfl
 ·cases h
abbrev Fact:=FuncId×List E×List E
def nv:List Fact→FuncId→List E→Option (List E)
 | [],_,_=>none
 | (g,as,rs)::r,f,es=>match eQ g f with
   | .isTrue _=>(match lv GD as es with | true=>some rs | false=>nv r f es)
   | .isFalse _=>nv r f es
theorem IA:∀ {fs:List Fact} {f:FuncId} {es rs:List E},nv fs f es=some rs→(f,es,rs)∈fs
 | [],_,_,_,h=>by simp [nv] at h
 | (g,as,rs')::r,f,es,rs,h=>by
   simp only [nv] at h
   split at h
   ·rename_i hg _
    split at h
    ·rename_i he
     simp only [av] at h
     subst h; subst hg
     rw [qy Ur he]
     exact List.mem_cons_self ..
    ·exact eL _ (IA h)
   ·exact eL _ (IA h)
def Tm (fs:List Fact) (cl:ay):ay:=⟨fun f es=>match nv fs f es with | some rs=>some rs | none=>cl.run f es,fun f es k=>match nv fs f es with | some rs=>k rs | none=>cl.runK f es k,fun f es k=>by
 split
 ·rfl
 ·exact cl.eqn f es k⟩
def xC (cl:ay):List Fact→Prop
 | []=>True
 | q::r=>cl.run q.1 q.2.1=some q.2.2∧xC cl r
theorem JB {cl:ay}:∀ {fs:List Fact},xC cl fs→∀ q∈fs,cl.run q.1 q.2.1=some q.2.2
 | [],_,q,hq=>by simp at hq
 | p::r,h,q,hq=>by
   rcases cD.1 hq with rfl | hq
   ·exact h.1
   ·exact JB h.2 q hq
theorem anA {fs:List Fact} {cl:ay} (h:xC cl fs):Tm fs cl=cl:=by
 apply ay.ext'
 intro f es
 show (match nv fs f es with | some rs=>some rs | none=>cl.run f es)=cl.run f es
 split
 ·rename_i rs hl
  exact (JB h _ (IA hl)).symm
 ·rfl
theorem an2 {tb:Table} {pr:lW} {N D:Nat} {f:FuncId} {fd:FD} {es res:List E} (fs:List Fact) (h1:pr f=none) (hu:fY es=false) (h2:tb f=some fd) (h3:es.length=fd.nargs) (h4:(fd.lend==jO es)=true) (hf:xC (bz tb pr N D) fs)
  (hk:exec (Tm fs (bz tb pr N D)) N fd.body (params 0 es) (ah fd)=some res):(bz tb pr N (D+1)).run f es=some res:=by
 have:=aW (tb:=tb) (pr:=pr) (N:=N) (D:=D) (f:=f) (es:=es) h1 hu h2 h3 h4
 rw [anA hf] at hk
 exact this.trans hk
end Go.Fw
/- Soundness: ranging over a text. -/
namespace Go.Fw
open Go Go.RowKit
theorem wX (b:UInt8):b.toNat < 256:=b.toNat_lt
theorem Un (s:ByteArray) (i:Nat):(Utf8.decode s i).1 < 2097152:=by
 have h0:=wX (s.get! (i+0)); have h1:=wX (s.get! (i+1)); have h2:=wX (s.get! (i+2)); have h3:=wX (s.get! (i+3))
 unfold Utf8.decode
 simp only [Utf8.runeError]
 repeat' split
 all_goals (simp only; omega)
section
variable {P:Program} {B:Nat} {G0:Nat→Nat→Prop} {W0:cZ} {n:Nat} {env:Env} {a:Act} {w:World} {ob:Nat→OB} {tm:Array Value}
variable {R:Type} {K:cH R} {r:R} {next:Act→World→Prop} {Q:Exit→Act→World→Prop} {o:Oper} {i:AI} {cl:ay}
theorem age {b pos:Nat} {s:ByteArray} {ty:TypeId} (h:w.heap[b]?=some (.stringIter s pos)) (hp:pos < s.size):
  (Instr.next (.pointer (some ⟨b,0,none⟩)) true ty).run P w=.ok (.tuple #[.bool true,.int .i64 (pos:Int),.int .i32 ((Utf8.decode s pos).1:Int)]) {w with heap:=w.heap.setIfInBounds b (.stringIter s (pos+(Utf8.decode s pos).2))}:=by
 simp [Instr.next,getObj,setObj,Sem.run,h,hp,goInt]
theorem agd {b pos:Nat} {s:ByteArray} {ty:TypeId} (h:w.heap[b]?=some (.stringIter s pos)) (hp:¬ pos < s.size):
  (Instr.next (.pointer (some ⟨b,0,none⟩)) true ty).run P w=.ok (.tuple #[.bool false]) w:=by
 simp [Instr.next,getObj,Sem.run,h,hp]
theorem ahd {t:TypeId} {x:Operand} {y:Od} (hC:ae P B G0 W0 n env a.tmps w ob) (hK:bA P B G0 W0 n a K r next) (hd:∀ k,o.dst=some k→bl W0 n k) (hdst:i.dst=o.dst)
  (ho:o.op=.range t x) (hi:i.op=.Bm y) (ht:bC P t .str) (hx:aE x y=true) (h:step cl i env K=some r):o.wp P a w next Q:=by
 unfold step at h; rw [hi] at h; simp only [hdst,aj] at h
 obtain ⟨s,hs,h⟩:=h
 obtain ⟨hv,hl⟩:=sv hC hx hs
 have hg:aM w (w.alloc (.stringIter ⟨⟨s⟩⟩ 0)):=aM.alloc w _
 refine bo (v:=.pointer (some ⟨w.heap.size,0,none⟩)) (w':=w.alloc (.stringIter ⟨⟨s⟩⟩ 0)) ?_ ?_
 ·simp [execOp,ho,hv,Instr.range,run_underlying ht.str]
 ·cases bN:o.dst with
  | none=>rw [bN] at h; exact bu (d:=none) (e:=.dead) hC hK (fun k hk=>by cases hk) hg (v:=undef) rfl h
  | some k=>
    rw [bN] at h
    have h2:=ae.lK (e:=.it s 0) (v:=.pointer (some ⟨w.heap.size,0,none⟩)) (bk:=[(w.heap.size,0)]) hC (hd k bN) hg ?_ (by simp) (by simp)
    ·exact hK _ _ _ _ h2 h
    ·rw [if_neg (by simp [leads])]
     exact ⟨w.heap.size,rfl,hC.base,heap_alloc_new w _,hl,rfl⟩
theorem ae.Wb (hC:ae P B G0 W0 n env tm w ob) {k b:Nat} {s:List UInt8} {pos pos':Nat} (hk:look env k=.it s pos) (hb:tm.getD k undef=.pointer (some ⟨b,0,none⟩)):
  ae P B G0 W0 n ((k,.it s pos')::env) tm {w with heap:=w.heap.setIfInBounds b (.stringIter ⟨⟨s⟩⟩ pos')} ob:=by
 have hr:=hC.rep k
 rw [hk] at hr
 obtain ⟨b',h1,h2,h3,h4,h5⟩:=hr
 rw [hb] at h1
 simp only [Value.pointer.injEq,av,Addr.mk.injEq,and_true] at h1
 subst h1
 have hlow:=hC.low k b (by rw [h5]; simp)
 have other:∀ g,g≠b→(w.heap.setIfInBounds b (.stringIter ⟨⟨s⟩⟩ pos'))[g]?=w.heap[g]?:=fun g hg=>by
  rw [Array.getElem?_setIfInBounds_ne (bp hg)]
 have ncell:∀ (b' i:Nat),b'≠b→({w with heap:=w.heap.setIfInBounds b (.stringIter ⟨⟨s⟩⟩ pos')}:World).cell? ⟨b',i,none⟩=w.cell? ⟨b',i,none⟩:=fun b' i hne=>World.cell?_of_block (w:=w) (other b' hne)
 refine ae.step hC ⟨fun j x hx=>.inl ⟨j,hx⟩,fun b' _ hn=>other b' (by rintro rfl; exact hn k (by rw [h5]; simp))⟩ ⟨rfl,rfl,rfl,by simp,fun g hg=>other g (by omega),cE _⟩ (fun b' i _ h=>⟨h,ncell b' i ?_⟩) (fun j=>?_) hC.dist hC.nodup (fun j b' hb'=>by have:=hC.low j b' hb'; simpa using this) hC.size (fun _ _=>rfl)
 ·rintro rfl
  rcases h with ⟨h,_⟩ | ⟨_,_,h⟩
  ·exact absurd h (by omega)
  ·exact absurd (h k 0 (by rw [h5]; simp)) (by omega)
 ·by_cases hj:j=k
  ·subst hj; right
   rw [aL,if_pos rfl]
   exact ⟨b,hb,h2,by rw [Array.getElem?_setIfInBounds_self_of_lt (by omega)],h4,h5⟩
  ·left
   rw [aL,if_neg (bp hj)]
   refine ⟨rfl,rfl,rfl,fun g hg=>other g ?_,fun t ht=>?_⟩
   ·rintro rfl; exact hj (hC.dist j k _ hg (by rw [h5]; simp))
   ·by_cases htk:t=k
    ·subst htk
     have:=(bm.leads ht (hC.rep j)).1
     rw [hk] at this; simp [E.home] at this
    ·refine eo.same (P:=P) (by rw [aL,if_neg (bp htk)]) rfl (hC.rep t) (fun g hg=>other g ?_)
     rintro rfl; exact htk (hC.dist t k _ hg (by rw [h5]; simp))
theorem ahb {k:Nat} (hC:ae P B G0 W0 n env a.tmps w ob) (hK:bA P B G0 W0 n a K r next) (hd:∀ k,o.dst=some k→bl W0 n k) (hdst:i.dst=o.dst)
  (ho:o.op=.next (.tmp k) true) (hi:i.op=.du k) (h:step cl i env K=some r):o.wp P a w next Q:=by
 unfold step at h; rw [hi] at h; simp only [hdst] at h
 have hr:=hC.rep k
 split at h
 ·rename_i s pos he
  rw [he] at hr
  obtain ⟨b,h1,h2,h3,h4,h5⟩:=hr
  have hev:a.eval (.tmp k)=.pointer (some ⟨b,0,none⟩):=h1
  have hsz:(⟨⟨s⟩⟩:ByteArray).size=s.length:=rfl
  by_cases hp:pos < s.length
  ·rw [show decide (pos < s.length)=true by simpa using hp] at h
   simp only [ad] at h
   have hrun:=age (P:=P) (ty:=o.type) h3 (by rw [hsz]; exact hp)
   refine bo (v:=.tuple #[.bool true,.int .i64 (pos:Int),.int .i32 ((Utf8.decode ⟨⟨s⟩⟩ pos).1:Int)]) (w':={w with heap:=w.heap.setIfInBounds b (.stringIter ⟨⟨s⟩⟩ (pos+(Utf8.decode ⟨⟨s⟩⟩ pos).2))}) ?_ ?_
   ·simp [execOp,ho,hev,hrun]
   ·have hC1:=ae.Wb (pos':=pos+(Utf8.decode ⟨⟨s⟩⟩ pos).2) hC he h1
    have hdl:=Un ⟨⟨s⟩⟩ pos
    refine bu (e:=.cC [.v .bool true,.v (.int .i64) (pos:Int),.v (.int .i32) ((Utf8.decode ⟨⟨s⟩⟩ pos).1:Int)]) hC1 hK hd (aM.refl _) ⟨by simp [leads],_,rfl,?_⟩ h
    refine ⟨.bool true,[.int .i64 (pos:Int),.int .i32 ((Utf8.decode ⟨⟨s⟩⟩ pos).1:Int)],[],[],rfl,rfl,⟨rfl,[.bool true],by unfold Flat; exact ⟨rfl,rfl⟩,rfl⟩,.int .i64 (pos:Int),[.int .i32 ((Utf8.decode ⟨⟨s⟩⟩ pos).1:Int)],[],[],rfl,rfl,⟨rfl,[.int .i64 (pos:Int)],?_,rfl⟩,.int .i32 ((Utf8.decode ⟨⟨s⟩⟩ pos).1:Int),[],[],[],rfl,rfl,⟨rfl,[.int .i32 ((Utf8.decode ⟨⟨s⟩⟩ pos).1:Int)],?_,rfl⟩,rfl,rfl⟩
    ·unfold Flat
     refine ⟨rfl,?_,rfl⟩
     have:(maxLen:Int)≤9223372036854775807:=by decide
     constructor
     ·show (-9223372036854775808:Int)≤_; omega
     ·show _≤(9223372036854775807:Int); omega
    ·unfold Flat
     refine ⟨rfl,?_,rfl⟩
     constructor
     ·show (-2147483648:Int)≤_; omega
     ·show _≤(2147483647:Int); omega
  ·rw [show decide (pos < s.length)=false by simpa using hp] at h
   simp only [ad] at h
   have hrun:=agd (P:=P) (ty:=o.type) h3 (by rw [hsz]; exact hp)
   refine bo (v:=.tuple #[.bool false]) (w':=w) (by simp [execOp,ho,hev,hrun]) ?_
   exact bu (e:=.cC [.v .bool false]) hC hK hd (aM.refl _) ⟨by simp [leads],#[.bool false],rfl,.bool false,[],[],[],rfl,rfl,⟨rfl,[.bool false],by unfold Flat; exact ⟨rfl,rfl⟩,rfl⟩,rfl,rfl⟩ h
 ·simp at h
theorem aha {x:Operand} {y:Od} (hC:ae P B G0 W0 n env a.tmps w ob) (hK:bA P B G0 W0 n a K r next) (hd:∀ k,o.dst=some k→bl W0 n k) (hdst:i.dst=o.dst)
  (ho:o.op=.nilCheck x) (hi:i.op=.jf y) (hx:aE x y=true) (h:step cl i env K=some r):o.wp P a w next Q:=by
 unfold step at h; rw [hi] at h; simp only [hdst] at h
 have hr:=eS hC hx
 have fin:(∃ p,a.eval x=.pointer (some p))→K (aK env o.dst (eZ y (au env y)))=some r→o.wp P a w next Q:=by
  rintro ⟨p,hp⟩ h
  exact bo (v:=a.eval x) (by simp [execOp,ho,hp]) (tD hC hK hx hd h)
 split at h
 ·rename_i s p he
  rw [he] at hr
  obtain ⟨_,T,oo,z,b,_,_,_,h4⟩:=hr
  exact fin ⟨_,h4⟩ h
 ·rename_i s p j q he
  rw [he] at hr
  obtain ⟨_,hh,g,m,c,_,_,_,_,h4⟩:=hr
  exact fin ⟨_,h4⟩ h
 ·rename_i T z he
  rw [he] at hr
  obtain ⟨_,b,off,vs,h4,_⟩:=hr
  exact fin ⟨_,h4⟩ h
 ·rename_i T oo z he
  rw [he] at hr
  obtain ⟨b,cur,e,ob',h4,_⟩:=hr
  exact fin ⟨_,h4⟩ h
 ·simp at h
theorem Ov {P:Program} {w:World} {G:Nat→Nat→Prop} {B:Nat} {k:IntKind}:∀ {xs:List Int} {cells:List Value} {ob:OB},aJ (Flat P (.int k) w G B .no) xs cells ob→cells=xs.map (Value.int k)
 | [],_,_,h=>h.1
 | x::xs,_,_,⟨v1,v2,b1,b2,e1,_,h1,h2⟩=>by
   unfold Flat at h1
   rw [e1,h1.1,Ov h2]; rfl
theorem QQ {P:Program} {w:World} {G:Nat→Nat→Prop} {B:Nat} {k:IntKind}:∀ {xs:List Int},(∀ x∈xs,fx k x)→aJ (Flat P (.int k) w G B .no) xs (xs.map (Value.int k)) []
 | [],_=>⟨rfl,rfl⟩
 | x::xs,h=>⟨[.int k x],xs.map (Value.int k),[],[],rfl,rfl,by unfold Flat; exact ⟨rfl,h x (by simp),rfl⟩,QQ (fun y hy=>h y (by simp [hy]))⟩
theorem ahm {src dst e:TypeId} {x:Operand} {y:Od} (hC:ae P B G0 W0 n env a.tmps w ob) (hK:bA P B G0 W0 n a K r next) (hd:∀ k,o.dst=some k→bl W0 n k) (hdst:i.dst=o.dst)
  (ho:o.op=.convert src dst x) (hi:i.op=.toStr y) (hs:P.underlying src=some (.slice e)) (he:P.underlying e=some (.int .u8)) (ht:P.underlying dst=some .string) (hx:aE x y=true) (h:step cl i env K=some r):o.wp P a w next Q:=by
 unfold step at h; rw [hi] at h; simp only [hdst,aj] at h
 obtain ⟨z,hz,xs,hxs,h⟩:=h
 have:=cI hxs; subst this
 obtain ⟨vs,e1,f1⟩:=lz hC hx hz
 unfold Flat at f1
 obtain ⟨_,A,c,rfl,hle,hmx,hcells⟩:=f1
 have ev:a.eval x=.slice A xs.length c:=e1
 have hrun:(convert src dst (.slice A xs.length c)).run P w=.ok (.string ⟨⟨xs.map fun n=>l6 n.toNat⟩⟩) w:=by
  have key:∀ b off,A=some ⟨b,off,none⟩→(∀ j,j < xs.length→w.cell? ⟨b,off+j,none⟩=some (.int .u8 (xs.getD j 0)))→(convert src dst (.slice A xs.length c)).run P w=.ok (.string ⟨⟨xs.map fun n=>l6 n.toNat⟩⟩) w:=by
   rintro b off rfl hc
   rw [run_convert_bytes_arg w src e hs he b off xs.length c xs rfl hc dst ht]
   rfl
  rcases hcells with h0 | ⟨b,off,cells,hA,hel,hc⟩
  ·subst h0
   cases A with
   | none=>exact run_convert_bytes_nil w src e hs he _ _ dst ht
   | some p=>
     have e0:=run_bytesToString (P:=P) w p 0 c [] (run_loadCells_list (P:=P) w p [] (fun j v hj=>by simp at hj))
     rw [run_convert_bytes_string w src dst e _ _ _ hs he ht]
     exact e0
  ·refine key b off hA (fun j hj=>?_)
   have e2:=Ov hel
   subst e2
   refine (hc j (.int .u8 (xs.getD j 0)) ?_).1
   simp [List.getD,List.getElem?_eq_getElem hj]
 refine bo (v:=.string ⟨⟨xs.map fun n=>l6 n.toNat⟩⟩) (w':=w) ?_ (bu (e:=.v .str (xs.map fun n=>l6 n.toNat)) hC hK hd (aM.refl w) ⟨rfl,[.string ⟨⟨xs.map fun n=>l6 n.toNat⟩⟩],by unfold Flat; exact ⟨rfl,by rw [List.length_map]; exact Nat.le_trans hle hmx,rfl⟩,rfl⟩ h)
 simp [execOp,ho,ev,hrun]
theorem ahl {src dst e:TypeId} {x:Operand} {y:Od} (hC:ae P B G0 W0 n env a.tmps w ob) (hK:bA P B G0 W0 n a K r next) (hd:∀ k,o.dst=some k→bl W0 n k) (hdst:i.dst=o.dst)
  (ho:o.op=.convert src dst x) (hi:i.op=.pB y) (hs:P.underlying src=some .string) (ht:P.underlying dst=some (.slice e)) (he:P.underlying e=some (.int .u8)) (hx:aE x y=true) (h:step cl i env K=some r):o.wp P a w next Q:=by
 unfold step at h; rw [hi] at h; simp only [hdst,aj] at h
 obtain ⟨s,hss,h⟩:=h
 obtain ⟨hv,hl⟩:=sv hC hx hss
 have hrun:=run_bytes_of_string w src dst e ⟨⟨s⟩⟩ hs ht he
 have hsz:(⟨⟨s⟩⟩:ByteArray).size=s.length:=rfl
 rw [hsz] at hrun
 generalize hcap:grownCap w s.length 0 e=cap at hrun
 have hge:s.length≤cap:=by rw [←hcap]; exact grownCap_ge w _ _ _
 have hcm:cap≤maxLen:=by rw [←hcap]; exact grownCap_le_maxLen w _ _ _ hl
 generalize hfz:((bytesRow ⟨⟨s⟩⟩ cap).size,(bytesRow ⟨⟨s⟩⟩ cap).size+1)=fz at hrun
 have hg:aM w (w.drew.alloc (.cells (bytesRow ⟨⟨s⟩⟩ cap) e fz)):=(aM.drew w).trans (aM.alloc w.drew _)
 refine bo (v:=.slice (some ⟨w.heap.size,0,none⟩) s.length cap) (w':=w.drew.alloc (.cells (bytesRow ⟨⟨s⟩⟩ cap) e fz)) (by simp [execOp,ho,hv,hrun]) ?_
 cases bN:o.dst with
 | none=>rw [bN] at h; exact bu (d:=none) (e:=.dead) hC hK (fun k hk=>by cases hk) hg (v:=undef) rfl h
 | some k=>
   rw [bN] at h
   have hxl:(s.map fun b=>(b.toNat:Int)).length=s.length:=by simp
   have hrow:cap - s.length+s.length=cap:=by omega
   have hbs:(bytesRow ⟨⟨s⟩⟩ cap).size=cap:=by
    unfold bytesRow
    simp only [Array.size_append,Array.size_map,Array.size_replicate,mH,hsz]
    omega
   have h2:=ae.lK (e:=.own true gD (.int .u8) .no (s.map fun b=>(b.toNat:Int))) (v:=.slice (some ⟨w.heap.size,0,none⟩) s.length cap) (bk:=[(w.heap.size,0)]) hC (hd k bN) hg ?_ (by simp) (by simp)
   ·exact hK _ _ _ _ h2 h
   ·rw [if_neg (by simp [leads])]
    show Flat P (.sl (.int .u8)) _ _ B (.own true gD .no) (s.map fun b=>(b.toNat:Int)) [_] _
    unfold Flat
    refine ⟨_,(s.map fun b=>(b.toNat:Int)).map (Value.int .u8),[],rfl,⟨by simp [ax],.inr ⟨w.heap.size,cap,bytesRow ⟨⟨s⟩⟩ cap,e,fz,by rw [hxl],hC.base,heap_alloc_new w.drew _,by rw [hxl]; exact hge,hcm,by rw [hbs]; simp [ax],?_,fun h=>absurd rfl h,.inr (by rw [←hfz]; exact cE _)⟩⟩,QQ (fun y hy=>?_),by simp [bK,Value.ownBlock]⟩
    ·simp only [ax,Nat.mul_one,hxl]
     unfold bytesRow
     simp only [Array.toList_append,Array.toList_map]
     rw [List.take_left' (by simp)]
     simp [List.map_map,Function.comp_def]
    ·obtain ⟨b,_,rfl⟩:=List.mem_map.1 hy
     have:=wX b
     constructor
     ·show (0:Int)≤_; omega
     ·show _≤(255:Int); omega
end
end Go.Fw
/- Soundness: copies that are shared; calls that write a list anew. -/
namespace Go.Fw
open Go Go.RowKit
section
variable {P:Program} {B:Nat} {G0:Nat→Nat→Prop} {W0:cZ} {n:Nat} {env:Env} {tm:Array Value} {a:Act} {w:World} {ob:Nat→OB} {cl:ay}
variable {R:Type} {K:cH R} {r:R} {next:Act→World→Prop} {Q:Exit→Act→World→Prop} {o:Oper} {i:AI}
theorem SY {x:Operand} {y:Od} (hC:ae P B G0 W0 n env a.tmps w ob) (hK:bA P B G0 W0 n a K r next) (hd:∀ k,o.dst=some k→bl W0 n k) (hdst:i.dst=o.dst)
  (ho:o.op=.move x∨o.op=.assign x) (hi:i.op=.cp y) (hx:aE x y=true) (h:step cl i env K=some r):o.wp P a w next Q:=by
 unfold step at h; rw [hi] at h; simp only [hdst,aj] at h
 obtain ⟨⟨env',z⟩,hz,h⟩:=h
 obtain ⟨ob',hf,hC',vs,hv,hF⟩:=lJ hC hx hz
 refine bo (w':=w) (v:=a.eval x) ?_ (bu (e:=.v z.1 z.2) hC' hK hd (aM.refl w) ⟨rfl,vs,hF,hv⟩ h)
 rcases ho with ho | ho<;>simp [execOp,ho]
theorem ae.grow (hC:ae P B G0 W0 n env tm w ob) {w':World} (hg:aM w w') {env':Env} (he:∀ k,look env' k=look env k):ae P B G0 W0 n env' tm w' ob:=by
 refine ae.step hC (.less hg fun k b hb=>⟨k,hb⟩) (hg.below hC.base) (fun b i hb h=>⟨h,hg.cell hb⟩) (fun k=>.inl ⟨he k,rfl,rfl,fun g hg'=>hg.block g (hC.low k g hg').2,fun s hs=>?_⟩) hC.dist hC.nodup (fun k b hb=>⟨(hC.low k b hb).1,Nat.lt_of_lt_of_le (hC.low k b hb).2 hg.size⟩) hC.size (fun _ _=>rfl)
 exact eo.same (P:=P) (he s) rfl (hC.rep s) (fun g hg'=>hg.block g (hC.low s g hg').2)
theorem IN (hC:ae P B G0 W0 n env tm w ob) {s:Nat} {e:TypeId} {T:Ty} {xs:List (den T)} (hs:look env s=.own true e T .no xs):
  ∃ cells,fM w B e (ax T) (tm.getD s undef) xs.length cells∧aJ (Flat P T w (Gd B G0 ob) B .no) xs cells []∧ob s=bK (tm.getD s undef) 0:=by
 have hr:=hC.rep s
 rw [hs] at hr
 change Flat P (.sl T) w (Gd B G0 ob) B (.own true e .no) xs [tm.getD s undef] (ob s) at hr
 unfold Flat at hr
 obtain ⟨v',cells,ob',e1,hrow,hel,hob⟩:=hr
 simp only [gg,and_true] at e1
 subst e1
 obtain ⟨hobn,hel0⟩:=aJ.pure P (o':=.no) rfl rfl hel
 subst hobn
 exact ⟨cells,hrow,hel0,by rw [hob]; simp⟩
theorem ae.adM (hC:ae P B G0 W0 n env tm w ob) {s:Nat} {e:TypeId} {T:Ty} {xs ys:List (den T)} (hs:look env s=.own true e T .no xs) (hlen:ys.length=xs.length) {w':World} {cells cells':List Value}
  (hrow:fM w B e (ax T) (tm.getD s undef) xs.length cells) (hob:ob s=bK (tm.getD s undef) 0) (hl:cells'.length=cells.length) (hel:∀ (w:World) (G:Nat→Nat→Prop),aJ (Flat P T w G B .no) ys cells' [])
  (hw:BR w w' (tm.getD s undef) (xs.length * ax T) cells'):ae P B G0 W0 n ((s,.own true e T .no ys)::env) tm w' ob:=by
 rcases hw with ⟨h1,hg,_⟩ | ⟨g,cur,e1,fz,cs,w1,hv,hg,hgr,rfl,hsz,htk⟩
 ·have hx0:xs.length=0:=by
   rcases hrow.2 with ⟨_,h⟩ | ⟨g,cap,cur,e',fz,hv,_⟩
   ·exact h
   ·rw [hv] at h1; simp [Value.ownBlock] at h1
  have hx:xs=[]:=lU.1 hx0
  have hy:ys=[]:=lU.1 (by omega)
  subst hx; subst hy
  refine ae.grow hC hg fun k=>?_
  rw [aL]
  split
  ·rename_i h; subst h; exact hs.symm
  ·rfl
 ·have hg0:(g,0)∈ob s:=by rw [hob]; exact jw hv
  have hlt:g < w.heap.size:=(hC.low s g (aC.2 ⟨_,hg0⟩)).2
  have hC1:ae P B G0 W0 n env tm w1 ob:=ae.grow hC hgr fun _=>rfl
  refine ae.wW hC1 hg0 cs ⟨fun q v hq hv=>?_,fun q h hq=>?_,fun T o x hx=>?_,fun q v hm _=>by simp [ew,hs] at hm⟩ ?_
  ·simp only [bj,hs] at hv
   simp only [bj]; rw [aL,if_pos rfl]; exact hv
  ·simp only [a8,hs] at hq
   simp only [a8]; rw [aL,if_pos rfl]
   cases q with
   | nil=>simp only [av] at hq; subst hq; exact ⟨_,rfl,rfl,hlen⟩
   | cons=>exact absurd hq (by simp)
  ·rw [hs] at hx; exact absurd hx (by simp)
  ·show Flat P (.sl T) _ (Gd B G0 ob) B (.own true e .no) ys [tm.getD s undef] (ob s)
   unfold Flat
   refine ⟨_,cells',[],rfl,⟨by rw [hl,hrow.1,hlen],?_⟩,hel _ _,by rw [hob]; simp⟩
   rcases hrow.2 with ⟨h,_⟩ | ⟨g',cap,cur',e',fz',hv',hBg,hg',hnc,hcm,hcs,htake,hbf,hfz⟩
   ·rw [h] at hv; simp [Value.ownBlock] at hv
   ·rw [hv'] at hv
    simp [Value.ownBlock] at hv
    subst hv
    rw [hg] at hg'
    cases hg'
    have hg1:w1.heap[g']?=some (.cells cur e1 fz):=by rw [hgr.block g' hlt]; exact hg
    refine .inr ⟨g',cap,cs,e1,fz,by rw [hlen]; exact hv',hBg,setRow_heap w1 g' cur _ e1 fz hg1,by rw [hlen]; exact hnc,hcm,by rw [hsz]; exact hcs,by rw [hlen]; exact htk,hbf,?_⟩
    rcases hfz with h | h
    ·exact .inl h
    ·right; rw [hsz]; exact h
theorem Sk {x:Operand} {y:Od} (hC:ae P B G0 W0 n env a.tmps w ob) (hx:aE x y=true) {s:Nat} (hy:pq env y=some s) {e:TypeId} {T:Ty} {o:aw} {xs:List (den T)} {wr:Bool} (hs:look env s=.own wr e T o xs):a.eval x=a.tmps.getD s undef:=by
 cases y with
 | t k=>
   simp only [pq] at hy
   rw [jg hx a]
   split at hy
   ·cases hy; rfl
   ·rename_i s' hk
    cases hy
    have hr:=hC.rep k
    rw [hk] at hr
    obtain ⟨_,h1,_⟩:=hr
    simp only [bj,hs,av] at h1
    exact h1.symm
   ·cases hy
 | c=>simp [pq] at hy
 | nil=>simp [pq] at hy
 | fn=>simp [pq] at hy
theorem aJ.eH {T:Ty} (hs:b7 T=true) {G:Nat→Nat→Prop} (B2:Nat) (w2:World) (G2:Nat→Nat→Prop) {xs:List (den T)} {vs:List Value} (h:aJ (Flat P T w G B .no) xs vs []):aJ (Flat P T w2 G2 B2 .no) xs vs []:=
 aJ.imp (fun x v b hb hx=>by
  have:b=[]:=by cases b with | nil=>rfl | cons q r=>exact absurd (hb q (by simp)) (by simp)
  subst this
  exact (Flat.eH P T hs hx).2 _ _ _ _) h
theorem aho {f:FuncId} {us:Array Operand} {ats:Array TypeId} {x:Operand} {y:Od} (hgood:Good P W0.t cl) (hC:ae P B G0 W0 n env a.tmps w ob) (hK:bA P B G0 W0 n a K r next) (hd:∀ k,o.dst=some k→bl W0 n k) (hdst:i.dst=o.dst)
  (ho:o.op=.call {callee:=.value (.func f),args:=us,argTypes:=ats}) (hi:i.op=.I5 f y) (hus:us.toList=[x]) (hx:aE x y=true) (h:step cl i env K=some r):o.wp P a w next Q:=by
 unfold step at h; rw [hi] at h; simp only [hdst,ay.eqn,aj] at h
 obtain ⟨s,hs,h⟩:=h
 split at h
 case h_2=>simp at h
 rename_i e T xs hl
 split at h
 case isFalse=>simp at h
 rename_i hb
 simp only [aq,dc,beq_eq_false_iff_ne] at hb
 simp only [aj] at h
 obtain ⟨res,hres,z,hz,ys',hys,h⟩:=h
 obtain ⟨ys,rfl,hlen,hcal,hw⟩:=hgood.wr f e T xs res hres hb.1
 simp only [po,av] at hz
 subst hz
 have:=cI hys
 cases this
 obtain ⟨cells,hrow,hel,hob⟩:=IN hC hl
 have hev:=Sk hC hx hs hl
 have hcall:=hw w B (Gd B G0 ob) _ cells hb.2 hrow hel
 have hrun:(execOp a.eval o).run P w=.ok (.enter f (us.map a.eval)) w:=by
  have:=lM hcal (us.map a.eval) w
  simp [execOp,ho,resolve,Deferred.ofValue,invoke,Act.eval,this]
 have e2:us.map a.eval=#[a.tmps.getD s undef]:=by apply Array.toList_inj.1; simp [hus,hev]
 rw [e2] at hrun
 refine jX hrun (Calls.mono hcall ?_)
 rintro en w' ⟨rfl,cells',hcl,hel',hrw⟩
 have hC':=ae.adM hC hl hlen hrow hob hcl (fun w2 G2=>aJ.eH hb.1 B w2 G2 hel') hrw
 exact ⟨_,rfl,bu (e:=.cC []) hC' hK hd (aM.refl w') ⟨by simp,#[],rfl,rfl,rfl⟩ h⟩
end
end Go.Fw
