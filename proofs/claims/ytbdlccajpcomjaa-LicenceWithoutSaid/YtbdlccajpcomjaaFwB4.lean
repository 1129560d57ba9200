/- Own work: the value machine, part 4. -/
import Derived.Test.YtbdlccajpcomjaaFwB3
import Derived.Laws.StructEq
import Derived.Test.YtbdlccajpcomjaaFwB1
import Derived.Laws.RangeString
import Derived.Laws.BytesArg
import Derived.Laws.IdiomStrings
set_option linter.unusedVariables false
set_option linter.unusedSimpArgs false
/- Soundness, part 19: writing. -/
namespace Go.Fw
open Go Go.RowKit
theorem getP_scal:∀ (p:Path) (T:Ty) {x:den T} {y:TV},scalarT T=true→getP T p x=some y→scalarT y.1=true
 | [],T,x,y,hs,h=>by simp only [getP,Option.some.injEq] at h; subst h; exact hs
 | .l::p,.pair A C,x,y,hs,h=>by simp only [scalarT,Bool.and_eq_true] at hs; simp only [getP] at h; exact getP_scal p A hs.1 h
 | .r::p,.pair A C,x,y,hs,h=>by simp only [scalarT,Bool.and_eq_true] at hs; simp only [getP] at h; exact getP_scal p C hs.2 h
 | .ix i::p,.arr n T,x,y,hs,h=>by
   simp only [scalarT] at hs; simp only [getP] at h
   split at h
   ·exact getP_scal p T hs h
   ·simp at h
 | .l::_,.int _,_,_,_,h | .l::_,.bool,_,_,_,h | .l::_,.str,_,_,_,h | .l::_,.unit,_,_,_,h | .l::_,.sl _,_,_,_,h | .l::_,.arr _ _,_,_,_,h | .l::_,.fn _ _,_,_,_,h=>by simp [getP] at h
 | .r::_,.int _,_,_,_,h | .r::_,.bool,_,_,_,h | .r::_,.str,_,_,_,h | .r::_,.unit,_,_,_,h | .r::_,.sl _,_,_,_,h | .r::_,.arr _ _,_,_,_,h | .r::_,.fn _ _,_,_,_,h=>by simp [getP] at h
 | .ix _::_,.int _,_,_,_,h | .ix _::_,.bool,_,_,_,h | .ix _::_,.str,_,_,_,h | .ix _::_,.unit,_,_,_,h | .ix _::_,.sl _,_,_,_,h | .ix _::_,.pair _ _,_,_,_,h | .ix _::_,.fn _ _,_,_,_,h=>by simp [getP] at h
theorem setP_getP:∀ (p:Path) (T:Ty) {x x1:den T} {T':Ty} {z:den T'},setP T p x ⟨T',z⟩=some x1→∃ y:den T',getP T p x=some ⟨T',y⟩
 | [],T,x,x1,T',z,h=>by
   simp only [setP] at h
   have:=cast?_some h; cases this
   exact ⟨x,by cases T<;>rfl⟩
 | .l::p,.pair A C,x,x1,T',z,h=>by
   simp only [setP,Option.bind_eq_some_iff] at h; obtain ⟨u,h,_⟩:=h
   simp only [getP]; exact setP_getP p A h
 | .r::p,.pair A C,x,x1,T',z,h=>by
   simp only [setP,Option.bind_eq_some_iff] at h; obtain ⟨u,h,_⟩:=h
   simp only [getP]; exact setP_getP p C h
 | .ix i::p,.arr n T,x,x1,T',z,h=>by
   simp only [setP] at h
   split at h
   ·rename_i hi
    simp only [Option.bind_eq_some_iff] at h; obtain ⟨u,h,_⟩:=h
    simp only [getP]; rw [if_pos hi]; exact setP_getP p T h
   ·simp at h
 | .l::_,.int _,_,_,_,_,h | .l::_,.bool,_,_,_,_,h | .l::_,.str,_,_,_,_,h | .l::_,.unit,_,_,_,_,h | .l::_,.sl _,_,_,_,_,h | .l::_,.arr _ _,_,_,_,_,h | .l::_,.fn _ _,_,_,_,_,h=>by simp [setP] at h
 | .r::_,.int _,_,_,_,_,h | .r::_,.bool,_,_,_,_,h | .r::_,.str,_,_,_,_,h | .r::_,.unit,_,_,_,_,h | .r::_,.sl _,_,_,_,_,h | .r::_,.arr _ _,_,_,_,_,h | .r::_,.fn _ _,_,_,_,_,h=>by simp [setP] at h
 | .ix _::_,.int _,_,_,_,_,h | .ix _::_,.bool,_,_,_,_,h | .ix _::_,.str,_,_,_,_,h | .ix _::_,.unit,_,_,_,_,h | .ix _::_,.sl _,_,_,_,_,h | .ix _::_,.pair _ _,_,_,_,_,h | .ix _::_,.fn _ _,_,_,_,_,h=>by simp [setP] at h
theorem off_le {P:Program} {w:World} {G:Nat→Nat→Prop} {B:Nat} {o:Ann} {T:Ty} {x:den T} {vs:List Value} {ob:OB} {p:Path} {T':Ty} {y:den T'} (hF:Flat P T w G B o x vs ob) (h:getP T p x=some ⟨T',y⟩):offT T p+cellsN T'≤cellsN T:=by
 obtain ⟨v1,v2,v3,b1,b2,b3,e1,_,e3,e4,_⟩:=Flat.lens P p T hF h
 have h1:=Flat.len P T hF
 have h2:=Flat.len P T' e4
 rw [e1] at h1; simp only [List.length_append] at h1; omega
theorem setP_keep {P:Program} {w:World} {G:Nat→Nat→Prop} {B:Nat}:∀ (q p:Path) (T0:Ty) {o:Ann} {x x1:den T0} {vs:List Value} {ob:OB} {T T':Ty} {z:den T} {xs:List (den T')},Flat P T0 w G B o x vs ob→scalarT T=true→
  setP T0 p x ⟨T,z⟩=some x1→hasIx q=false→getP T0 q x=some ⟨.sl T',xs⟩→getP T0 q x1=some ⟨.sl T',xs⟩∧(offT T0 q < offT T0 p∨offT T0 p+cellsN T≤offT T0 q)
 | [],p,T0,o,x,x1,vs,ob,T,T',z,xs,hF,hs,hset,_,hg=>by
   exfalso
   have:T0=.sl T':=by
    simp only [getP,Option.some.injEq] at hg
    exact (Sigma.mk.inj hg).1
   subst this
   obtain ⟨y,hy⟩:=setP_getP p _ hset
   cases p with
   | nil=>
     simp only [getP,Option.some.injEq] at hy
     have:=(Sigma.mk.inj hy).1
     subst this; simp [scalarT] at hs
   | cons st p=>cases st<;>simp [getP] at hy
 | .l::q,p,.pair A C,o,x,x1,vs,ob,T,T',z,xs,hF,hs,hset,hq,hg=>by
   have hF':=hF
   unfold Flat at hF; obtain ⟨u1,u2,c1,c2,rfl,rfl,h1,h2⟩:=hF
   simp only [getP] at hg
   simp only [hasIx] at hq
   obtain ⟨y,hy⟩:=setP_getP p _ hset
   match p,hset,hy with
   | [],hset,hy=>
     exfalso
     simp only [getP,Option.some.injEq] at hy
     have:=(Sigma.mk.inj hy).1
     subst this
     simp only [scalarT,Bool.and_eq_true] at hs
     have:=getP_scal q A hs.1 hg
     simp [scalarT] at this
   | .l::p,hset,hy=>
     simp only [setP,Option.bind_eq_some_iff,Option.some.injEq] at hset
     obtain ⟨u,hu,rfl⟩:=hset
     simp only [getP,offT]
     exact setP_keep q p A h1 hs hu hq hg
   | .r::p,hset,hy=>
     simp only [setP,Option.bind_eq_some_iff,Option.some.injEq] at hset
     obtain ⟨u,hu,rfl⟩:=hset
     simp only [getP,offT]
     refine ⟨hg,.inl ?_⟩
     have:=off_le h1 hg
     simp only [cellsN] at this
     omega
   | .ix i::p,hset,hy=>simp [setP] at hset
 | .r::q,p,.pair A C,o,x,x1,vs,ob,T,T',z,xs,hF,hs,hset,hq,hg=>by
   have hF':=hF
   unfold Flat at hF; obtain ⟨u1,u2,c1,c2,rfl,rfl,h1,h2⟩:=hF
   simp only [getP] at hg
   simp only [hasIx] at hq
   obtain ⟨y,hy⟩:=setP_getP p _ hset
   match p,hset,hy with
   | [],hset,hy=>
     exfalso
     simp only [getP,Option.some.injEq] at hy
     have:=(Sigma.mk.inj hy).1
     subst this
     simp only [scalarT,Bool.and_eq_true] at hs
     have:=getP_scal q C hs.2 hg
     simp [scalarT] at this
   | .r::p,hset,hy=>
     simp only [setP,Option.bind_eq_some_iff,Option.some.injEq] at hset
     obtain ⟨u,hu,rfl⟩:=hset
     simp only [getP,offT]
     have:=setP_keep q p C h2 hs hu hq hg
     exact ⟨this.1,by omega⟩
   | .l::p,hset,hy=>
     simp only [setP,Option.bind_eq_some_iff,Option.some.injEq] at hset
     obtain ⟨u,hu,rfl⟩:=hset
     simp only [getP,offT] at hy ⊢
     refine ⟨hg,.inr ?_⟩
     have:=off_le h1 hy
     omega
   | .ix i::p,hset,hy=>simp [setP] at hset
 | .ix i::q,p,T0,_,_,_,_,_,_,_,_,_,_,_,_,hq,_=>by simp [hasIx] at hq
 | .l::_,_,.int _,_,_,_,_,_,_,_,_,_,_,_,_,_,h | .l::_,_,.bool,_,_,_,_,_,_,_,_,_,_,_,_,_,h | .l::_,_,.str,_,_,_,_,_,_,_,_,_,_,_,_,_,h | .l::_,_,.unit,_,_,_,_,_,_,_,_,_,_,_,_,_,h | .l::_,_,.sl _,_,_,_,_,_,_,_,_,_,_,_,_,_,h | .l::_,_,.arr _ _,_,_,_,_,_,_,_,_,_,_,_,_,_,h | .l::_,_,.fn _ _,_,_,_,_,_,_,_,_,_,_,_,_,_,h=>by simp [getP] at h
 | .r::_,_,.int _,_,_,_,_,_,_,_,_,_,_,_,_,_,h | .r::_,_,.bool,_,_,_,_,_,_,_,_,_,_,_,_,_,h | .r::_,_,.str,_,_,_,_,_,_,_,_,_,_,_,_,_,h | .r::_,_,.unit,_,_,_,_,_,_,_,_,_,_,_,_,_,h | .r::_,_,.sl _,_,_,_,_,_,_,_,_,_,_,_,_,_,h | .r::_,_,.arr _ _,_,_,_,_,_,_,_,_,_,_,_,_,_,h | .r::_,_,.fn _ _,_,_,_,_,_,_,_,_,_,_,_,_,_,h=>by simp [getP] at h
theorem annAt_pure:∀ (q:Path) (o:Ann),o.pure=true→(annAt o q).pure=true
 | [],_,h=>h
 | .l::q,o,h=>annAt_pure q o.l (Ann.pure_l h)
 | .r::q,o,h=>annAt_pure q o.r (Ann.pure_r h)
 | .ix _::_,_,_=>rfl
theorem setP_keepP {P:Program} {w:World} {G:Nat→Nat→Prop} {B:Nat}:∀ (q p:Path) (T0:Ty) {o:Ann} {x x1:den T0} {vs:List Value} {ob:OB} {T T':Ty} {z:den T} {xs:List (den T')} {wr:Bool} {e:TypeId} {o':Ann},Flat P T0 w G B o x vs ob→(annAt o p).pure=true→
  setP T0 p x ⟨T,z⟩=some x1→annAt o q=.own wr e o'→getP T0 q x=some ⟨.sl T',xs⟩→getP T0 q x1=some ⟨.sl T',xs⟩∧(offT T0 q < offT T0 p∨offT T0 p+cellsN T≤offT T0 q)
 | [],p,T0,o,x,x1,vs,ob,T,T',z,xs,_,_,_,hF,hs,hset,hq,hg=>by
   exfalso
   have:T0=.sl T':=by
    simp only [getP,Option.some.injEq] at hg
    exact (Sigma.mk.inj hg).1
   subst this
   obtain ⟨y,hy⟩:=setP_getP p _ hset
   cases p with
   | nil=>
     simp only [annAt] at hs hq
     rw [hq] at hs; simp [Ann.pure] at hs
   | cons st p=>cases st<;>simp [getP] at hy
 | .l::q,p,.pair A C,o,x,x1,vs,ob,T,T',z,xs,_,_,_,hF,hs,hset,hq,hg=>by
   have hF':=hF
   unfold Flat at hF; obtain ⟨u1,u2,c1,c2,rfl,rfl,h1,h2⟩:=hF
   simp only [getP] at hg
   obtain ⟨y,hy⟩:=setP_getP p _ hset
   match p,hset,hy with
   | [],hset,hy=>
     exfalso
     have:=annAt_pure (.l::q) o hs
     rw [hq] at this; simp [Ann.pure] at this
   | .l::p,hset,hy=>
     simp only [setP,Option.bind_eq_some_iff,Option.some.injEq] at hset
     obtain ⟨u,hu,rfl⟩:=hset
     simp only [getP,offT]
     exact setP_keepP q p A h1 hs hu hq hg
   | .r::p,hset,hy=>
     simp only [setP,Option.bind_eq_some_iff,Option.some.injEq] at hset
     obtain ⟨u,hu,rfl⟩:=hset
     simp only [getP,offT]
     refine ⟨hg,.inl ?_⟩
     have:=off_le h1 hg
     simp only [cellsN] at this
     omega
   | .ix i::p,hset,hy=>simp [setP] at hset
 | .r::q,p,.pair A C,o,x,x1,vs,ob,T,T',z,xs,_,_,_,hF,hs,hset,hq,hg=>by
   have hF':=hF
   unfold Flat at hF; obtain ⟨u1,u2,c1,c2,rfl,rfl,h1,h2⟩:=hF
   simp only [getP] at hg
   obtain ⟨y,hy⟩:=setP_getP p _ hset
   match p,hset,hy with
   | [],hset,hy=>
     exfalso
     have:=annAt_pure (.r::q) o hs
     rw [hq] at this; simp [Ann.pure] at this
   | .r::p,hset,hy=>
     simp only [setP,Option.bind_eq_some_iff,Option.some.injEq] at hset
     obtain ⟨u,hu,rfl⟩:=hset
     simp only [getP,offT]
     have:=setP_keepP q p C h2 hs hu hq hg
     exact ⟨this.1,by omega⟩
   | .l::p,hset,hy=>
     simp only [setP,Option.bind_eq_some_iff,Option.some.injEq] at hset
     obtain ⟨u,hu,rfl⟩:=hset
     simp only [getP,offT] at hy ⊢
     refine ⟨hg,.inr ?_⟩
     have:=off_le h1 hy
     omega
   | .ix i::p,hset,hy=>simp [setP] at hset
 | .ix i::q,p,T0,_,_,_,_,_,_,_,_,_,_,_,_,_,_,_,hq,_=>by simp [annAt] at hq
 | .l::_,_,.int _,_,_,_,_,_,_,_,_,_,_,_,_,_,_,_,_,h | .l::_,_,.bool,_,_,_,_,_,_,_,_,_,_,_,_,_,_,_,_,h | .l::_,_,.str,_,_,_,_,_,_,_,_,_,_,_,_,_,_,_,_,h | .l::_,_,.unit,_,_,_,_,_,_,_,_,_,_,_,_,_,_,_,_,h | .l::_,_,.sl _,_,_,_,_,_,_,_,_,_,_,_,_,_,_,_,_,h | .l::_,_,.arr _ _,_,_,_,_,_,_,_,_,_,_,_,_,_,_,_,_,h | .l::_,_,.fn _ _,_,_,_,_,_,_,_,_,_,_,_,_,_,_,_,_,h=>by simp [getP] at h
 | .r::_,_,.int _,_,_,_,_,_,_,_,_,_,_,_,_,_,_,_,_,h | .r::_,_,.bool,_,_,_,_,_,_,_,_,_,_,_,_,_,_,_,_,h | .r::_,_,.str,_,_,_,_,_,_,_,_,_,_,_,_,_,_,_,_,h | .r::_,_,.unit,_,_,_,_,_,_,_,_,_,_,_,_,_,_,_,_,h | .r::_,_,.sl _,_,_,_,_,_,_,_,_,_,_,_,_,_,_,_,_,h | .r::_,_,.arr _ _,_,_,_,_,_,_,_,_,_,_,_,_,_,_,_,_,h | .r::_,_,.fn _ _,_,_,_,_,_,_,_,_,_,_,_,_,_,_,_,_,h=>by simp [getP] at h
theorem annAt_ix:∀ (p:Path) (o:Ann),hasIx p=true→(annAt o p).pure=true
 | [],_,h=>by simp [hasIx] at h
 | .l::p,o,h=>by simp only [hasIx] at h; exact annAt_ix p o.l h
 | .r::p,o,h=>by simp only [hasIx] at h; exact annAt_ix p o.r h
 | .ix _::_,_,_=>rfl
theorem Flat.setAnn_self {P:Program} {w:World} {G:Nat→Nat→Prop} {B:Nat}:∀ (p:Path) (T:Ty) {o:Ann} {x y:den T} {vs:List Value} {ob:OB} {z:TV},getP T p y=some z→Flat P T w G B (setAnn o p (annAt o p)) x vs ob→Flat P T w G B o x vs ob
 | [],_,_,_,_,_,_,_,_,h=>h
 | .ix _::_,_,_,_,_,_,_,_,_,h=>h
 | .l::p,.pair A C,o,x,y,vs,ob,z,hg,h=>by
   simp only [getP] at hg
   unfold Flat at h ⊢
   obtain ⟨v1,v2,b1,b2,e1,e2,h1,h2⟩:=h
   exact ⟨v1,v2,b1,b2,e1,e2,Flat.setAnn_self p A hg h1,h2⟩
 | .r::p,.pair A C,o,x,y,vs,ob,z,hg,h=>by
   simp only [getP] at hg
   unfold Flat at h ⊢
   obtain ⟨v1,v2,b1,b2,e1,e2,h1,h2⟩:=h
   exact ⟨v1,v2,b1,b2,e1,e2,h1,Flat.setAnn_self p C hg h2⟩
 | .l::_,.int _,_,_,_,_,_,_,h,_ | .l::_,.bool,_,_,_,_,_,_,h,_ | .l::_,.str,_,_,_,_,_,_,h,_ | .l::_,.unit,_,_,_,_,_,_,h,_ | .l::_,.sl _,_,_,_,_,_,_,h,_ | .l::_,.arr _ _,_,_,_,_,_,_,h,_ | .l::_,.fn _ _,_,_,_,_,_,_,h,_=>by simp [getP] at h
 | .r::_,.int _,_,_,_,_,_,_,h,_ | .r::_,.bool,_,_,_,_,_,_,h,_ | .r::_,.str,_,_,_,_,_,_,h,_ | .r::_,.unit,_,_,_,_,_,_,h,_ | .r::_,.sl _,_,_,_,_,_,_,h,_ | .r::_,.arr _ _,_,_,_,_,_,_,h,_ | .r::_,.fn _ _,_,_,_,_,_,_,h,_=>by simp [getP] at h
section
variable {P:Program} {B:Nat} {G0:Nat→Nat→Prop} {W0:Base} {n:Nat} {env:Env} {tm:Array Value} {a:Act} {w:World} {ob:Nat→OB} {cl:Cal}
variable {R:Type} {K:Kont R} {r:R} {next:Act→World→Prop} {Q:Exit→Act→World→Prop} {o:Oper} {i:AI}
theorem Below.setRow {b:Nat} (hb:B≤b) (cs:Array Value):Below B w (w.setRow b cs):=
 ⟨rfl,rfl,rfl,by simp,fun k hk=>setRow_other w b k cs (by omega)⟩
theorem Conc.touch (hC:Conc P B G0 W0 n env tm w ob) {s b:Nat} (hb:(b,0)∈ob s) (cs:Array Value) {e:E} (hhome:HomeEq w tm env (w.setRow b cs) tm ((s,e)::env) s)
  (hnew:ERep P (w.setRow b cs) (Gd B G0 ob) B tm ((s,e)::env) e (tm.getD s undef) (ob s)):Conc P B G0 W0 n ((s,e)::env) tm (w.setRow b cs) ob:=by
 have hlow:=hC.low s b (mem_blocks.2 ⟨_,hb⟩)
 refine Conc.step hC ⟨fun k b hb=>.inl ⟨k,hb⟩,fun b' _ hn=>setRow_other w b b' cs (by rintro rfl; exact hn s (mem_blocks.2 ⟨_,hb⟩))⟩ (Below.setRow hlow.1 cs) (fun b' i _ h=>⟨h,?_⟩) (fun j=>?_) hC.dist hC.nodup (fun k b' hb'=>by rw [setRow_size]; exact hC.low k b' hb') hC.size (fun _ _=>rfl)
 ·refine cell_setRow_other w b cs _ ?_
  rintro rfl
  rcases h with ⟨h,_⟩ | ⟨_,_,h⟩
  ·exact absurd h (by have:=hlow.1; simp at this ⊢; omega)
  ·exact absurd (h s 0 hb) (by simp)
 ·by_cases hj:j=s
  ·subst hj; right; rw [look_cons,if_pos rfl]; exact hnew
  ·left
   rw [look_cons,if_neg (Ne.symm hj)]
   refine ⟨rfl,rfl,rfl,fun g hg=>setRow_other w b g cs ?_,fun t ht=>?_⟩
   ·rintro rfl; exact hj (hC.dist j s _ hg (mem_blocks.2 ⟨_,hb⟩))
   ·by_cases hts:t=s
    ·subst hts; exact hhome
    ·refine HomeEq.same (P:=P) (by rw [look_cons,if_neg (Ne.symm hts)]) rfl (hC.rep t) (fun g hg=>setRow_other w b g cs ?_)
     rintro rfl; exact hts (hC.dist t s _ hg (mem_blocks.2 ⟨_,hb⟩))
theorem take_drop_mid {v1 v2 v3 u:List Value} (h:u.length=v2.length):(v1++v2++v3).take v1.length++u++(v1++v2++v3).drop (v1.length+u.length)=v1++u++v3:=by
 rw [h]; simp [List.drop_append]
theorem store_scal (hC:Conc P B G0 W0 n env tm w ob) {s:Nat} {T0 T:Ty} {oa:Ann} {x0 x1:den T0} {p:Path} {z:den T} {vs:List Value} (hs:look env s=.loc T0 oa x0) (hsc:scalarT T=true) (hset:setP T0 p x0 ⟨T,z⟩=some x1)
  (hz:Flat P T w (fun _ _=>True) B .no z vs []):∃ b cur e,tm.getD s undef=.pointer (some ⟨b,0,none⟩)∧w.heap[b]?=some (.cells cur e (0,0))∧offT T0 p+vs.length≤cur.size∧
   Conc P B G0 W0 n ((s,.loc T0 oa x1)::env) tm (w.setRow b (cur.toList.take (offT T0 p)++vs++cur.toList.drop (offT T0 p+vs.length)).toArray) ob:=by
 obtain ⟨y,hy⟩:=setP_getP p T0 hset
 obtain ⟨b,cur,e,v1,v2,v3,b1,b2,b3,k1,k2,k3,k4,k5,k6,k7,k8⟩:=loc_part (a:=⟨tm,[]⟩) hC hs hy
 have hlv:vs.length=v2.length:=by rw [Flat.len P T hz,Flat.len P T k7]
 obtain ⟨hb2,_⟩:=Flat.scal P T hsc k7
 subst hb2
 have hz':Flat P T w (Gd B G0 ob) B (annAt oa p) z vs []:=(Flat.scal P T hsc hz).2 _ _ _ _
 have hnew:=k8 _ z vs [] x1 (fun h=>annAt_ix p oa h) hz' hset
 have hnew:=Flat.setAnn_self p T0 hy hnew
 have hcs:(cur.toList.take (offT T0 p)++vs++cur.toList.drop (offT T0 p+vs.length))=v1++vs++v3:=by
  rw [k4,←k5]; exact take_drop_mid hlv
 have hb0:(b,0)∈ob s:=by rw [k6]; simp
 refine ⟨b,cur,e,k1,k2,?_,?_⟩
 ·have:cur.size=cur.toList.length:=by simp
  rw [this,k4,←k5,hlv]; simp
 ·rw [hcs]
  have hr:=hC.rep s
  rw [hs] at hr
  obtain ⟨b',cur',e',ob',l1,l2,l3,l4,l5⟩:=hr
  rw [show tm.getD s undef=_ from k1] at l1; cases l1
  rw [k2] at l3; cases l3
  refine Conc.touch hC hb0 _ ⟨fun q v hq hv=>?_,fun q h hq=>?_,fun T o x hx=>?_⟩ ?_
  ·simp only [headAt,hs,k1] at hv
   simp only [headAt]; rw [look_cons,if_pos rfl]; simp only [k1]
   simp only [heldAt,hs] at hq
   split at hq
   ·rename_i wr ed o' T' xs ha hg
    have hk:=setP_keep q p T0 l4 hsc hset (annAt_own_noIx q oa ha) hg
    have hle:=off_le l4 hg
    rw [cell_setRow_same w b _ cur _ e (0,0) k2,←hv,cell_of_row w b _ cur e (0,0) k2]
    have hcur:∀ j,cur[j]?=(v1++v2++v3)[j]?:=fun j=>by rw [←Array.getElem?_toList,k4]
    rw [hcur]
    simp only [List.getElem?_toArray]
    rcases hk.2 with hlt | hge
    ·rw [←k5] at hlt
     rw [List.append_assoc,List.getElem?_append_left hlt,List.append_assoc,List.getElem?_append_left hlt]
    ·rw [←k5] at hge
     have hl2:=Flat.len P T hz
     rw [List.append_assoc,List.getElem?_append_right (by omega),List.getElem?_append_right (by omega),List.append_assoc,List.getElem?_append_right (by omega),List.getElem?_append_right (by omega),hlv]
   ·simp at hq
  ·simp only [heldAt,hs] at hq
   simp only [heldAt]; rw [look_cons,if_pos rfl]
   simp only
   split at hq
   ·rename_i wr ed o' T' xs ha hg
    simp only [Option.some.injEq] at hq; subst hq
    have hk:=setP_keep q p T0 l4 hsc hset (annAt_own_noIx q oa ha) hg
    exact ⟨_,by rw [ha,hk.1],rfl,rfl⟩
   ·simp at hq
  ·rw [hs] at hx; cases hx
   exact ⟨_,_,by rw [look_cons,if_pos rfl],rfl⟩
  ·refine ⟨b,_,e,b1++[]++b3,k1,k3,setRow_heap w b cur _ e (0,0) k2,?_,k6⟩
   have hnd:=hC.nodup s
   rw [k6] at hnd
   simp only [blocks_cons,List.nodup_cons] at hnd
   refine Flat.mono P T0 (fun b' i hb' h=>⟨h,?_⟩) ⟨by simp,fun k hk=>setRow_other w b k _ (by omega)⟩ (fun g hg=>setRow_other w b g _ ?_) hnew
   ·refine cell_setRow_other w b _ _ ?_
    rintro rfl
    rcases h with ⟨h,_⟩ | ⟨_,_,h⟩
    ·exact absurd h (by simp; omega)
    ·exact absurd (h s 0 hb0) (by simp)
   ·rintro rfl; exact hnd.1 hg
theorem store_pure (hC:Conc P B G0 W0 n env tm w ob) {s:Nat} {T0 T:Ty} {oa:Ann} {x0 x1:den T0} {p:Path} {z:den T} {vs:List Value} (hs:look env s=.loc T0 oa x0) (hsc:(annAt oa p).pure=true) (hset:setP T0 p x0 ⟨T,z⟩=some x1)
  (hz:Flat P T w (Gd B G0 ob) B .no z vs []):∃ b cur e,tm.getD s undef=.pointer (some ⟨b,0,none⟩)∧w.heap[b]?=some (.cells cur e (0,0))∧offT T0 p+vs.length≤cur.size∧
   Conc P B G0 W0 n ((s,.loc T0 oa x1)::env) tm (w.setRow b (cur.toList.take (offT T0 p)++vs++cur.toList.drop (offT T0 p+vs.length)).toArray) ob:=by
 obtain ⟨y,hy⟩:=setP_getP p T0 hset
 obtain ⟨b,cur,e,v1,v2,v3,b1,b2,b3,k1,k2,k3,k4,k5,k6,k7,k8⟩:=loc_part (a:=⟨tm,[]⟩) hC hs hy
 have hlv:vs.length=v2.length:=by rw [Flat.len P T hz,Flat.len P T k7]
 have hb2:=(Flat.pure P T hsc (o':=.no) rfl k7).1
 subst hb2
 have hz':Flat P T w (Gd B G0 ob) B (annAt oa p) z vs []:=(Flat.pure P T (o:=.no) rfl hsc hz).2
 have hnew:=k8 _ z vs [] x1 (fun h=>annAt_ix p oa h) hz' hset
 have hnew:=Flat.setAnn_self p T0 hy hnew
 have hcs:(cur.toList.take (offT T0 p)++vs++cur.toList.drop (offT T0 p+vs.length))=v1++vs++v3:=by
  rw [k4,←k5]; exact take_drop_mid hlv
 have hb0:(b,0)∈ob s:=by rw [k6]; simp
 refine ⟨b,cur,e,k1,k2,?_,?_⟩
 ·have:cur.size=cur.toList.length:=by simp
  rw [this,k4,←k5,hlv]; simp
 ·rw [hcs]
  have hr:=hC.rep s
  rw [hs] at hr
  obtain ⟨b',cur',e',ob',l1,l2,l3,l4,l5⟩:=hr
  rw [show tm.getD s undef=_ from k1] at l1; cases l1
  rw [k2] at l3; cases l3
  refine Conc.touch hC hb0 _ ⟨fun q v hq hv=>?_,fun q h hq=>?_,fun T o x hx=>?_⟩ ?_
  ·simp only [headAt,hs,k1] at hv
   simp only [headAt]; rw [look_cons,if_pos rfl]; simp only [k1]
   simp only [heldAt,hs] at hq
   split at hq
   ·rename_i wr ed o' T' xs ha hg
    have hk:=setP_keepP q p T0 l4 hsc hset ha hg
    have hle:=off_le l4 hg
    rw [cell_setRow_same w b _ cur _ e (0,0) k2,←hv,cell_of_row w b _ cur e (0,0) k2]
    have hcur:∀ j,cur[j]?=(v1++v2++v3)[j]?:=fun j=>by rw [←Array.getElem?_toList,k4]
    rw [hcur]
    simp only [List.getElem?_toArray]
    rcases hk.2 with hlt | hge
    ·rw [←k5] at hlt
     rw [List.append_assoc,List.getElem?_append_left hlt,List.append_assoc,List.getElem?_append_left hlt]
    ·rw [←k5] at hge
     have hl2:=Flat.len P T hz
     rw [List.append_assoc,List.getElem?_append_right (by omega),List.getElem?_append_right (by omega),List.append_assoc,List.getElem?_append_right (by omega),List.getElem?_append_right (by omega),hlv]
   ·simp at hq
  ·simp only [heldAt,hs] at hq
   simp only [heldAt]; rw [look_cons,if_pos rfl]
   simp only
   split at hq
   ·rename_i wr ed o' T' xs ha hg
    simp only [Option.some.injEq] at hq; subst hq
    have hk:=setP_keepP q p T0 l4 hsc hset ha hg
    exact ⟨_,by rw [ha,hk.1],rfl,rfl⟩
   ·simp at hq
  ·rw [hs] at hx; cases hx
   exact ⟨_,_,by rw [look_cons,if_pos rfl],rfl⟩
  ·refine ⟨b,_,e,b1++[]++b3,k1,k3,setRow_heap w b cur _ e (0,0) k2,?_,k6⟩
   have hnd:=hC.nodup s
   rw [k6] at hnd
   simp only [blocks_cons,List.nodup_cons] at hnd
   refine Flat.mono P T0 (fun b' i hb' h=>⟨h,?_⟩) ⟨by simp,fun k hk=>setRow_other w b k _ (by omega)⟩ (fun g hg=>setRow_other w b g _ ?_) hnew
   ·refine cell_setRow_other w b _ _ ?_
    rintro rfl
    rcases h with ⟨h,_⟩ | ⟨_,_,h⟩
    ·exact absurd h (by simp; omega)
    ·exact absurd (h s 0 hb0) (by simp)
   ·rintro rfl; exact hnd.1 hg
def obNew (ob:Nat→OB) (s:Nat) (k:Option Nat) (bs:OB) (j:Nat):OB:=if j=s then bs else if k=some j then [] else ob j
theorem obNew_s (s:Nat) (k:Option Nat) (bs:OB):obNew ob s k bs s=bs:=by simp [obNew]
theorem obNew_k {s:Nat} {k:Option Nat} {j:Nat} (bs:OB) (h:j≠s) (hk:k=some j):obNew ob s k bs j=[]:=by simp [obNew,h,hk]
theorem obNew_o {s:Nat} {k:Option Nat} {j:Nat} (bs:OB) (h:j≠s) (hk:k≠some j):obNew ob s k bs j=ob j:=by simp [obNew,h,hk]
theorem store_into (hC:Conc P B G0 W0 n env tm w ob) {s:Nat} {T0 T:Ty} {oa o2:Ann} {x0 x1:den T0} {p:Path} {z:den T} {vs:List Value} {k:Option Nat} {c:OB} {env1:Env} (hs:look env s=.loc T0 oa x0) (hset:setP T0 p x0 ⟨T,z⟩=some x1)
  (hks:∀ j,k=some j→j≠s) (hc:c=match k with | some j=>ob j | none=> []) (hix:hasIx p=true→o2.pure=true) (hz:Flat P T w (Gd B G0 ob) B o2 z vs c)
  (hl:∀ j,j≠s→(k=some j∧look env1 j=.ref s p∧vs=[tm.getD j undef]∧(heldAt ((s,.loc T0 (setAnn oa p o2) x1)::env1) s p).isSome=true)∨
   (k≠some j∧((look env1 j=.dead∧∃ t,leads t (look env j)=true)∨(look env1 j=look env j∧shows s (look env j)=false∧∀ t,k=some t→leads t (look env j)=false)))):
  ∃ b cur e,tm.getD s undef=.pointer (some ⟨b,0,none⟩)∧w.heap[b]?=some (.cells cur e (0,0))∧offT T0 p+vs.length≤cur.size∧
    ∃ ob',Conc P B G0 W0 n ((s,.loc T0 (setAnn oa p o2) x1)::env1) tm (w.setRow b (cur.toList.take (offT T0 p)++vs++cur.toList.drop (offT T0 p+vs.length)).toArray) ob':=by
 obtain ⟨y,hy⟩:=setP_getP p T0 hset
 obtain ⟨b,cur,e,v1,v2,v3,b1,b2,b3,k1,k2,k3,k4,k5,k6,k7,k8⟩:=loc_part (a:=⟨tm,[]⟩) hC hs hy
 have hlv:vs.length=v2.length:=by rw [Flat.len P T hz,Flat.len P T k7]
 have hnew:=k8 _ z vs c x1 hix hz hset
 have hcs:(cur.toList.take (offT T0 p)++vs++cur.toList.drop (offT T0 p+vs.length))=v1++vs++v3:=by
  rw [k4,←k5]; exact take_drop_mid hlv
 have hb0:(b,0)∈ob s:=by rw [k6]; simp
 refine ⟨b,cur,e,k1,k2,?_,?_⟩
 ·have:cur.size=cur.toList.length:=by simp
  rw [this,k4,←k5,hlv]; simp
 rw [hcs]
 -- the records
 have hck:∀ q,q∈c→∃ t,k=some t∧t≠s∧q∈ob t:=by
  intro q hq
  cases k with
  | none=>rw [hc] at hq; exact absurd hq (by simp)
  | some t=>rw [hc] at hq; exact ⟨t,rfl,hks t rfl,hq⟩
 have hcd:∀ x,x∈blocks c→∃ t,k=some t∧t≠s∧x∈blocks (ob t):=by
  intro x hx
  obtain ⟨l,hx⟩:=mem_blocks.1 hx
  obtain ⟨t,h1,h2,h3⟩:=hck _ hx
  exact ⟨t,h1,h2,mem_blocks.2 ⟨l,h3⟩⟩
 have hnd:=hC.nodup s
 rw [k6] at hnd
 simp only [blocks_cons,blocks_append,List.nodup_cons] at hnd
 have hcn:(blocks c).Nodup:=by
  cases k with
  | none=>rw [hc]; simp
  | some t=>rw [hc]; exact hC.nodup t
 have hcs':∀ x,x∈blocks c→x∉blocks (ob s):=by
  intro x hx hx'
  obtain ⟨t,_,h2,h3⟩:=hcd x hx
  exact h2 (hC.dist t s x h3 hx')
 have hbn:b∉blocks (b1++c++b3):=by
  intro h
  simp only [blocks_append,List.mem_append] at h hnd
  rcases h with (h | h) | h
  ·exact hnd.1 (.inl (.inl h))
  ·exact hcs' b h (mem_blocks.2 ⟨0,hb0⟩)
  ·exact hnd.1 (.inr h)
 have from_:∀ j q,q∈obNew ob s k ((b,0)::(b1++c++b3)) j→(j=s∧(q∈ob s∨q∈c))∨(j≠s∧k≠some j∧q∈ob j):=by
  intro j q hq
  by_cases h:j=s
  ·subst h
   rw [obNew_s] at hq
   refine .inl ⟨rfl,?_⟩
   simp only [List.mem_cons,List.mem_append] at hq
   rw [k6]
   simp only [List.mem_cons,List.mem_append]
   rcases hq with h | (h | h) | h
   ·exact .inl (.inl h)
   ·exact .inl (.inr (.inl (.inl h)))
   ·exact .inr h
   ·exact .inl (.inr (.inr h))
  ·by_cases h2:k=some j
   ·rw [obNew_k _ h h2] at hq; exact absurd hq (by simp)
   ·rw [obNew_o _ h h2] at hq; exact .inr ⟨h,h2,hq⟩
 have src:∀ j q,q∈obNew ob s k ((b,0)::(b1++c++b3)) j→∃ j',q∈ob j'∧((j=s∧(j'=s∨k=some j'))∨(j≠s∧k≠some j∧j'=j)):=by
  intro j q hq
  rcases from_ j q hq with ⟨h1,h2 | h2⟩ | ⟨h1,h2,h3⟩
  ·exact ⟨s,h2,.inl ⟨h1,.inl rfl⟩⟩
  ·obtain ⟨t,h3,_,h4⟩:=hck q h2
   exact ⟨t,h4,.inl ⟨h1,.inr h3⟩⟩
  ·exact ⟨j,h3,.inr ⟨h1,h2,rfl⟩⟩
 have hGd:∀ b' i,Gd B G0 ob b' i→Gd B G0 (obNew ob s k ((b,0)::(b1++c++b3))) b' i:=fun b' i h=>
  Gd_sub (fun j x lim hj=>by obtain ⟨j',h1,_⟩:=src j _ hj; exact ⟨j',lim,h1,Nat.le_refl _⟩) h
 have hcell:∀ b' i,Gd B G0 ob b' i→(w.setRow b (v1++vs++v3).toArray).cell? ⟨b',i,none⟩=w.cell? ⟨b',i,none⟩:=by
  intro b' i h
  refine cell_setRow_other w b _ _ ?_
  rintro rfl
  rcases h with ⟨h,_⟩ | ⟨_,_,h⟩
  ·exact absurd h (by simp; omega)
  ·exact absurd (h s 0 hb0) (by simp)
 refine ⟨obNew ob s k ((b,0)::(b1++c++b3)),Conc.step hC ⟨fun j x hx=>(by obtain ⟨l,hx⟩:=mem_blocks.1 hx; obtain ⟨j',h1,_⟩:=src j _ hx; exact .inl ⟨j',mem_blocks.2 ⟨_,h1⟩⟩),fun b' _ hn=>setRow_other w b b' _ (by rintro rfl; exact hn s (mem_blocks.2 ⟨_,hb0⟩))⟩ (Below.setRow k3 _) (fun b' i _ h=>⟨hGd b' i h,hcell b' i h⟩) (fun j=>?_) ?_ ?_ ?_ hC.size (fun _ _=>rfl)⟩
 ·by_cases hj:j=s
  ·subst hj
   right
   rw [look_cons,if_pos rfl,obNew_s]
   refine ⟨b,_,e,b1++c++b3,k1,k3,setRow_heap w b cur _ e (0,0) k2,?_,rfl⟩
   refine Flat.mono P T0 (fun b' i _ h=>⟨hGd b' i h,hcell b' i h⟩) ⟨by simp,fun t ht=>setRow_other w b t _ (by omega)⟩ (fun g hg=>setRow_other w b g _ ?_) hnew
   rintro rfl; exact hbn hg
  ·rcases hl j hj with ⟨h1,h2,h3,h4⟩ | ⟨h1,⟨h2,t,h3⟩ | ⟨h2,h3,h4⟩⟩
   ·right
    rw [look_cons,if_neg (Ne.symm hj),h2,obNew_k _ hj h1]
    refine ⟨rfl,?_,h4⟩
    simp only [headAt]; rw [look_cons,if_pos rfl]; simp only [k1]
    rw [cell_setRow_same w b _ cur _ e (0,0) k2,h3,←k5]
    simp
   ·right
    rw [look_cons,if_neg (Ne.symm hj),h2,obNew_o _ hj h1]
    exact (ERep.leads h3 (hC.rep j)).2
   ·have hbj:∀ g∈blocks (ob j),(w.setRow b (v1++vs++v3).toArray).heap[g]?=w.heap[g]?:=by
     intro g hg
     refine setRow_other w b g _ ?_
     rintro rfl; exact hj (hC.dist j s _ hg (mem_blocks.2 ⟨_,hb0⟩))
    by_cases hld:leads s (look env j)=true
    ·right
     rw [look_cons,if_neg (Ne.symm hj),h2,obNew_o _ hj h1]
     have hr:=hC.rep j
     cases hej:look env j with
     | ptr s' q=>
       rw [hej] at hr hld
       simp only [leads,beq_iff_eq] at hld; subst hld
       obtain ⟨m0,T',o',x',b',m1,m2,m3,m4⟩:=hr
       rw [hs] at m1; cases m1
       exact ⟨m0,T0,_,_,b',by rw [look_cons,if_pos rfl],m2,m3,m4⟩
     | _=>
       rw [hej] at hld h3
       exact absurd (h3.symm.trans hld) (by simp)
    ·left
     rw [look_cons,if_neg (Ne.symm hj),obNew_o _ hj h1]
     refine ⟨h2,rfl,rfl,hbj,fun t ht=>?_⟩
     have hts:t≠s:=by rintro rfl; exact hld ht
     have hhome:=(ERep.leads ht (hC.rep j)).1
     have htk:k≠some t:=by intro h; rw [h4 t h] at ht; exact absurd ht (by simp)
     refine HomeEq.same (P:=P) ?_ rfl (hC.rep t) (fun g hg=>setRow_other w b g _ ?_)
     ·rw [look_cons,if_neg (Ne.symm hts)]
      rcases hl t hts with ⟨m1,_⟩ | ⟨_,⟨_,t',m3⟩ | ⟨m2,_⟩⟩
      ·exact absurd m1 htk
      ·rw [leads_home hhome] at m3; exact absurd m3 (by simp)
      ·exact m2
     ·rintro rfl; exact hts (hC.dist t s _ hg (mem_blocks.2 ⟨_,hb0⟩))
 ·intro i j x hi hj
  obtain ⟨l1,hi⟩:=mem_blocks.1 hi
  obtain ⟨l2,hj⟩:=mem_blocks.1 hj
  obtain ⟨i',h1,h2⟩:=src i _ hi
  obtain ⟨j',h3,h4⟩:=src j _ hj
  have:=hC.dist i' j' x (mem_blocks.2 ⟨_,h1⟩) (mem_blocks.2 ⟨_,h3⟩)
  subst this
  rcases h2 with ⟨rfl,h2⟩ | ⟨h2,h5,rfl⟩<;>rcases h4 with ⟨rfl,h4⟩ | ⟨h4,h6,rfl⟩
  ·rfl
  ·rcases h2 with h2 | h2
   ·exact h2.symm
   ·exact absurd h2 h6
  ·rcases h4 with h4 | h4
   ·exact h4
   ·exact absurd h4 h5
  ·rfl
 ·intro j
  by_cases h:j=s
  ·subst h
   rw [obNew_s]
   simp only [blocks_cons,List.nodup_cons]
   refine ⟨hbn,?_⟩
   simp only [blocks_append]
   obtain ⟨h1,h2⟩:=hnd
   rw [List.nodup_append] at h2 ⊢
   obtain ⟨h3,h4,h5⟩:=h2
   rw [List.nodup_append] at h3 ⊢
   refine ⟨⟨h3.1,hcn,fun x hx y hy hxy=>?_⟩,h4,fun x hx y hy hxy=>?_⟩
   ·subst hxy
    refine hcs' x hy ?_
    rw [k6]; simp only [blocks_cons,blocks_append,List.mem_cons,List.mem_append]; exact .inr (.inl (.inl hx))
   ·subst hxy
    rcases List.mem_append.1 hx with hx | hx
    ·exact h5 x (List.mem_append_left _ hx) x hy rfl
    ·refine hcs' x hx ?_
     rw [k6]; simp only [blocks_cons,blocks_append,List.mem_cons,List.mem_append]; exact .inr (.inr hy)
  ·by_cases h2:k=some j
   ·rw [obNew_k _ h h2]; simp
   ·rw [obNew_o _ h h2]; exact hC.nodup j
 ·intro j x hx
  obtain ⟨l,hx⟩:=mem_blocks.1 hx
  obtain ⟨j',h1,_⟩:=src j _ hx
  rw [setRow_size]
  exact hC.low j' x (mem_blocks.2 ⟨_,h1⟩)
theorem setP_same:∀ (p:Path) (T:Ty) {x x1:den T} {T':Ty} {z:den T'},hasIx p=false→setP T p x ⟨T',z⟩=some x1→getP T p x1=some ⟨T',z⟩
 | [],T,x,x1,T',z,_,h=>by
   simp only [setP] at h
   have:=cast?_some h; cases this
   cases T<;>rfl
 | .l::p,.pair A C,x,x1,T',z,hp,h=>by
   simp only [setP,Option.bind_eq_some_iff,Option.some.injEq] at h; obtain ⟨u,h,rfl⟩:=h
   simp only [getP]; exact setP_same p A hp h
 | .r::p,.pair A C,x,x1,T',z,hp,h=>by
   simp only [setP,Option.bind_eq_some_iff,Option.some.injEq] at h; obtain ⟨u,h,rfl⟩:=h
   simp only [getP]; exact setP_same p C hp h
 | .ix _::_,_,_,_,_,_,hp,_=>by simp [hasIx] at hp
 | .l::_,.int _,_,_,_,_,_,h | .l::_,.bool,_,_,_,_,_,h | .l::_,.str,_,_,_,_,_,h | .l::_,.unit,_,_,_,_,_,h | .l::_,.sl _,_,_,_,_,_,h | .l::_,.arr _ _,_,_,_,_,_,h | .l::_,.fn _ _,_,_,_,_,_,h=>by simp [setP] at h
 | .r::_,.int _,_,_,_,_,_,h | .r::_,.bool,_,_,_,_,_,h | .r::_,.str,_,_,_,_,_,h | .r::_,.unit,_,_,_,_,_,h | .r::_,.sl _,_,_,_,_,_,h | .r::_,.arr _ _,_,_,_,_,_,h | .r::_,.fn _ _,_,_,_,_,_,h=>by simp [setP] at h
theorem annAt_set:∀ (p:Path) (o b:Ann),hasIx p=false→annAt (setAnn o p b) p=b
 | [],_,_,_=>rfl
 | .l::p,o,b,h=>annAt_set p o.l b h
 | .r::p,o,b,h=>annAt_set p o.r b h
 | .ix _::_,_,_,h=>by simp [hasIx] at h
theorem pub_scal {x:Od} {env':Env} {T:Ty} {z:den T} (h:pub env x=some (env',⟨T,z⟩)) (hs:scalarT T=true):env'=env:=by
 unfold pub at h
 simp only [Option.bind_eq_some_iff,Option.some.injEq,Prod.mk.injEq] at h
 obtain ⟨y,h1,h2,rfl⟩:=h
 unfold imm at h1
 split at h1
 ·rename_i T' x' he
  rw [he] at h2; exact h2.symm
 ·split at h1
  ·simp only [Option.some.injEq] at h1; cases h1; simp [scalarT] at hs
  ·simp at h1
 ·simp only [Option.bind_eq_some_iff] at h1
  obtain ⟨hh,_,h1⟩:=h1
  split at h1
  ·simp only [Option.some.injEq] at h1; cases h1; simp [scalarT] at hs
  ·simp at h1
 ·simp at h1
theorem store_elem (hC:Conc P B G0 W0 n env tm w ob) {s:Nat} {e:TypeId} {T0 T:Ty} {oa:Ann} {xs:List (den T0)} {j:Nat} {q:Path} {z:den T} {u:den T0} {vs:List Value} (hs:look env s=.own true e T0 oa xs) (ho:oa.pure=true) (hj:j < xs.length)
  (hset:setP T0 q (xs.getD j (zero T0)) ⟨T,z⟩=some u) (hz:Flat P T w (Gd B G0 ob) B .no z vs []):
  ∃ g cap cur e' fz,tm.getD s undef=.slice (some ⟨g,0,none⟩) xs.length cap∧w.heap[g]?=some (.cells cur e' fz)∧frzOk fz cur.size∧(j * cellsN T0+offT T0 q)+vs.length≤cur.size∧
    Conc P B G0 W0 n ((s,.own true e T0 oa (xs.set j u))::env) tm (w.setRow g (cur.toList.take (j * cellsN T0+offT T0 q)++vs++cur.toList.drop ((j * cellsN T0+offT T0 q)+vs.length)).toArray) ob:=by
 have hr:=hC.rep s
 rw [hs] at hr
 change Flat P (.sl T0) w (Gd B G0 ob) B (.own true e oa) xs [tm.getD s undef] (ob s) at hr
 unfold Flat at hr
 obtain ⟨v',cells,ob',e1,hrow,hel,hob⟩:=hr
 simp only [List.cons.injEq,and_true] at e1
 subst e1
 obtain ⟨hobn,hel0⟩:=Elems.pure P (o':=.no) ho rfl hel
 subst hobn
 have hrow':=hrow
 rcases hrow.2 with ⟨_,hn⟩ | ⟨g,cap,cur,e1,fz,hv,hBg,hg,hnc,hcm,hcs,htake,hbf,hfz⟩
 ·omega
 have hg0:(g,0)∈ob s:=by rw [hob,hv]; simp [obOf,Value.ownBlock]
 obtain ⟨y,hy⟩:=setP_getP q T0 hset
 obtain ⟨v1,v2,v3,c1,c2,c3,f1,f2,f3,f4,f5⟩:=Elems.split (fun x v b hx=>Flat.len P _ hx) j (zero T0) hel0 hj
 obtain ⟨u1,u2,u3,d1,d2,d3,g1,g2,g3,g4,g5⟩:=Flat.lens P q T0 f4 hy
 have hlv:vs.length=u2.length:=by rw [Flat.len P T hz,Flat.len P T g4]
 have hc:c1=[]∧c2=[]∧c3=[]:=by
  have:c1++c2++c3=[]:=f2.symm
  simp at this; exact ⟨this.1,this.2.1,this.2.2⟩
 obtain ⟨rfl,rfl,rfl⟩:=hc
 have hd:d1=[]∧d2=[]∧d3=[]:=by
  have:d1++d2++d3=[]:=g2.symm
  simp at this; exact ⟨this.1,this.2.1,this.2.2⟩
 obtain ⟨rfl,rfl,rfl⟩:=hd
 have hnew:=f5 u (u1++vs++u3) [] (by
  have:=g5 .no z vs [] u (fun _=>rfl) hz hset
  exact (Flat.pure P T0 (setAnn_pure q .no .no rfl rfl) (o':=.no) rfl this).2)
 have hcur:cur.toList=(v1++u1)++u2++(u3++v3++cur.toList.drop (xs.length * cellsN T0)):=by
  rw [←List.take_append_drop (xs.length * cellsN T0) cur.toList,htake,f1,g1]
  have:(v1++(u1++u2++u3)++v3).length=xs.length * cellsN T0:=by rw [←g1,←f1]; exact hrow.1
  have h2:(v1++(u1++u2++u3)++v3++cur.toList.drop (xs.length * cellsN T0)).drop (xs.length * cellsN T0)=cur.toList.drop (xs.length * cellsN T0):=by
   rw [←this,List.drop_left]
  rw [h2]
  simp only [List.append_assoc]
 have hoff:(v1++u1).length=j * cellsN T0+offT T0 q:=by rw [List.length_append,f3,g3]
 have hcs2:(cur.toList.take (j * cellsN T0+offT T0 q)++vs++cur.toList.drop ((j * cellsN T0+offT T0 q)+vs.length))=(v1++u1)++vs++(u3++v3++cur.toList.drop (xs.length * cellsN T0)):=by
  rw [←hoff]
  have:=take_drop_mid (v1:=v1++u1) (v3:=u3++v3++cur.toList.drop (xs.length * cellsN T0)) hlv
  rw [←hcur] at this
  exact this
 refine ⟨g,cap,cur,e1,fz,hv,hg,hfz,?_,?_⟩
 ·have:cur.size=cur.toList.length:=by simp
  rw [this,hcur,←hoff,hlv]; simp only [List.length_append]; omega
 rw [hcs2]
 have hlow:=hC.low s g (mem_blocks.2 ⟨_,hg0⟩)
 refine Conc.touch hC hg0 _ ⟨fun q v hq hv=>?_,fun q h hq=>?_,fun T o x hx=>?_⟩ ?_
 ·simp only [headAt,hs] at hv
  simp only [headAt]; rw [look_cons,if_pos rfl]; exact hv
 ·simp only [heldAt,hs] at hq
  simp only [heldAt]; rw [look_cons,if_pos rfl]
  cases q with
  | nil=>simp only [Option.some.injEq] at hq; subst hq; exact ⟨_,rfl,rfl,by simp⟩
  | cons=>exact absurd hq (by simp)
 ·rw [hs] at hx; exact absurd hx (by simp)
 ·have hcell:∀ b' i,Gd B G0 ob b' i→(w.setRow g ((v1++u1)++vs++(u3++v3++cur.toList.drop (xs.length * cellsN T0))).toArray).cell? ⟨b',i,none⟩=w.cell? ⟨b',i,none⟩:=by
   intro b' i h
   refine cell_setRow_other w g _ _ ?_
   rintro rfl
   rcases h with ⟨h,_⟩ | ⟨_,_,h⟩
   ·exact absurd h (by simp; omega)
   ·exact absurd (h s 0 hg0) (by simp)
  have hlen2:(v1++(u1++vs++u3)++v3).length=xs.length * cellsN T0:=by
   have h1:cells.length=xs.length * cellsN T0:=hrow.1
   rw [f1,g1] at h1
   simp only [List.length_append] at h1 ⊢
   omega
  show Flat P (.sl T0) _ (Gd B G0 ob) B (.own true e oa) (xs.set j u) [tm.getD s undef] (ob s)
  unfold Flat
  refine ⟨_,v1++(u1++vs++u3)++v3,[],rfl,⟨by rw [List.length_set]; exact hlen2,.inr ⟨g,cap,_,e1,fz,by rw [List.length_set]; exact hv,hBg,setRow_heap w g cur _ e1 fz hg,by rw [List.length_set]; exact hnc,hcm,?_,?_,hbf,?_⟩⟩,?_,?_⟩
  ·rw [←hcs]
   have h1:cur.size=cur.toList.length:=by simp
   have h2:=congrArg List.length hcur
   rw [h1,h2]
   simp only [List.size_toArray,List.length_append]; omega
  ·simp only [List.length_set]
   have h1:(v1++u1)++vs++(u3++v3++cur.toList.drop (xs.length * cellsN T0))=(v1++(u1++vs++u3)++v3)++cur.toList.drop (xs.length * cellsN T0):=by simp only [List.append_assoc]
   rw [h1,←hlen2]
   simp only [List.take_left]
  ·have hz1:cur.size=cur.toList.length:=by simp
   have hz2:=congrArg List.length hcur
   rcases hfz with h | h
   ·exact .inl h
   ·right; simp only [List.size_toArray,List.length_append] at hz2 ⊢; omega
  ·exact Elems.imp (fun x v b hb hx=>by
    have:b=[]:=by cases b with | nil=>rfl | cons q r=>exact absurd (hb q (by simp)) (by simp)
    subst this
    have hx2:Flat P T0 (w.setRow g ((v1++u1)++vs++(u3++v3++cur.toList.drop (xs.length * cellsN T0))).toArray) (Gd B G0 ob) B .no x v []:=Flat.mono P T0 (fun b' i _ h=>⟨h,hcell b' i h⟩) ⟨by simp,fun t ht=>setRow_other w g t _ (by omega)⟩ (by simp) hx
    exact (Flat.pure P T0 (o:=.no) rfl ho hx2).2) (by simpa using hnew)
  ·rw [hob]; simp
end
end Go.Fw
/- Soundness: an element of a slice that a variable's part holds is written. -/
namespace Go.Fw
open Go Go.RowKit
theorem Flat.lens2 (P:Program):∀ (p:Path) (T:Ty) {w:World} {G:Nat→Nat→Prop} {B:Nat} {o:Ann} {x:den T} {vs:List Value} {ob:OB} {T':Ty} {y:den T'},hasIx p=false→Flat P T w G B o x vs ob→getP T p x=some ⟨T',y⟩→
  ∃ v1 v2 v3 b1 b2 b3,vs=v1++v2++v3∧ob=b1++b2++b3∧v1.length=offT T p∧Flat P T' w G B (annAt o p) y v2 b2∧
    ∀ (w':World) (o2:Ann) (y2:den T') (u:List Value) (c:OB) (x2:den T),(∀ b i,b < w.heap.size→G b i→G b i∧w'.cell? ⟨b,i,none⟩=w.cell? ⟨b,i,none⟩)→Later B w w'→(∀ g,g∈blocks b1∨g∈blocks b3→w'.heap[g]?=w.heap[g]?)→
      Flat P T' w' G B o2 y2 u c→setP T p x ⟨T',y2⟩=some x2→Flat P T w' G B (setAnn o p o2) x2 (v1++u++v3) (b1++c++b3)
 | [],T,w,G,B,o,x,vs,ob,T',y,_,hF,h=>by
   simp only [getP,Option.some.injEq] at h
   obtain ⟨rfl,h⟩:=Sigma.mk.inj h
   rw [eq_of_heq h] at hF
   refine ⟨[],vs,[],[],ob,[],by simp,by simp,by cases T<;>rfl,hF,?_⟩
   intro w' o2 y2 u c x2 _ _ _ hy hs
   have hs':cast? T ⟨T,y2⟩=some x2:=by cases T<;>exact hs
   rw [cast?_self,Option.some.injEq] at hs'
   subst hs'
   simpa [setAnn] using hy
 | .l::p,.pair A C,w,G,B,o,x,vs,ob,T',y,hp,hF,h=>by
   unfold Flat at hF; obtain ⟨u1,u2,c1,c2,rfl,rfl,h1,h2⟩:=hF
   simp only [getP] at h
   obtain ⟨v1,v2,v3,b1,b2,b3,rfl,rfl,hl,hF2,hset⟩:=Flat.lens2 P p A hp h1 h
   refine ⟨v1,v2,v3++u2,b1,b2,b3++c2,by simp,by simp,hl,hF2,?_⟩
   intro w' o2 y2 u c x2 hG hL hO hy hs
   simp only [setP,Option.bind_eq_some_iff,Option.some.injEq] at hs
   obtain ⟨z,hz,rfl⟩:=hs
   unfold Flat
   refine ⟨v1++u++v3,u2,b1++c++b3,c2,by simp,by simp,hset w' o2 y2 u c z hG hL (fun g hg=>hO g ?_) hy hz,Flat.mono P C hG hL (fun g hg=>hO g (by simp [hg])) h2⟩
   rcases hg with hg | hg
   ·exact .inl hg
   ·exact .inr (by simp [hg])
 | .r::p,.pair A C,w,G,B,o,x,vs,ob,T',y,hp,hF,h=>by
   have hlen:∀ {vs ob},Flat P A w G B o.l x.1 vs ob→vs.length=cellsN A:=fun h=>Flat.len P A h
   unfold Flat at hF; obtain ⟨u1,u2,c1,c2,rfl,rfl,h1,h2⟩:=hF
   simp only [getP] at h
   obtain ⟨v1,v2,v3,b1,b2,b3,rfl,rfl,hl,hF2,hset⟩:=Flat.lens2 P p C hp h2 h
   refine ⟨u1++v1,v2,v3,c1++b1,b2,b3,by simp,by simp,by rw [List.length_append,hlen h1,hl]; rfl,hF2,?_⟩
   intro w' o2 y2 u c x2 hG hL hO hy hs
   simp only [setP,Option.bind_eq_some_iff,Option.some.injEq] at hs
   obtain ⟨z,hz,rfl⟩:=hs
   unfold Flat
   refine ⟨u1,v1++u++v3,c1,b1++c++b3,by simp,by simp,Flat.mono P A hG hL (fun g hg=>hO g (by simp [hg])) h1,hset w' o2 y2 u c z hG hL (fun g hg=>hO g ?_) hy hz⟩
   rcases hg with hg | hg
   ·exact .inl (by simp [hg])
   ·exact .inr hg
 | .ix _::_,_,_,_,_,_,_,_,_,_,_,hp,_,_=>by simp [hasIx] at hp
 | .l::_,.int _,_,_,_,_,_,_,_,_,_,_,_,h | .l::_,.bool,_,_,_,_,_,_,_,_,_,_,_,h | .l::_,.str,_,_,_,_,_,_,_,_,_,_,_,h | .l::_,.unit,_,_,_,_,_,_,_,_,_,_,_,h | .l::_,.sl _,_,_,_,_,_,_,_,_,_,_,_,h | .l::_,.arr _ _,_,_,_,_,_,_,_,_,_,_,_,h | .l::_,.fn _ _,_,_,_,_,_,_,_,_,_,_,_,h=>by simp [getP] at h
 | .r::_,.int _,_,_,_,_,_,_,_,_,_,_,_,h | .r::_,.bool,_,_,_,_,_,_,_,_,_,_,_,h | .r::_,.str,_,_,_,_,_,_,_,_,_,_,_,h | .r::_,.unit,_,_,_,_,_,_,_,_,_,_,_,h | .r::_,.sl _,_,_,_,_,_,_,_,_,_,_,_,h | .r::_,.arr _ _,_,_,_,_,_,_,_,_,_,_,_,h | .r::_,.fn _ _,_,_,_,_,_,_,_,_,_,_,_,h=>by simp [getP] at h
theorem getP_set_sl:∀ (q p:Path) (T0:Ty) {x x1:den T0} {T1 T':Ty} {xs ys:List (den T1)} {zs:List (den T')},hasIx q=false→getP T0 p x=some ⟨.sl T1,xs⟩→setP T0 p x ⟨.sl T1,ys⟩=some x1→ys.length=xs.length→getP T0 q x=some ⟨.sl T',zs⟩→
  ∃ zs':List (den T'),getP T0 q x1=some ⟨.sl T',zs'⟩∧zs'.length=zs.length
 | [],p,T0,x,x1,T1,T',xs,ys,zs,_,hp,hs,hl,hq=>by
   have:T0=.sl T':=by
    simp only [getP,Option.some.injEq] at hq
    exact (Sigma.mk.inj hq).1
   subst this
   cases p with
   | nil=>
     simp only [getP,Option.some.injEq] at hp hq
     obtain ⟨h1,h2⟩:=Sigma.mk.inj hp
     cases h1
     obtain ⟨_,h3⟩:=Sigma.mk.inj hq
     have e1:=eq_of_heq h2; have e2:=eq_of_heq h3
     have hs':cast? (.sl T1) ⟨.sl T1,ys⟩=some x1:=hs
     rw [cast?_self,Option.some.injEq] at hs'
     subst hs'
     exact ⟨ys,rfl,by rw [hl,←e1,←e2]⟩
   | cons st p=>cases st<;>simp [getP] at hp
 | .l::q,p,.pair A C,x,x1,T1,T',xs,ys,zs,hix,hp,hs,hl,hq=>by
   simp only [getP] at hq
   simp only [hasIx] at hix
   match p,hp,hs with
   | [],hp,_=>exact absurd (Sigma.mk.inj (by simpa only [getP,Option.some.injEq] using hp)).1 (by simp)
   | .l::p,hp,hs=>
     simp only [setP,Option.bind_eq_some_iff,Option.some.injEq] at hs
     obtain ⟨u,hu,rfl⟩:=hs
     simp only [getP] at hp ⊢
     exact getP_set_sl q p A hix hp hu hl hq
   | .r::p,hp,hs=>
     simp only [setP,Option.bind_eq_some_iff,Option.some.injEq] at hs
     obtain ⟨u,hu,rfl⟩:=hs
     simp only [getP]
     exact ⟨zs,hq,rfl⟩
   | .ix i::p,hp,hs=>simp [setP] at hs
 | .r::q,p,.pair A C,x,x1,T1,T',xs,ys,zs,hix,hp,hs,hl,hq=>by
   simp only [getP] at hq
   simp only [hasIx] at hix
   match p,hp,hs with
   | [],hp,_=>exact absurd (Sigma.mk.inj (by simpa only [getP,Option.some.injEq] using hp)).1 (by simp)
   | .r::p,hp,hs=>
     simp only [setP,Option.bind_eq_some_iff,Option.some.injEq] at hs
     obtain ⟨u,hu,rfl⟩:=hs
     simp only [getP] at hp ⊢
     exact getP_set_sl q p C hix hp hu hl hq
   | .l::p,hp,hs=>
     simp only [setP,Option.bind_eq_some_iff,Option.some.injEq] at hs
     obtain ⟨u,hu,rfl⟩:=hs
     simp only [getP]
     exact ⟨zs,hq,rfl⟩
   | .ix i::p,hp,hs=>simp [setP] at hs
 | .ix _::_,_,_,_,_,_,_,_,_,_,hix,_,_,_,_=>by simp [hasIx] at hix
 | .l::_,_,.int _,_,_,_,_,_,_,_,_,_,_,_,h | .l::_,_,.bool,_,_,_,_,_,_,_,_,_,_,_,h | .l::_,_,.str,_,_,_,_,_,_,_,_,_,_,_,h | .l::_,_,.unit,_,_,_,_,_,_,_,_,_,_,_,h | .l::_,_,.sl _,_,_,_,_,_,_,_,_,_,_,_,h | .l::_,_,.arr _ _,_,_,_,_,_,_,_,_,_,_,_,h | .l::_,_,.fn _ _,_,_,_,_,_,_,_,_,_,_,_,h=>by simp [getP] at h
 | .r::_,_,.int _,_,_,_,_,_,_,_,_,_,_,_,h | .r::_,_,.bool,_,_,_,_,_,_,_,_,_,_,_,h | .r::_,_,.str,_,_,_,_,_,_,_,_,_,_,_,h | .r::_,_,.unit,_,_,_,_,_,_,_,_,_,_,_,h | .r::_,_,.sl _,_,_,_,_,_,_,_,_,_,_,_,h | .r::_,_,.arr _ _,_,_,_,_,_,_,_,_,_,_,_,h | .r::_,_,.fn _ _,_,_,_,_,_,_,_,_,_,_,_,h=>by simp [getP] at h
section
variable {P:Program} {B:Nat} {G0:Nat→Nat→Prop} {W0:Base} {n:Nat} {env:Env} {tm:Array Value} {a:Act} {w:World} {ob:Nat→OB} {cl:Cal}
theorem row_set {G:Nat→Nat→Prop} {e:TypeId} {T0 T:Ty} {oa:Ann} {xs:List (den T0)} {j:Nat} {q:Path} {z:den T} {u:den T0} {vs:List Value} {v:Value} {obv:OB} (hr:Flat P (.sl T0) w G B (.own true e oa) xs [v] obv) (ho:oa.pure=true) (hj:j < xs.length)
  (hset:setP T0 q (xs.getD j (zero T0)) ⟨T,z⟩=some u) (hz:Flat P T w G B .no z vs []) (hno:∀ g i,(g,0)∈obv→¬ G g i):
  ∃ g cap cur e' fz,v=.slice (some ⟨g,0,none⟩) xs.length cap∧obv=[(g,0)]∧w.heap[g]?=some (.cells cur e' fz)∧frzOk fz cur.size∧(j * cellsN T0+offT T0 q)+vs.length≤cur.size∧
    Flat P (.sl T0) (w.setRow g (cur.toList.take (j * cellsN T0+offT T0 q)++vs++cur.toList.drop ((j * cellsN T0+offT T0 q)+vs.length)).toArray) G B (.own true e oa) (xs.set j u) [v] obv:=by
 unfold Flat at hr
 obtain ⟨v',cells,ob',e1,hrow,hel,hob⟩:=hr
 simp only [List.cons.injEq,and_true] at e1
 subst e1
 obtain ⟨hobn,hel0⟩:=Elems.pure P (o':=.no) ho rfl hel
 subst hobn
 have hrow':=hrow
 rcases hrow.2 with ⟨_,hn⟩ | ⟨g,cap,cur,e1,fz,hv,hBg,hg,hnc,hcm,hcs,htake,hbf,hfz⟩
 ·omega
 have hob2:obv=[(g,0)]:=by rw [hob,hv]; simp [obOf,Value.ownBlock]
 have hg0:(g,0)∈obv:=by rw [hob2]; simp
 obtain ⟨y,hy⟩:=setP_getP q T0 hset
 obtain ⟨v1,v2,v3,c1,c2,c3,f1,f2,f3,f4,f5⟩:=Elems.split (fun x v b hx=>Flat.len P _ hx) j (zero T0) hel0 hj
 obtain ⟨u1,u2,u3,d1,d2,d3,g1,g2,g3,g4,g5⟩:=Flat.lens P q T0 f4 hy
 have hlv:vs.length=u2.length:=by rw [Flat.len P T hz,Flat.len P T g4]
 have hc:c1=[]∧c2=[]∧c3=[]:=by
  have:c1++c2++c3=[]:=f2.symm
  simp at this; exact ⟨this.1,this.2.1,this.2.2⟩
 obtain ⟨rfl,rfl,rfl⟩:=hc
 have hd:d1=[]∧d2=[]∧d3=[]:=by
  have:d1++d2++d3=[]:=g2.symm
  simp at this; exact ⟨this.1,this.2.1,this.2.2⟩
 obtain ⟨rfl,rfl,rfl⟩:=hd
 have hnew:=f5 u (u1++vs++u3) [] (by
  have:=g5 .no z vs [] u (fun _=>rfl) hz hset
  exact (Flat.pure P T0 (setAnn_pure q .no .no rfl rfl) (o':=.no) rfl this).2)
 have hcur:cur.toList=(v1++u1)++u2++(u3++v3++cur.toList.drop (xs.length * cellsN T0)):=by
  rw [←List.take_append_drop (xs.length * cellsN T0) cur.toList,htake,f1,g1]
  have:(v1++(u1++u2++u3)++v3).length=xs.length * cellsN T0:=by rw [←g1,←f1]; exact hrow.1
  have h2:(v1++(u1++u2++u3)++v3++cur.toList.drop (xs.length * cellsN T0)).drop (xs.length * cellsN T0)=cur.toList.drop (xs.length * cellsN T0):=by
   rw [←this,List.drop_left]
  rw [h2]
  simp only [List.append_assoc]
 have hoff:(v1++u1).length=j * cellsN T0+offT T0 q:=by rw [List.length_append,f3,g3]
 have hcs2:(cur.toList.take (j * cellsN T0+offT T0 q)++vs++cur.toList.drop ((j * cellsN T0+offT T0 q)+vs.length))=(v1++u1)++vs++(u3++v3++cur.toList.drop (xs.length * cellsN T0)):=by
  rw [←hoff]
  have:=take_drop_mid (v1:=v1++u1) (v3:=u3++v3++cur.toList.drop (xs.length * cellsN T0)) hlv
  rw [←hcur] at this
  exact this
 refine ⟨g,cap,cur,e1,fz,hv,hob2,hg,hfz,?_,?_⟩
 ·have:cur.size=cur.toList.length:=by simp
  rw [this,hcur,←hoff,hlv]; simp only [List.length_append]; omega
 rw [hcs2]
 have hcell:∀ b' i,G b' i→(w.setRow g ((v1++u1)++vs++(u3++v3++cur.toList.drop (xs.length * cellsN T0))).toArray).cell? ⟨b',i,none⟩=w.cell? ⟨b',i,none⟩:=by
  intro b' i h
  refine cell_setRow_other w g _ _ ?_
  rintro rfl
  exact hno _ _ hg0 h
 have hlen2:(v1++(u1++vs++u3)++v3).length=xs.length * cellsN T0:=by
  have h1:cells.length=xs.length * cellsN T0:=hrow.1
  rw [f1,g1] at h1
  simp only [List.length_append] at h1 ⊢
  omega
 show Flat P (.sl T0) _ G B (.own true e oa) (xs.set j u) [v] obv
 unfold Flat
 refine ⟨_,v1++(u1++vs++u3)++v3,[],rfl,⟨by rw [List.length_set]; exact hlen2,.inr ⟨g,cap,_,e1,fz,by rw [List.length_set]; exact hv,hBg,setRow_heap w g cur _ e1 fz hg,by rw [List.length_set]; exact hnc,hcm,?_,?_,hbf,?_⟩⟩,?_,?_⟩
 ·rw [←hcs]
  have h1:cur.size=cur.toList.length:=by simp
  have h2:=congrArg List.length hcur
  rw [h1,h2]
  simp only [List.size_toArray,List.length_append]; omega
 ·simp only [List.length_set]
  have h1:(v1++u1)++vs++(u3++v3++cur.toList.drop (xs.length * cellsN T0))=(v1++(u1++vs++u3)++v3)++cur.toList.drop (xs.length * cellsN T0):=by simp only [List.append_assoc]
  rw [h1,←hlen2]
  simp only [List.take_left]
 ·have hz1:cur.size=cur.toList.length:=by simp
  have hz2:=congrArg List.length hcur
  rcases hfz with h | h
  ·exact .inl h
  ·right; simp only [List.size_toArray,List.length_append] at hz2 ⊢; omega
 ·exact Elems.imp (fun x v b hb hx=>by
   have:b=[]:=by cases b with | nil=>rfl | cons q r=>exact absurd (hb q (by simp)) (by simp)
   subst this
   have hx2:Flat P T0 (w.setRow g ((v1++u1)++vs++(u3++v3++cur.toList.drop (xs.length * cellsN T0))).toArray) G B .no x v []:=Flat.mono P T0 (fun b' i _ h=>⟨h,hcell b' i h⟩) ⟨by simp,fun t ht=>setRow_other w g t _ (by omega)⟩ (by simp) hx
   exact (Flat.pure P T0 (o:=.no) rfl ho hx2).2) (by simpa using hnew)
 ·rw [hob]; simp
theorem store_elemL (hC:Conc P B G0 W0 n env tm w ob) {s:Nat} {e:TypeId} {T0 T1 T:Ty} {oa o':Ann} {x0 x1:den T0} {p:Path} {xs:List (den T1)} {j:Nat} {q:Path} {z:den T} {u:den T1} {vs:List Value} (hs:look env s=.loc T0 oa x0) (ha:annAt oa p=.own true e o')
  (hg:getP T0 p x0=some ⟨.sl T1,xs⟩) (ho:o'.pure=true) (hj:j < xs.length) (hset:setP T1 q (xs.getD j (zero T1)) ⟨T,z⟩=some u) (hset2:setP T0 p x0 ⟨.sl T1,xs.set j u⟩=some x1) (hz:Flat P T w (Gd B G0 ob) B .no z vs []):
  ∃ g cap cur e' fz,headAt w tm env s p=some (.slice (some ⟨g,0,none⟩) xs.length cap)∧w.heap[g]?=some (.cells cur e' fz)∧frzOk fz cur.size∧(j * cellsN T1+offT T1 q)+vs.length≤cur.size∧
    Conc P B G0 W0 n ((s,.loc T0 oa x1)::env) tm (w.setRow g (cur.toList.take (j * cellsN T1+offT T1 q)++vs++cur.toList.drop ((j * cellsN T1+offT T1 q)+vs.length)).toArray) ob:=by
 have hix:hasIx p=false:=annAt_own_noIx p oa ha
 have hr:=hC.rep s
 rw [hs] at hr
 obtain ⟨b,cur,e0,ob',k1,k2,k3,k4,k5⟩:=hr
 obtain ⟨v1,v2,v3,b1,b2,b3,e1,e2,e3,e4,e5⟩:=Flat.lens2 P p T0 hix k4 hg
 rw [ha] at e4
 obtain ⟨v,rfl⟩:∃ v,v2=[v]:=by
  have:=Flat.len P _ e4
  cases v2 with
  | nil=>simp [cellsN] at this
  | cons v r=>cases r with | nil=>exact ⟨v,rfl⟩ | cons=>simp [cellsN] at this
 have hsub:∀ q,q∈b2→q∈ob s:=fun q hq=>by rw [k5,e2]; simp [hq]
 obtain ⟨g,cap,curg,e',fz,r1,r2,r3,rf,r4,r5⟩:=row_set e4 ho hj hset hz (fun g i hg hG=>by
  have h0:=hsub _ hg
  have hlow:=hC.low s g (mem_blocks.2 ⟨_,h0⟩)
  rcases hG with ⟨h,_⟩ | ⟨_,_,h⟩
  ·omega
  ·exact absurd (h s 0 h0) (by simp))
 have hg0:(g,0)∈ob s:=hsub _ (by rw [r2]; simp)
 have hlow:=hC.low s g (mem_blocks.2 ⟨_,hg0⟩)
 have hnd:=hC.nodup s
 rw [k5,e2,r2] at hnd
 simp only [blocks_cons,blocks_append,blocks_nil,List.nodup_cons,List.nodup_append,List.mem_append,List.mem_cons] at hnd
 have hbg:b≠g:=fun h=>hnd.1 (.inl (.inr (.inl h)))
 have hcellb:w.cell? ⟨b,offT T0 p,none⟩=some v:=by
  rw [cell_of_row w b _ cur e0 (0,0) k3,←Array.getElem?_toList,e1,←e3]
  simp
 have hhead:headAt w tm env s p=some (.slice (some ⟨g,0,none⟩) xs.length cap):=by
  simp only [headAt,hs,k1,hcellb,r1]
 refine ⟨g,cap,curg,e',fz,hhead,r3,rf,r4,?_⟩
 refine Conc.touch hC hg0 _ ⟨fun q' v' hq hv=>?_,fun q' h hq=>?_,fun T o x hx=>?_⟩ ?_
 ·simp only [headAt,hs,k1] at hv
  simp only [headAt]; rw [look_cons,if_pos rfl]; simp only [k1]
  rw [cell_setRow_other w g _ _ (by exact hbg)]; exact hv
 ·simp only [heldAt,hs] at hq
  simp only [heldAt]; rw [look_cons,if_pos rfl]
  simp only
  split at hq
  ·rename_i wr ed o2 T' zs ha2 hg2
   simp only [Option.some.injEq] at hq; subst hq
   obtain ⟨zs',h1,h2⟩:=getP_set_sl q' p T0 (annAt_own_noIx q' oa ha2) hg hset2 (by simp) hg2
   exact ⟨⟨wr,ed,T',o2,zs'⟩,by rw [ha2,h1],rfl,h2⟩
  ·simp at hq
 ·rw [hs] at hx; cases hx
  exact ⟨_,_,by rw [look_cons,if_pos rfl],rfl⟩
 ·refine ⟨b,cur,e0,ob',k1,k2,by rw [setRow_other w g b _ hbg]; exact k3,?_,k5⟩
  have hnew:=e5 (w.setRow g (curg.toList.take (j * cellsN T1+offT T1 q)++vs++curg.toList.drop ((j * cellsN T1+offT T1 q)+vs.length)).toArray) (.own true e o') (xs.set j u) [v] b2 x1 (fun b' i _ h=>⟨h,?_⟩) ⟨by simp,fun t ht=>setRow_other w g t _ (by omega)⟩ (fun t ht=>setRow_other w g t _ ?_) r5 hset2
  ·rw [←ha] at hnew
   rw [e1,e2]
   exact Flat.setAnn_self p T0 hg hnew
  ·refine cell_setRow_other w g _ _ ?_
   intro hbb
   replace hbb:b'=g:=hbb
   rcases h with ⟨h,_⟩ | ⟨_,_,h⟩
   ·omega
   ·rw [hbb] at h; exact absurd (h s 0 hg0) (by simp)
  ·rintro rfl
   rcases ht with ht | ht
   ·exact hnd.2.1.2.2 _ ht _ (by simp) rfl
   ·exact hnd.2.2.2 _ (.inr (by simp)) _ ht rfl
end
end Go.Fw
/- Soundness, part 20: store. -/
namespace Go.Fw
open Go Go.RowKit
section
variable {P:Program} {B:Nat} {G0:Nat→Nat→Prop} {W0:Base} {n:Nat} {env:Env} {tm:Array Value} {a:Act} {w:World} {ob:Nat→OB} {cl:Cal}
variable {R:Type} {K:Kont R} {r:R} {next:Act→World→Prop} {Q:Exit→Act→World→Prop} {o:Oper} {i:AI}
theorem pub_look {y:Od} {env':Env} {z:TV} (h:pub env y=some (env',z)) {s:Nat} {e:TypeId} {T:Ty} {oa:Ann} {xs:List (den T)} (hs:look env' s=.own true e T oa xs):look env s=.own true e T oa xs:=by
 unfold pub at h
 simp only [Option.bind_eq_some_iff,Option.some.injEq,Prod.mk.injEq] at h
 obtain ⟨_,_,h2,_⟩:=h
 split at h2
 ·rename_i s' _
  subst h2
  rcases Fz.freeze env s' s with h3 | ⟨wr,ed,T',o',xs',_,h3⟩ | ⟨T',o',x',_,h3⟩
  ·rw [←h3]; exact hs
  ·rw [h3] at hs; cases hs
  ·rw [h3] at hs; cases hs
 ·rw [h2]; exact hs
theorem run_store {t:TypeId} {T:Ty} {x y:Operand} (ho:o.op=.store t x y) (hT:TyR P t T) {g off:Nat} {e:TypeId} {fz:Nat×Nat} {cur:Array Value} {vs:List Value} (hx:a.eval x=.pointer (some ⟨g,off,none⟩)) (hy:a.eval y=asVal T vs)
  (hg:w.heap[g]?=some (.cells cur e fz)) (hfz:frzOk fz cur.size) (hl:vs.length=cellsN T) (h1:∀ u∈vs,u.oneCell'=true) (hfit:off+vs.length≤cur.size):
  (execOp a.eval o).run P w=.ok .skip (w.setRow g (cur.toList.take off++vs++cur.toList.drop (off+vs.length)).toArray):=by
 have:=run_storeT hT w hg hfz hl h1 hfit
 simp [execOp,ho,hx,hy,Instr.storeAt,Instr.sureAddr,this]
theorem wp_none (hdn:o.dst=none) {w':World} (hrun:(execOp a.eval o).run P w=.ok .skip w') (h:next a w'):o.wp P a w next Q:=by
 refine wp_unit hrun ?_
 rw [hdn]; exact h
theorem look_kk (s k j:Nat) (env:Env):look (killR s (kill k env)) j=if leads k (look env j)=true then .dead else if shows s (look env j)=true then .dead else look env j:=by
 rw [look_killR,look_kill]
 by_cases h:leads k (look env j)=true
 ·rw [if_pos h,if_pos h]; rfl
 ·rw [if_neg h,if_neg h]
theorem own_one {T:Ty} {G:Nat→Nat→Prop} {wr:Bool} {e:TypeId} {oa:Ann} {xs:List (den T)} {vs:List Value} {b:OB} (h:Flat P (.sl T) w G B (.own wr e oa) xs vs b):∀ u∈vs,u.oneCell'=true:=by
 unfold Flat at h
 obtain ⟨v,cells,ob',rfl,h2,_⟩:=h
 rcases h2.2 with h | ⟨g,cap,cur,_,_,rfl,_⟩
 ·rw [h.1]; simp [Value.oneCell']
 ·simp [Value.oneCell']
theorem pub_fz {y:Od} {env':Env} {z:TV} (h:pub env y=some (env',z)):Fz env env':=by
 unfold pub at h
 simp only [Option.bind_eq_some_iff,Option.some.injEq,Prod.mk.injEq] at h
 obtain ⟨_,_,h2,_⟩:=h
 split at h2
 ·subst h2; exact Fz.freeze _ _
 ·rw [h2]; exact Fz.refl _
theorem leads_of_shows {s:Nat} {e:E} (h:shows s e=true):leads s e=true:=by
 cases e<;>first | exact h | (exfalso; simp [shows] at h; done)
theorem st_store {t:TypeId} {T:Ty} {x xv:Operand} {y yv:Od} (hC:Conc P B G0 W0 n env a.tmps w ob) (hK:KOk P B G0 W0 n a K r next) (hdn:o.dst=none)
  (ho:o.op=.store t x xv) (hi:i.op=.store T y yv) (hT:TyR P t T) (hx:okOd x y=true) (hv:okOd xv yv=true) (h:step cl i env K=some r):o.wp P a w next Q:=by
 unfold step at h; rw [hi] at h; simp only at h
 have hr:=ent_rep hC hx
 split at h
 ·rename_i s p j q he
  rw [he] at hr
  split at h
  ·rename_i e T0 oa xs hs
   split at h
   ·simp only [Option.bind_eq_some_iff] at h
    obtain ⟨⟨env',zz⟩,hp,z,hz,h⟩:=h
    split at h
    case isFalse=>simp at h
    rename_i hj
    simp only [Option.bind_eq_some_iff] at h
    obtain ⟨u,hu,_,hown,h⟩:=h
    split at h
    case isFalse=>simp at h
    rename_i hpure
    have:=cast?_some hz; cases this
    obtain ⟨ob',hf,hC',vs,hvs,hF⟩:=pub_rep hC hv hp
    have hs':look env' s=.own true e T0 oa xs:=by
     split at hown
     ·rename_i e2 T2 o2 xs2 h2
      have h3:=pub_look hp h2
      rw [hs] at h3; cases h3
      exact h2
     ·simp at hown
    obtain ⟨g,cap,cur,e',fz,k1,k2,kf,k3,k4⟩:=store_elem hC' hs' hpure hj hu hF
    obtain ⟨_,h',g',m,c,m1,m2,m3,m4,m5⟩:=hr
    simp only [heldAt,hs,Option.some.injEq] at m1; subst m1
    simp only [headAt,hs,k1,Option.some.injEq,Value.slice.injEq,Addr.mk.injEq] at m2
    obtain ⟨⟨rfl,_⟩,_⟩:=m2
    refine wp_none hdn (run_store ho hT m5 hvs k2 kf (Flat.len P T hF) (Flat.one P T (o:=.no) rfl hF) k3) ?_
    exact hK _ _ _ _ k4 h
   ·simp at h
  ·rename_i T0' oa' x0' hs0
   simp only [Option.bind_eq_some_iff] at h
   obtain ⟨⟨env',zz⟩,hp,z,hz,h⟩:=h
   have:=cast?_some hz; cases this
   simp only at h
   split at h
   case h_2=>simp at h
   rename_i T0 oa x0 hs'
   split at h
   ·rename_i ed o' T1 xs ha hg
    split at h
    case isFalse=>simp at h
    rename_i hj
    simp only [Option.bind_eq_some_iff] at h
    obtain ⟨u,hu,x1,hx1,h⟩:=h
    split at h
    case isFalse=>simp at h
    rename_i hpure
    have hsame:look env' s=look env s:=by
     rcases pub_fz hp s with h1 | ⟨_,_,_,_,_,h1,_⟩ | ⟨T3,o3,x3,h1,h2⟩
     ·exact h1
     ·rw [hs0] at h1; cases h1
     ·rw [hs'] at h2; cases h2
      rw [annAt_frz] at ha
      exfalso
      cases hq:annAt o3 p<;>rw [hq] at ha<;>simp [Ann.frz] at ha
    have hs:look env s=.loc T0 oa x0:=by rw [←hsame]; exact hs'
    obtain ⟨ob',hf,hC',vs,hvs,hF⟩:=pub_rep hC hv hp
    obtain ⟨g,cap,cur,e',fz,k1,k2,kf,k3,k4⟩:=store_elemL hC' hs' ha hg hpure hj hu hx1 hF
    have k1:headAt w a.tmps env s p=some (.slice (some ⟨g,0,none⟩) xs.length cap):=by
     simp only [headAt,hs] ; simp only [headAt,hs'] at k1; exact k1
    obtain ⟨_,h',g',m,c,m1,m2,m3,m4,m5⟩:=hr
    simp only [heldAt,hs,ha,hg,Option.some.injEq] at m1; subst m1
    rw [k1] at m2
    simp only [Option.some.injEq,Value.slice.injEq,Addr.mk.injEq] at m2
    obtain ⟨⟨rfl,_⟩,_⟩:=m2
    refine wp_none hdn (run_store ho hT m5 hvs k2 kf (Flat.len P T hF) (Flat.one P T (o:=.no) rfl hF) k3) ?_
    exact hK _ _ _ _ k4 h
   ·simp at h
  ·simp at h
 ·split at h
  ·rename_i s p hm
   split at h
   ·rename_i T0 oa x0 hs
    obtain ⟨b,hb1,hb2⟩:=locOf hC hx hm hs
    split at h
    ·rename_i hsc
     simp only [Option.bind_eq_some_iff] at h
     obtain ⟨zz,hz,z,hc,x1,hset,h⟩:=h
     have:=cast?_some hc; subst this
     obtain ⟨vs,hvs,hF⟩:=imm_rep hC hv hz
     obtain ⟨b',cur,e,k1,k2,k3,k4⟩:=store_scal hC hs hsc hset hF
     rw [hb1] at k1; cases k1
     refine wp_none hdn (run_store ho hT hb2 hvs k2 (.inl rfl) (Flat.len P T hF) (Flat.one P T (o:=.no) rfl hF) k3) ?_
     exact hK _ _ _ _ k4 h
    ·split at h
     ·rename_i wr e T1 o1 xs he
      have hrv:=ent_rep hC hv
      rw [he] at hrv
      split at h
      ·rename_i k
       simp only [Option.bind_eq_some_iff] at h
       obtain ⟨z,hz,x1,hset,h⟩:=h
       split at h
       ·simp at h
       ·rename_i hix
        have hzz:=cast?_some hz
        cases hzz
        simp only [ent] at he
        have hks:k≠s:=by rintro rfl; rw [hs] at he; cases he
        have hrv':Flat P (.sl T1) w (Gd B G0 ob) B (.own wr e o1) xs [a.tmps.getD k undef] (ob k):=by
         have:=okOd_t hv a
         rw [this] at hrv; exact hrv
        obtain ⟨b',cur,e',k1,k2,k3,ob',k4⟩:=store_into (k:=some k) (c:=ob k) (env1:=(k,.ref s p)::killR s (kill k env)) hC hs hset (fun j hj=>by cases hj; exact hks) rfl (fun hh=>by rw [hix] at hh; simp at hh) hrv' (by
          intro j hj
          by_cases hjk:k=j
          ·subst hjk
           refine .inl ⟨rfl,by rw [look_cons,if_pos rfl],rfl,?_⟩
           simp only [heldAt]; rw [look_cons,if_pos rfl]
           simp only [annAt_set p oa _ hix,setP_same p T0 hix hset,Option.isSome_some]
          ·right
           refine ⟨fun e=>hjk (by cases e; rfl),?_⟩
           rw [look_cons,if_neg hjk,look_kk]
           by_cases h1:leads k (look env j)=true
           ·rw [if_pos h1]; exact .inl ⟨rfl,k,h1⟩
           ·rw [if_neg h1]
            by_cases h2:shows s (look env j)=true
            ·rw [if_pos h2]; exact .inl ⟨rfl,s,leads_of_shows h2⟩
            ·rw [if_neg h2]
             exact .inr ⟨rfl,by simpa using h2,fun t ht=>by cases ht; simpa using h1⟩)
        rw [hb1] at k1; cases k1
        refine wp_none hdn (run_store ho hT hb2 (by rw [okOd_t hv a]; rfl) k2 (.inl rfl) rfl (own_one hrv') k3) ?_
        exact hK _ _ _ _ k4 h
      ·rename_i hnt
       simp only [Option.bind_eq_some_iff] at h
       obtain ⟨z,hz,x1,hset,h⟩:=h
       split at h
       ·simp at h
       ·rename_i hix
        have:=cast?_some hz
        cases this
        have hob:obOd ob yv=[]:=by cases yv<;>first | rfl | exact (hnt _ rfl).elim
        rw [hob] at hrv
        obtain ⟨b',cur,e',k1,k2,k3,ob',k4⟩:=store_into (k:=none) (c:=[]) (env1:=killR s env) hC hs hset (fun j hj=>by cases hj) rfl (fun hh=>by rw [hix] at hh; simp at hh) hrv (by
          intro j hj
          right
          refine ⟨by simp,?_⟩
          rw [look_killR]
          by_cases h2:shows s (look env j)=true
          ·rw [if_pos h2]; exact .inl ⟨rfl,s,leads_of_shows h2⟩
          ·rw [if_neg h2]
           exact .inr ⟨rfl,by simpa using h2,fun t ht=>by cases ht⟩)
        rw [hb1] at k1; cases k1
        refine wp_none hdn (run_store ho hT hb2 rfl k2 (.inl rfl) rfl (own_one hrv) k3) ?_
        exact hK _ _ _ _ k4 h
     ·rename_i T1 o1 x2 he
      have hrv:=ent_rep hC hv
      rw [he] at hrv
      obtain ⟨_,vs,hF,hvs⟩:=hrv
      simp only [Option.bind_eq_some_iff] at h
      obtain ⟨z,hz,x1,hset,h⟩:=h
      split at h
      ·simp at h
      ·rename_i hix
       simp only [Bool.or_eq_false_iff,Bool.not_eq_false'] at hix
       have:=cast?_some hz
       cases this
       obtain ⟨b',cur,e',k1,k2,k3,ob',k4⟩:=store_into (k:=none) (c:=[]) (env1:=killR s env) hC hs hset (fun j hj=>by cases hj) rfl (fun hh=>by rw [hix.1] at hh; simp at hh) hF (by
         intro j hj
         right
         refine ⟨by simp,?_⟩
         rw [look_killR]
         by_cases h2:shows s (look env j)=true
         ·rw [if_pos h2]; exact .inl ⟨rfl,s,leads_of_shows h2⟩
         ·rw [if_neg h2]
          exact .inr ⟨rfl,by simpa using h2,fun t ht=>by cases ht⟩)
       rw [hb1] at k1; cases k1
       exact wp_none hdn (run_store ho hT hb2 hvs k2 (.inl rfl) (Flat.len P _ hF) (Flat.one P _ hix.2 hF) k3) (hK _ _ _ _ k4 h)
     ·simp only [Option.bind_eq_some_iff] at h
      obtain ⟨⟨env',zz⟩,hp,z,hz,h⟩:=h
      have:=cast?_some hz; cases this
      split at h
      ·rename_i T2 o2 x2 hs2
       simp only [Option.bind_eq_some_iff] at h
       obtain ⟨x1,hset,h⟩:=h
       obtain ⟨ob',hf,hC',vs,hvs,hF⟩:=pub_rep hC hv hp
       have hT2:T2=T0:=by
        simp only at hs2
        rcases pub_fz hp s with h3 | ⟨wr,ed,T',o',xs',h4,h3⟩ | ⟨T',o',x',h4,h3⟩
        ·rw [hs,hs2] at h3; cases h3; rfl
        ·rw [hs] at h4; cases h4
        ·rw [hs] at h4; rw [hs2] at h3; cases h4; cases h3; rfl
       subst hT2
       split at h
       ·rename_i hpu
        obtain ⟨b',cur,e',k1,k2,k3,k4⟩:=store_pure hC' hs2 hpu hset hF
        rw [hb1] at k1; cases k1
        refine wp_none hdn (run_store ho hT hb2 hvs k2 (.inl rfl) (Flat.len P T hF) (Flat.one P T (o:=.no) rfl hF) k3) ?_
        exact hK _ _ _ _ k4 h
       obtain ⟨b',cur,e',k1,k2,k3,ob2,k4⟩:=store_into (k:=none) (c:=[]) (o2:=.no) (env1:=killR s env') hC' hs2 hset (fun j hj=>by cases hj) rfl (fun _=>rfl) hF (by
         intro j hj
         right
         refine ⟨by simp,?_⟩
         rw [look_killR]
         by_cases h2:shows s (look env' j)=true
         ·rw [if_pos h2]; exact .inl ⟨rfl,s,leads_of_shows h2⟩
         ·rw [if_neg h2]
          exact .inr ⟨rfl,by simpa using h2,fun t ht=>by cases ht⟩)
       rw [hb1] at k1; cases k1
       refine wp_none hdn (run_store ho hT hb2 hvs k2 (.inl rfl) (Flat.len P T hF) (Flat.one P T (o:=.no) rfl hF) k3) ?_
       exact hK _ _ _ _ k4 h
      ·simp at h
   ·simp at h
  ·simp at h
def boolTy (P:Program) (t:TypeId):Bool:=match P.underlying t with | some .bool=>true | _=>false
theorem run_equalIn_bool (d:Nat) {t:TypeId} (ht:P.underlying t=some .bool) (p q:Bool):(Op.equalIn (d+1) t (.bool p) (.bool q)).run P w=.ok (p==q) w:=by
 simp only [Op.equalIn,Sem.run_bind,run_underlying ht,Result.andThen_ok]
 rfl
theorem run_equal_bool {t:TypeId} (ht:P.underlying t=some .bool) (p q:Bool):(Op.equal t (.bool p) (.bool q)).run P w=.ok (p==q) w:=run_equalIn_bool 9999 ht p q
theorem run_eqBool {t:TypeId} {x y:Operand} (ht:P.underlying t=some .bool) (neg:Bool) (p q:Bool):
  ((do eqGuard (if neg then .neq else .eql) t x y (.bool p) (.bool q); binOp (if neg then .neq else .eql) t (.bool p) (.bool q)):Sem Value).run P w=.ok (.bool (if neg then !(p==q) else p==q)) w:=by
 have h:=run_equal_bool (P:=P) (w:=w) ht p q
 cases neg with
 | true=>
   have e:binOp .neq t (.bool p) (.bool q)=(do pure (.bool (!(←Op.equal t (.bool p) (.bool q)))):Sem Value):=rfl
   have g:(eqGuard .neq t x y (.bool p) (.bool q)).run P w=.ok () w:=rfl
   simp only [if_true,Sem.run_bind,g,Result.andThen_ok,e,h]
   rfl
 | false=>
   have e:binOp .eql t (.bool p) (.bool q)=(do pure (.bool (←Op.equal t (.bool p) (.bool q))):Sem Value):=rfl
   have g:(eqGuard .eql t x y (.bool p) (.bool q)).run P w=.ok () w:=rfl
   simp only [Bool.false_eq_true,if_false,Sem.run_bind,g,Result.andThen_ok,e,h]
   rfl
theorem st_eqB {t yt:TypeId} {neg:Bool} {x y:Operand} {x' y':Od} (hC:Conc P B G0 W0 n env a.tmps w ob) (hK:KOk P B G0 W0 n a K r next) (hd:∀ k,o.dst=some k→Dst W0 n k) (hdst:i.dst=o.dst)
  (ho:o.op=.binOp (if neg then .neq else .eql) t x y yt) (hi:i.op=.eqT neg .bool x' y') (ht:boolTy P t=true) (hx:okOd x x'=true) (hy:okOd y y'=true) (h:step cl i env K=some r):o.wp P a w next Q:=by
 unfold step at h; rw [hi] at h; simp only [hdst,Option.bind_eq_some_iff] at h
 obtain ⟨s,hs,u,hu,s',hs',u',hu',f,hf,h⟩:=h
 have:=cast?_some hs'; subst this
 have:=cast?_some hu'; subst this
 obtain ⟨vs,e1,f1⟩:=imm_rep hC hx hs
 obtain ⟨us,e2,f2⟩:=imm_rep hC hy hu
 unfold Flat at f1 f2
 obtain ⟨rfl,_⟩:=f1
 obtain ⟨rfl,_⟩:=f2
 simp only [beqV,Option.some.injEq] at hf
 subst hf
 have ht':P.underlying t=some .bool:=by
  unfold boolTy at ht
  split at ht
  ·assumption
  ·simp at ht
 have e1':a.eval x=.bool s':=e1
 have e2':a.eval y=.bool u':=e2
 have hr:=run_eqBool (P:=P) (w:=w) (x:=x) (y:=y) ht' neg s' u'
 refine wp_value (v:=.bool (if neg then !(s'==u') else (s'==u'))) (w':=w) ?_ (fin0 hC hK hd (Grows.refl w) (v_bool _ _ _) h)
 have e:execOp a.eval o=(do pure (.value (←(do eqGuard (if neg then .neq else .eql) t x y (a.eval x) (a.eval y); binOp (if neg then .neq else .eql) t (a.eval x) (a.eval y)))):Sem Next):=by
  unfold execOp; rw [ho]
 rw [e,e1',e2',Sem.run_bind,hr]
 rfl
end
end Go.Fw
/- Soundness: equality of structs. -/
namespace Go.Fw
open Go Go.RowKit
mutual
def eqTy (P:Program):Nat→TypeId→Ty→Bool
 | 0,_,_=>false
 | n+1,t,T=>match P.underlying t with
   | some (.int _)=>(match T with | .int _=>true | _=>false)
   | some .bool=>(match T with | .bool=>true | _=>false)
   | some .string=>(match T with | .str=>true | _=>false)
   | some (.struct fs)=>isAggT T&&!P.stoodInHeld t&&eqFl P n fs.toList T 0
   | _=>false
def eqFl (P:Program):Nat→List Field→Ty→Nat→Bool
 | 0,_,_,_=>false
 | _+1,[],T,_=>(match T with | .unit=>true | _=>false)
 | n + 1, f :: fs, T, off => (match T with | .pair A B => !(f.name == "_") && f.offset == off && tyOk P 64 f.type A && eqTy P n f.type A && eqFl P n fs B (off + cellsN A) | _ => false)
end
section
variable {P:Program} {w:World} {G:Nat→Nat→Prop} {B:Nat}
theorem eq_ok:∀ (n:Nat),
  (∀ (d:Nat) (t:TypeId) (T:Ty) (f:den T→den T→Bool) (x y:den T) (vs us:List Value),eqTy P n t T=true→n≤d→beqV T=some f→Flat P T w G B .no x vs []→Flat P T w G B .no y us []→
   (Op.equalIn d t (asVal T vs) (asVal T us)).run P w=.ok (f x y) w)∧
  (∀ (d:Nat) (fs:List Field) (T:Ty) (off:Nat) (f:den T→den T→Bool) (x y:den T) (v1 u1 vs us:List Value),eqFl P n fs T off=true→n≤d→beqV T=some f→Flat P T w G B .no x vs []→Flat P T w G B .no y us []→
   v1.length=off→u1.length=off→(Op.eqFields d (v1++vs).toArray (u1++us).toArray fs).run P w=.ok (f x y) w):=by
 intro n
 induction n with
 | zero=>exact ⟨fun d t T f x y vs us h=>by simp [eqTy] at h,fun d fs T off f x y v1 u1 vs us h=>by simp [eqFl] at h⟩
 | succ n ih=>
   obtain ⟨ih1,ih2⟩:=ih
   refine ⟨fun d t T f x y vs us h hd hf hx hy=>?_,fun d fs T off f x y v1 u1 vs us h hd hf hx hy hv hu=>?_⟩
   ·obtain ⟨d,rfl⟩:∃ d',d=d'+1:=⟨d - 1,by omega⟩
    unfold eqTy at h
    split at h
    ·rename_i k hk
     cases T<;>first | (exfalso; simp at h; done) | skip
     unfold Flat at hx hy
     obtain ⟨rfl,_⟩:=hx
     obtain ⟨rfl,_⟩:=hy
     simp only [beqV,Option.some.injEq] at hf
     subst hf
     exact run_equalIn_int w d t _ _ x y hk
    ·rename_i hk
     cases T<;>first | (exfalso; simp at h; done) | skip
     unfold Flat at hx hy
     obtain ⟨rfl,_⟩:=hx
     obtain ⟨rfl,_⟩:=hy
     simp only [beqV,Option.some.injEq] at hf
     subst hf
     exact run_equalIn_bool' w d t x y hk
    ·rename_i hk
     cases T<;>first | (exfalso; simp at h; done) | skip
     unfold Flat at hx hy
     obtain ⟨rfl,_⟩:=hx
     obtain ⟨rfl,_⟩:=hy
     simp only [beqV,Option.some.injEq] at hf
     subst hf
     have:=run_equalIn_string (P:=P) w d t ⟨⟨x⟩⟩ ⟨⟨y⟩⟩ hk
     rw [ByteArray.toList_eq,ByteArray.toList_eq] at this
     exact this
    ·rename_i fs hk
     simp only [Bool.and_eq_true,Bool.not_eq_true'] at h
     obtain ⟨⟨h1,h2⟩,h3⟩:=h
     have e1:asVal T vs=.agg vs.toArray:=by unfold asVal; rw [if_pos h1]
     have e2:asVal T us=.agg us.toArray:=by unfold asVal; rw [if_pos h1]
     have hfo:P.fieldsOf t=fs:=by unfold Program.fieldsOf; rw [hk]
     rw [e1,e2,run_equalIn_struct w d t _ _ (by rw [hfo]; exact hk) h2,hfo]
     exact ih2 d fs.toList T 0 f x y [] [] vs us h3 (by omega) hf hx hy rfl rfl
    ·simp at h
   ·cases fs with
    | nil=>
      unfold eqFl at h
      cases T<;>first | (exfalso; simp at h; done) | skip
      simp only [beqV,Option.some.injEq] at hf
      subst hf
      simp [Op.eqFields]
    | cons g fs=>
      unfold eqFl at h
      cases T<;>first | (exfalso; simp at h; done) | skip
      rename_i A C
      simp only [Bool.and_eq_true,Bool.not_eq_true',beq_iff_eq] at h
      obtain ⟨⟨⟨⟨h1,h2⟩,h3⟩,h4⟩,h5⟩:=h
      unfold Flat at hx hy
      obtain ⟨p1,p2,b1,b2,rfl,hob,hx1,hx2⟩:=hx
      obtain ⟨q1,q2,c1,c2,rfl,hoc,hy1,hy2⟩:=hy
      obtain ⟨rfl,rfl⟩:=List.append_eq_nil_iff.1 hob.symm
      obtain ⟨rfl,rfl⟩:=List.append_eq_nil_iff.1 hoc.symm
      simp only [beqV] at hf
      split at hf
      case h_2=>simp at hf
      rename_i fA fC hfA hfC
      simp only [Option.some.injEq] at hf
      subst hf
      have hT:TyR P g.type A:=⟨⟨64,h3⟩⟩
      have l1:=Flat.len P A hx1
      have l2:=Flat.len P A hy1
      have r1:=run_partT hT w (v1:=v1) (v3:=p2) l1
      have r2:=run_partT hT w (v1:=u1) (v3:=q2) l2
      rw [hv,List.append_assoc,←h2] at r1
      rw [hu,List.append_assoc,←h2] at r2
      have r3:=ih1 d g.type A fA x.1 y.1 p1 q1 h4 (by omega) hfA hx1 hy1
      have hne : g.name ≠ "_" := by intro e; rw [e] at h1; simp at h1
      simp only [Op.eqFields,if_pos hne,Sem.run_bind,r1,r2,r3,Result.andThen_ok,Sem.run_ite,Sem.run_pure]
      by_cases hb:fA x.1 y.1=true
      ·rw [hb]
       simp only [Bool.not_true,Bool.false_eq_true,if_false,Bool.true_and]
       have:=ih2 d fs C (off+cellsN A) fC x.2 y.2 (v1++p1) (u1++q1) p2 q2 h5 (by omega) hfC hx2 hy2 (by simp [hv,l1]) (by simp [hu,l2])
       rw [List.append_assoc,List.append_assoc] at this
       exact this
      ·have hb':fA x.1 y.1=false:=by simpa using hb
       rw [hb']; simp
def eqStr (P:Program) (t:TypeId) (T:Ty):Bool:=isAggT T&&eqTy P 64 t T&&!P.eqGuardType P.depth t
theorem run_eqStr {t:TypeId} {T:Ty} {x y:Operand} {f:den T→den T→Bool} {p q:den T} {vs us:List Value} (h:eqStr P t T=true) (hf:beqV T=some f) (hx:Flat P T w G B .no p vs []) (hy:Flat P T w G B .no q us []) (neg:Bool):
  (do eqGuard (if neg then .neq else .eql) t x y (asVal T vs) (asVal T us); binOp (if neg then .neq else .eql) t (asVal T vs) (asVal T us):Sem Value).run P w=.ok (.bool (if neg then !f p q else f p q)) w:=by
 simp only [eqStr,Bool.and_eq_true,Bool.not_eq_true'] at h
 obtain ⟨⟨h1,h2⟩,h3⟩:=h
 have he:=(eq_ok (P:=P) (w:=w) (G:=G) (B:=B) 64).1 10000 t T f p q vs us h2 (by decide) hf hx hy
 have e1:asVal T vs=.agg vs.toArray:=by unfold asVal; rw [if_pos h1]
 have e2:asVal T us=.agg us.toArray:=by unfold asVal; rw [if_pos h1]
 rw [e1,e2] at he ⊢
 cases neg with
 | true=>simp only [if_true,Sem.run_bind,run_eqGuard_agg w .neq t x y _ _ h3,Result.andThen_ok,run_neq_struct,he]
 | false=>simp only [Bool.false_eq_true,if_false,Sem.run_bind,run_eqGuard_agg w .eql t x y _ _ h3,Result.andThen_ok,run_eql_struct,he]
end
section
variable {P:Program} {B:Nat} {G0:Nat→Nat→Prop} {W0:Base} {n:Nat} {env:Env} {a:Act} {w:World} {ob:Nat→OB} {cl:Cal}
variable {R:Type} {K:Kont R} {r:R} {next:Act→World→Prop} {Q:Exit→Act→World→Prop} {o:Oper} {i:AI}
theorem st_eqS {t yt:TypeId} {T:Ty} {neg:Bool} {x y:Operand} {x' y':Od} (hC:Conc P B G0 W0 n env a.tmps w ob) (hK:KOk P B G0 W0 n a K r next) (hd:∀ k,o.dst=some k→Dst W0 n k) (hdst:i.dst=o.dst)
  (ho:o.op=.binOp (if neg then .neq else .eql) t x y yt) (hi:i.op=.eqT neg T x' y') (ht:eqStr P t T=true) (hx:okOd x x'=true) (hy:okOd y y'=true) (h:step cl i env K=some r):o.wp P a w next Q:=by
 unfold step at h; rw [hi] at h; simp only [hdst,Option.bind_eq_some_iff] at h
 obtain ⟨s,hs,u,hu,s',hs',u',hu',f,hf,h⟩:=h
 have:=cast?_some hs'; subst this
 have:=cast?_some hu'; subst this
 obtain ⟨vs,e1,f1⟩:=imm_rep hC hx hs
 obtain ⟨us,e2,f2⟩:=imm_rep hC hy hu
 have hr:=run_eqStr (x:=x) (y:=y) ht hf f1 f2 neg
 refine wp_value (v:=.bool (if neg then !f s' u' else f s' u')) (w':=w) ?_ (fin0 hC hK hd (Grows.refl w) (v_bool _ _ _) h)
 have e:execOp a.eval o=(do pure (.value (←(do eqGuard (if neg then .neq else .eql) t x y (a.eval x) (a.eval y); binOp (if neg then .neq else .eql) t (a.eval x) (a.eval y)))):Sem Next):=by
  unfold execOp; rw [ho]
 rw [e,e1,e2,Sem.run_bind,hr]
 rfl
end
end Go.Fw
/- Contracts of functions, put into what calls answer; keeps of environments. -/
namespace Go.Fw
open Go Go.RowKit
theorem Cal.ext' {a b:Cal} (h:∀ f es,a.run f es=b.run f es):a=b:=by
 obtain ⟨r1,k1,e1⟩:=a
 obtain ⟨r2,k2,e2⟩:=b
 have:r1=r2:=by funext f es; exact h f es
 subst this
 have: @k1=@k2:=by funext R f es k; rw [e1,e2]
 subst this
 rfl
structure Ctr where
 A:Type
 B:Type
 f:FuncId
 enc:A→List E
 dec:List E→Option A
 S:A→Option B
 ent:B→List E
 ok:∀ es a,dec es=some a→es=enc a
def Ctr.holds (c:Ctr) (cl:Cal):Prop:=∀ a,cl c.f (c.enc a)=(c.S a).bind fun b=>some (c.ent b)
def Cal.put (cl:Cal) (c:Ctr):Cal where
 run f es:=match Nat.decEq f c.f with
  | .isTrue _=>(match c.dec es with | some a=>(c.S a).bind fun b=>some (c.ent b) | none=>cl f es)
  | .isFalse _=>cl f es
 runK f es k:=match Nat.decEq f c.f with
  | .isTrue _=>(match c.dec es with | some a=>(c.S a).bind fun b=>k (c.ent b) | none=>cl.runK f es k)
  | .isFalse _=>cl.runK f es k
 eqn f es k:=by
  cases Nat.decEq f c.f with
  | isFalse _=>exact cl.eqn f es k
  | isTrue _=>
    simp only
    cases c.dec es with
    | none=>exact cl.eqn f es k
    | some a=>simp only [Option.bind_assoc,Option.bind_some]
theorem put_eq {c:Ctr} {cl:Cal} (h:c.holds cl):cl.put c=cl:=by
 apply Cal.ext'
 intro f es
 simp only [Cal.put]
 cases Nat.decEq f c.f with
 | isFalse _=>rfl
 | isTrue hf=>
   simp only
   cases hd:c.dec es with
   | none=>rfl
   | some a=>
     have:=c.ok es a hd
     subst this; subst hf
     exact (h a).symm
theorem acall_succ {tb:Table} {pr:Prims} {N D:Nat} {f:FuncId} {fd:FD} {es:List E} (hp:pr f=none) (hu:headUnd es=false) (ht:tb f=some fd) (hl:es.length=fd.nargs) (hd:(fd.lend==headLoc es)=true):
  acall tb pr N (D+1) f es=exec (acall tb pr N D) N fd.body (params 0 es) (retK fd):=by
 show (match pr f with
  | some p=>p es
  | none=>match headUnd es with
    | true=>none
    | false=>match tb f with
      | some fd=>match Nat.decEq es.length fd.nargs with
        | .isTrue _=>(match fd.lend==headLoc es with
          | true=>exec (acall tb pr N D) N fd.body (params 0 es) (retK fd)
          | false=>none)
        | .isFalse _=>none
      | none=>none)=_
 rw [hp,hu,ht]
 simp only
 cases Nat.decEq es.length fd.nargs with
 | isTrue _=>simp only [hd]
 | isFalse h=>exact absurd hl h
theorem acall_prim {tb:Table} {pr:Prims} {N D:Nat} {f:FuncId} {p:List E→Option (List E)} {es:List E} (hp:pr f=some p):acall tb pr N (D+1) f es=p es:=by
 show (match pr f with
  | some p=>p es
  | none=>match headUnd es with
    | true=>none
    | false=>match tb f with
      | some fd=>match Nat.decEq es.length fd.nargs with
        | .isTrue _=>(match fd.lend==headLoc es with
          | true=>exec (acall tb pr N D) N fd.body (params 0 es) (retK fd)
          | false=>none)
        | .isFalse _=>none
      | none=>none)=_
 rw [hp]
def decV (T:Ty):E→Option (den T)
 | .v T' x=>cast? T ⟨T',x⟩
 | _=>none
def decA (T:Ty):E→Option (den T)
 | .at T' x=>cast? T ⟨T',x⟩
 | _=>none
theorem cast_some {T:Ty} {y:TV} {x:den T} (h:cast? T y=some x):y=⟨T,x⟩:=by
 obtain ⟨T',z⟩:=y
 unfold cast? at h
 split at h
 ·rename_i hT
  simp only at hT
  subst hT
  simp only [Option.some.injEq] at h
  subst h; rfl
 ·simp at h
theorem decV_some {T:Ty} {e:E} {x:den T} (h:decV T e=some x):e=.v T x:=by
 cases e<;>simp only [decV] at h<;>first | (exfalso; simp at h; done) | (have:=cast_some h; cases this; rfl)
theorem decA_some {T:Ty} {e:E} {x:den T} (h:decA T e=some x):e=.at T x:=by
 cases e<;>simp only [decA] at h<;>first | (exfalso; simp at h; done) | (have:=cast_some h; cases this; rfl)
theorem brB_ite {α:Type} (b:Bool) (x y:α):brB b x y=if b then x else y:=by cases b<;>rfl
def loopK {R:Type} (live:List Nat) (body:Env→KE R→Option R) (K:KE R) (m:Nat):KE R:=fun e env=>match e with
 | .normal=>iter live body K m (keep live env)
 | .exit id=>K (.exit id) env
 | .ret=>K .ret env
theorem iter_succ {R:Type} (live:List Nat) (body:Env→KE R→Option R) (K:KE R) (m:Nat) (env:Env):iter live body K (m+1) env=body env (loopK live body K m):=Eq.trans rfl rfl
theorem iter_zero {R:Type} (live:List Nat) (body:Env→KE R→Option R) (K:KE R) (env:Env):iter live body K 0 env=none:=Eq.trans rfl rfl
theorem loopK_normal {R:Type} (live:List Nat) (body:Env→KE R→Option R) (K:KE R) (m:Nat) (env:Env):loopK live body K m .normal env=iter live body K m (keep live env):=Eq.trans rfl rfl
theorem loopK_exit {R:Type} (live:List Nat) (body:Env→KE R→Option R) (K:KE R) (m id:Nat) (env:Env):loopK live body K m (.exit id) env=K (.exit id) env:=Eq.trans rfl rfl
theorem loopK_ret {R:Type} (live:List Nat) (body:Env→KE R→Option R) (K:KE R) (m:Nat) (env:Env):loopK live body K m .ret env=K .ret env:=Eq.trans rfl rfl
theorem seqK_normal {R:Type} (y:Env→Option R) (K:KE R) (env:Env):seqK y K .normal env=y env:=Eq.trans rfl rfl
theorem seqK_exit {R:Type} (y:Env→Option R) (K:KE R) (id:Nat) (env:Env):seqK y K (.exit id) env=K (.exit id) env:=Eq.trans rfl rfl
theorem seqK_ret {R:Type} (y:Env→Option R) (K:KE R) (env:Env):seqK y K .ret env=K .ret env:=Eq.trans rfl rfl
theorem blockK_normal {R:Type} (id:Nat) (K:KE R) (env:Env):blockK id K .normal env=K .normal env:=Eq.trans rfl rfl
theorem blockK_ret {R:Type} (id:Nat) (K:KE R) (env:Env):blockK id K .ret env=K .ret env:=Eq.trans rfl rfl
theorem blockK_eq {R:Type} (id:Nat) (K:KE R) (env:Env):blockK id K (.exit id) env=K .normal env:=by
 unfold blockK; simp only
 cases Nat.decEq id id with
 | isTrue _=>rfl
 | isFalse h=>exact absurd rfl h
theorem blockK_ne {R:Type} (id j:Nat) (h:Nat.beq j id=false) (K:KE R) (env:Env):blockK id K (.exit j) env=K (.exit j) env:=by
 unfold blockK; simp only
 cases Nat.decEq j id with
 | isTrue e=>subst e; rw [Nat.beq_refl] at h; cases h
 | isFalse _=>rfl
section
variable {cl:Cal} {N:Nat} {R:Type} (env:Env) (K:KE R)
theorem exec_skip:exec cl N .skip env K=K .normal env:=Eq.trans rfl rfl
theorem exec_ret:exec cl N .ret env K=K .ret env:=Eq.trans rfl rfl
theorem exec_exit (id:Nat):exec cl N (.exit id) env K=K (.exit id) env:=Eq.trans rfl rfl
theorem exec_seq (a b:AC):exec cl N (.seq a b) env K=exec cl N a env (seqK (fun env=>exec cl N b env K) K):=Eq.trans rfl rfl
theorem exec_out (l:List Nat) (b:AC):exec cl N (.out l b) env K=exec cl N b env (fun e env=>K e (keep l env)):=Eq.trans rfl rfl
theorem exec_block (id:Nat) (b:AC):exec cl N (.block id b) env K=exec cl N b env (blockK id K):=Eq.trans rfl rfl
theorem exec_loop (l:List Nat) (b:AC):exec cl N (.loop l b) env K=iter l (fun env K=>exec cl N b env K) K N (keep l env):=Eq.trans rfl rfl
theorem exec_cond' (c:Od) (x y:AC):exec cl N (.cond c x y) env K=(boolOf? (ent env c)).bind fun q=>brB q (exec cl N x env K) (exec cl N y env K):=Eq.trans rfl rfl
theorem exec_cond (c:Od) (x y:AC) (b:Bool) (h:boolOf? (ent env c)=some b):exec cl N (.cond c x y) env K=brB b (exec cl N x env K) (exec cl N y env K):=by
 show (boolOf? (ent env c)).bind (fun q=>brB q (exec cl N x env K) (exec cl N y env K))=_
 rw [h]; rfl
end
theorem brB_true {α:Type} (x y:α):brB true x y=x:=Eq.trans rfl rfl
theorem brB_false {α:Type} (x y:α):brB false x y=y:=Eq.trans rfl rfl
theorem bind_brB {α β:Type} (b:Bool) (x y:Option α) (h:α→Option β):(brB b x y).bind h=brB b (x.bind h) (y.bind h):=by cases b<;>rfl
theorem bind_ite {α β:Type} (c:Prop) [Decidable c] (x y:Option α) (h:α→Option β):(if c then x else y).bind h=if c then x.bind h else y.bind h:=by split<;>rfl
theorem bind_none' {α β:Type} (h:α→Option β):(none:Option α).bind h=none:=rfl
theorem bind_some' {α β:Type} (a:α) (h:α→Option β):(some a).bind h=h a:=rfl
def Ctr.prim (c:Ctr):List E→Option (List E):=fun es=>(c.dec es).bind fun a=>(c.S a).bind fun b=>some (c.ent b)
theorem prim_holds {tb:Table} {pr:Prims} {N D:Nat} {c:Ctr} (hp:pr c.f=some c.prim) (hd:∀ a,c.dec (c.enc a)=some a):c.holds (acall tb pr N (D+1)):=by
 intro a
 rw [acall_prim hp]
 simp only [Ctr.prim,hd,Option.bind_some]
def dec0:List E→Option Unit
 | []=>some ()
 | _=>none
def decC {A B:Type} (d:E→Option A) (r:List E→Option B):List E→Option (A×B)
 | []=>none
 | e::es=>match d e,r es with
   | some a,some b=>some (a,b)
   | _,_=>none
theorem dec0_some {es:List E} {a:Unit} (h:dec0 es=some a):es=[]:=by
 cases es<;>simp [dec0] at h; rfl
theorem decC_some {A B:Type} {d:E→Option A} {r:List E→Option B} {es:List E} {q:A×B} (h:decC d r es=some q):∃ e es',es=e::es'∧d e=some q.1∧r es'=some q.2:=by
 cases es with
 | nil=>simp [decC] at h
 | cons e es=>
   simp only [decC] at h
   split at h
   ·rename_i a b ha hb; cases h; exact ⟨e,es,rfl,ha,hb⟩
   ·simp at h
theorem decV_cons {T:Ty} {B:Type} {r:List E→Option B} {enc:B→List E} (hr:∀ es b,r es=some b→es=enc b) (es:List E) (q:den T×B) (h:decC (decV T) r es=some q):es=.v T q.1::enc q.2:=by
 obtain ⟨e,es',rfl,h1,h2⟩:=decC_some h
 rw [decV_some h1,hr _ _ h2]
theorem decA_cons {T:Ty} {B:Type} {r:List E→Option B} {enc:B→List E} (hr:∀ es b,r es=some b→es=enc b) (es:List E) (q:den T×B) (h:decC (decA T) r es=some q):es=.at T q.1::enc q.2:=by
 obtain ⟨e,es',rfl,h1,h2⟩:=decC_some h
 rw [decA_some h1,hr _ _ h2]
def decN {B:Type} (r:List E→Option B):List E→Option B
 | .dead::es=>r es
 | _=>none
theorem decN_cons {B:Type} {r:List E→Option B} {enc:B→List E} (hr:∀ es b,r es=some b→es=enc b) (es:List E) (q:B) (h:decN r es=some q):es=.dead::enc q:=by
 unfold decN at h
 split at h
 ·rw [hr _ _ h]
 ·cases h
def annEq:Ann→Ann→Bool
 | .no,.no=>true
 | .hole,.hole=>true
 | .own w e o,.own w' e' o'=>(match w,w' with | true,true=>true | false,false=>true | _,_=>false)&&Nat.beq e e'&&annEq o o'
 | .pair a b,.pair a' b'=>annEq a a'&&annEq b b'
 | _,_=>false
theorem annEq_eq:∀ {a b:Ann},annEq a b=true→a=b
 | .no,.no,_=>rfl
 | .hole,.hole,_=>rfl
 | .own w e o,.own w' e' o',h=>by
   simp only [annEq,Bool.and_eq_true] at h
   obtain ⟨⟨h1,h2⟩,h3⟩:=h
   have h2:=Nat.eq_of_beq_eq_true h2
   have h3:=annEq_eq h3
   subst h2; subst h3
   cases w<;>cases w'<;>simp_all
 | .pair a b,.pair a' b',h=>by
   simp only [annEq,Bool.and_eq_true] at h
   rw [annEq_eq h.1,annEq_eq h.2]
 | .no,.hole,h | .no,.own ..,h | .no,.pair ..,h | .hole,.no,h | .hole,.own ..,h | .hole,.pair ..,h | .own ..,.no,h | .own ..,.hole,h | .own ..,.pair ..,h | .pair ..,.no,h | .pair ..,.hole,h | .pair ..,.own ..,h=>by simp [annEq] at h
def decL (o:Ann) (T:Ty):E→Option (den T)
 | .loc T' o' x=>(match annEq o' o with | true=>cast? T ⟨T',x⟩ | false=>none)
 | _=>none
theorem decL_some {o:Ann} {T:Ty} {e:E} {x:den T} (h:decL o T e=some x):e=.loc T o x:=by
 unfold decL at h
 split at h
 ·split at h
  ·rename_i ho
   have:=annEq_eq ho
   subst this
   have:=cast_some h; cases this; rfl
  ·cases h
 ·cases h
theorem decL_cons {o:Ann} {T:Ty} {B:Type} {r:List E→Option B} {enc:B→List E} (hr:∀ es b,r es=some b→es=enc b) (es:List E) (q:den T×B) (h:decC (decL o T) r es=some q):es=.loc T o q.1::enc q.2:=by
 obtain ⟨e,es',rfl,h1,h2⟩:=decC_some h
 rw [decL_some h1,hr _ _ h2]
def decX (T:Ty):E→Option (den T)
 | .loc T' _ x=>cast? T ⟨T',x⟩
 | _=>none
def decW (e:TypeId) (T:Ty):List E→Option (den (.sl T)×Unit)
 | [.und,.own true e' T' .no xs]=>if e'=e then (cast? (.sl T) ⟨.sl T',xs⟩).bind fun xs=>some (xs,()) else none
 | _=>none
theorem decW_some {e:TypeId} {T:Ty} (es:List E) (q:den (.sl T)×Unit) (h:decW e T es=some q):es=[.und,.own true e T .no q.1]:=by
 unfold decW at h
 split at h
 ·split at h
  ·rename_i he
   subst he
   obtain ⟨y,hy,h⟩:=Option.bind_eq_some_iff.1 h
   cases h
   have:=cast_some hy
   cases this; rfl
  ·cases h
 ·cases h
def decH (e:TypeId) (T A C:Ty):List E→Option (den (.sl T)×(den (.fn A C)×Unit))
 | [.und,.own true e' T' .no xs,.v F g]=>if e'=e then (cast? (.sl T) ⟨.sl T',xs⟩).bind fun xs=>(cast? (.fn A C) ⟨F,g⟩).bind fun g=>some (xs,(g,())) else none
 | _=>none
theorem decH_some {e:TypeId} {T A C:Ty} (es:List E) (q:den (.sl T)×(den (.fn A C)×Unit)) (h:decH e T A C es=some q):es=[.und,.own true e T .no q.1,.v (.fn A C) q.2.1]:=by
 unfold decH at h
 split at h
 ·split at h
  ·rename_i he
   subst he
   obtain ⟨y,hy,h⟩:=Option.bind_eq_some_iff.1 h
   obtain ⟨z,hz,h⟩:=Option.bind_eq_some_iff.1 h
   cases h
   have:=cast_some hy
   cases this
   have:=cast_some hz
   cases this; rfl
  ·cases h
 ·cases h
def decSW (t e:TypeId):List E→Option (List UInt8×(List UInt8×Unit))
 | [.und,.sb t' e' s,.v .str x]=>if t'=t∧e'=e then some (s,(x,())) else none
 | _=>none
theorem decSW_some {t e:TypeId} (es:List E) (q:List UInt8×(List UInt8×Unit)) (h:decSW t e es=some q):es=[.und,.sb t e q.1,.v .str q.2.1]:=by
 unfold decSW at h
 split at h
 ·split at h
  ·rename_i he; obtain ⟨rfl,rfl⟩:=he; cases h; rfl
  ·cases h
 ·cases h
def decSS (t e:TypeId):List E→Option (List UInt8×Unit)
 | [.und,.sb t' e' s]=>if t'=t∧e'=e then some (s,()) else none
 | _=>none
theorem decSS_some {t e:TypeId} (es:List E) (q:List UInt8×Unit) (h:decSS t e es=some q):es=[.und,.sb t e q.1]:=by
 unfold decSS at h
 split at h
 ·split at h
  ·rename_i he; obtain ⟨rfl,rfl⟩:=he; cases h; rfl
  ·cases h
 ·cases h
theorem recC_o {n:FuncId} {fd:FD} {N:Nat} {base:Cal} {f:FuncId} (h:Nat.beq f n=false) (m:Nat) (es:List E):(recC n fd N base m).run f es=base.run f es:=by
 cases m with
 | zero=>rfl
 | succ m=>
   show (match Nat.decEq f n with
    | .isTrue _=>(match headUnd es with
      | true=>none
      | false=>match Nat.decEq es.length fd.nargs with
        | .isTrue _=>(match fd.lend==headLoc es with
          | true=>exec (recC n fd N base m) N fd.body (params 0 es) (retK fd)
          | false=>none)
        | .isFalse _=>none)
    | .isFalse _=>base.run f es)=_
   cases Nat.decEq f n with
   | isTrue e=>subst e; rw [Nat.beq_refl] at h; cases h
   | isFalse _=>rfl
theorem recC_s {n:FuncId} {fd:FD} {N:Nat} {base:Cal} {m:Nat} {es:List E} (hu:headUnd es=false) (hl:es.length=fd.nargs) (hd:(fd.lend==headLoc es)=true):(recC n fd N base (m+1)).run n es=exec (recC n fd N base m) N fd.body (params 0 es) (retK fd):=by
 have key:∀ f:FuncId,f=n→(recC n fd N base (m+1)).run f es=exec (recC n fd N base m) N fd.body (params 0 es) (retK fd):=by
  intro f hf
  show (match Nat.decEq f n with
   | .isTrue _=>(match headUnd es with
     | true=>none
     | false=>match Nat.decEq es.length fd.nargs with
       | .isTrue _=>(match fd.lend==headLoc es with
         | true=>exec (recC n fd N base m) N fd.body (params 0 es) (retK fd)
         | false=>none)
       | .isFalse _=>none)
   | .isFalse _=>base.run f es)=_
  cases Nat.decEq f n with
  | isFalse e=>exact absurd hf e
  | isTrue _=>
    simp only [hu]
    cases Nat.decEq es.length fd.nargs with
    | isTrue _=>simp only [hd]
    | isFalse h=>exact absurd hl h
 exact key n rfl
theorem recC_holds {n:FuncId} {fd:FD} {N:Nat} {base:Cal} {c:Ctr} (h:Nat.beq c.f n=false) (hc:c.holds base) (m:Nat):c.holds (recC n fd N base m):=fun a=>(recC_o h m _).trans (hc a)
end Go.Fw
/- Facts of closed calls, so that a call is run piece by piece. -/
namespace Go.Fw
open Go Go.RowKit
def eqLF {α:Type} (f:α→α→Bool):List α→List α→Bool
 | [],[]=>true
 | x::xs,y::ys=>f x y&&eqLF f xs ys
 | _,_=>false
theorem eqLF_eq {α:Type} {f:α→α→Bool} (h:∀ x y,f x y=true→x=y):∀ {xs ys:List α},eqLF f xs ys=true→xs=ys
 | [],[],_=>rfl
 | x::xs,y::ys,e=>by
   simp only [eqLF,Bool.and_eq_true] at e
   rw [h x y e.1,eqLF_eq h e.2]
 | [],_::_,e=>by simp [eqLF] at e
 | _::_,[],e=>by simp [eqLF] at e
def eqVF:(T:Ty)→den T→den T→Bool
 | .int _=>fun x y=> @decide (x=y) (Int.instDecidableEq x y)
 | .bool=>fun x y=>match x,y with | true,true=>true | false,false=>true | _,_=>false
 | .str=>eqLF fun x y=> @decide (x.toNat=y.toNat) (Nat.decEq _ _)
 | .unit=>fun _ _=>true
 | .pair A B=>fun x y=>eqVF A x.1 y.1&&eqVF B x.2 y.2
 | .sl T=>eqLF (eqVF T)
 | .arr _ T=>eqLF (eqVF T)
 | .fn _ _=>fun _ _=>false
theorem eqVF_eq:∀ (T:Ty) (x y:den T),eqVF T x y=true→x=y
 | .int _,x,y,h=>of_decide_eq_true h
 | .bool,x,y,h=>by cases x<;>cases y<;>first | rfl | (simp [eqVF] at h; done)
 | .str,x,y,h=>eqLF_eq (fun a b h=>by
   have:=of_decide_eq_true h
   exact UInt8.toNat_inj.1 this) h
 | .unit,x,y,_=>rfl
 | .pair A B,x,y,h=>by
   simp only [eqVF,Bool.and_eq_true] at h
   exact Prod.ext (eqVF_eq A _ _ h.1) (eqVF_eq B _ _ h.2)
 | .sl T,x,y,h=>eqLF_eq (eqVF_eq T) h
 | .arr _ T,x,y,h=>eqLF_eq (eqVF_eq T) h
 | .fn _ _,x,y,h=>by simp [eqVF] at h
def eqTV (x y:TV):Bool:=if h:x.1=y.1 then eqVF y.1 (h▸x.2) y.2 else false
theorem eqTV_eq {x y:TV} (h:eqTV x y=true):x=y:=by
 obtain ⟨T,x⟩:=x; obtain ⟨T',y⟩:=y
 unfold eqTV at h
 split at h
 ·rename_i e
  simp only at e
  subst e
  have h':eqVF T x y=true:=h
  rw [eqVF_eq _ _ _ h']
 ·cases h
def eqE:E→E→Bool
 | .v T x,.v T' y=>eqTV ⟨T,x⟩ ⟨T',y⟩
 | .at T x,.at T' y=>eqTV ⟨T,x⟩ ⟨T',y⟩
 | _,_=>false
theorem eqE_eq (a b:E) (h:eqE a b=true):a=b:=by
 unfold eqE at h
 split at h
 ·have:=eqTV_eq h; cases this; rfl
 ·have:=eqTV_eq h; cases this; rfl
 ·cases h
abbrev Fact:=FuncId×List E×List E
def lookF:List Fact→FuncId→List E→Option (List E)
 | [],_,_=>none
 | (g,as,rs)::r,f,es=>match Nat.decEq g f with
   | .isTrue _=>(match eqLF eqE as es with | true=>some rs | false=>lookF r f es)
   | .isFalse _=>lookF r f es
theorem lookF_mem:∀ {fs:List Fact} {f:FuncId} {es rs:List E},lookF fs f es=some rs→(f,es,rs)∈fs
 | [],_,_,_,h=>by simp [lookF] at h
 | (g,as,rs')::r,f,es,rs,h=>by
   simp only [lookF] at h
   split at h
   ·rename_i hg _
    split at h
    ·rename_i he
     simp only [Option.some.injEq] at h
     subst h; subst hg
     rw [eqLF_eq eqE_eq he]
     exact List.mem_cons_self ..
    ·exact List.mem_cons_of_mem _ (lookF_mem h)
   ·exact List.mem_cons_of_mem _ (lookF_mem h)
def withF (fs:List Fact) (cl:Cal):Cal:=⟨fun f es=>match lookF fs f es with | some rs=>some rs | none=>cl.run f es,fun f es k=>match lookF fs f es with | some rs=>k rs | none=>cl.runK f es k,fun f es k=>by
 split
 ·rfl
 ·exact cl.eqn f es k⟩
def allF (cl:Cal):List Fact→Prop
 | []=>True
 | q::r=>cl.run q.1 q.2.1=some q.2.2∧allF cl r
theorem allF_mem {cl:Cal}:∀ {fs:List Fact},allF cl fs→∀ q∈fs,cl.run q.1 q.2.1=some q.2.2
 | [],_,q,hq=>by simp at hq
 | p::r,h,q,hq=>by
   rcases List.mem_cons.1 hq with rfl | hq
   ·exact h.1
   ·exact allF_mem h.2 q hq
theorem withF_eq {fs:List Fact} {cl:Cal} (h:allF cl fs):withF fs cl=cl:=by
 apply Cal.ext'
 intro f es
 show (match lookF fs f es with | some rs=>some rs | none=>cl.run f es)=cl.run f es
 split
 ·rename_i rs hl
  exact (allF_mem h _ (lookF_mem hl)).symm
 ·rfl
theorem fact_of {tb:Table} {pr:Prims} {N D:Nat} {f:FuncId} {fd:FD} {es res:List E} (fs:List Fact) (h1:pr f=none) (hu:headUnd es=false) (h2:tb f=some fd) (h3:es.length=fd.nargs) (h4:(fd.lend==headLoc es)=true) (hf:allF (acall tb pr N D) fs)
  (hk:exec (withF fs (acall tb pr N D)) N fd.body (params 0 es) (retK fd)=some res):(acall tb pr N (D+1)).run f es=some res:=by
 have:=acall_succ (tb:=tb) (pr:=pr) (N:=N) (D:=D) (f:=f) (es:=es) h1 hu h2 h3 h4
 rw [withF_eq hf] at hk
 exact this.trans hk
end Go.Fw
/- Soundness: ranging over a text. -/
namespace Go.Fw
open Go Go.RowKit
theorem u8_lt (b:UInt8):b.toNat < 256:=b.toNat_lt
theorem decode_lt (s:ByteArray) (i:Nat):(Utf8.decode s i).1 < 2097152:=by
 have h0:=u8_lt (s.get! (i+0)); have h1:=u8_lt (s.get! (i+1)); have h2:=u8_lt (s.get! (i+2)); have h3:=u8_lt (s.get! (i+3))
 unfold Utf8.decode
 simp only [Utf8.runeError]
 repeat' split
 all_goals (simp only; omega)
section
variable {P:Program} {B:Nat} {G0:Nat→Nat→Prop} {W0:Base} {n:Nat} {env:Env} {a:Act} {w:World} {ob:Nat→OB} {tm:Array Value}
variable {R:Type} {K:Kont R} {r:R} {next:Act→World→Prop} {Q:Exit→Act→World→Prop} {o:Oper} {i:AI} {cl:Cal}
theorem run_next_some {b pos:Nat} {s:ByteArray} {ty:TypeId} (h:w.heap[b]?=some (.stringIter s pos)) (hp:pos < s.size):
  (Instr.next (.pointer (some ⟨b,0,none⟩)) true ty).run P w=.ok (.tuple #[.bool true,.int .i64 (pos:Int),.int .i32 ((Utf8.decode s pos).1:Int)]) {w with heap:=w.heap.setIfInBounds b (.stringIter s (pos+(Utf8.decode s pos).2))}:=by
 simp [Instr.next,getObj,setObj,Sem.run,h,hp,goInt]
theorem run_next_over {b pos:Nat} {s:ByteArray} {ty:TypeId} (h:w.heap[b]?=some (.stringIter s pos)) (hp:¬ pos < s.size):
  (Instr.next (.pointer (some ⟨b,0,none⟩)) true ty).run P w=.ok (.tuple #[.bool false]) w:=by
 simp [Instr.next,getObj,Sem.run,h,hp]
theorem st_rng {t:TypeId} {x:Operand} {y:Od} (hC:Conc P B G0 W0 n env a.tmps w ob) (hK:KOk P B G0 W0 n a K r next) (hd:∀ k,o.dst=some k→Dst W0 n k) (hdst:i.dst=o.dst)
  (ho:o.op=.range t x) (hi:i.op=.rng y) (ht:TyR P t .str) (hx:okOd x y=true) (h:step cl i env K=some r):o.wp P a w next Q:=by
 unfold step at h; rw [hi] at h; simp only [hdst,Option.bind_eq_some_iff] at h
 obtain ⟨s,hs,h⟩:=h
 obtain ⟨hv,hl⟩:=str_rep hC hx hs
 have hg:Grows w (w.alloc (.stringIter ⟨⟨s⟩⟩ 0)):=Grows.alloc w _
 refine wp_value (v:=.pointer (some ⟨w.heap.size,0,none⟩)) (w':=w.alloc (.stringIter ⟨⟨s⟩⟩ 0)) ?_ ?_
 ·simp [execOp,ho,hv,Instr.range,run_underlying ht.str]
 ·cases hod:o.dst with
  | none=>rw [hod] at h; exact fin0 (d:=none) (e:=.dead) hC hK (fun k hk=>by cases hk) hg (v:=undef) rfl h
  | some k=>
    rw [hod] at h
    have h2:=Conc.putG (e:=.it s 0) (v:=.pointer (some ⟨w.heap.size,0,none⟩)) (bk:=[(w.heap.size,0)]) hC (hd k hod) hg ?_ (by simp) (by simp)
    ·exact hK _ _ _ _ h2 h
    ·rw [if_neg (by simp [leads])]
     exact ⟨w.heap.size,rfl,hC.base,heap_alloc_new w _,hl,rfl⟩
theorem Conc.goOn (hC:Conc P B G0 W0 n env tm w ob) {k b:Nat} {s:List UInt8} {pos pos':Nat} (hk:look env k=.it s pos) (hb:tm.getD k undef=.pointer (some ⟨b,0,none⟩)):
  Conc P B G0 W0 n ((k,.it s pos')::env) tm {w with heap:=w.heap.setIfInBounds b (.stringIter ⟨⟨s⟩⟩ pos')} ob:=by
 have hr:=hC.rep k
 rw [hk] at hr
 obtain ⟨b',h1,h2,h3,h4,h5⟩:=hr
 rw [hb] at h1
 simp only [Value.pointer.injEq,Option.some.injEq,Addr.mk.injEq,and_true] at h1
 subst h1
 have hlow:=hC.low k b (by rw [h5]; simp)
 have other:∀ g,g≠b→(w.heap.setIfInBounds b (.stringIter ⟨⟨s⟩⟩ pos'))[g]?=w.heap[g]?:=fun g hg=>by
  rw [Array.getElem?_setIfInBounds_ne (Ne.symm hg)]
 have ncell:∀ (b' i:Nat),b'≠b→({w with heap:=w.heap.setIfInBounds b (.stringIter ⟨⟨s⟩⟩ pos')}:World).cell? ⟨b',i,none⟩=w.cell? ⟨b',i,none⟩:=fun b' i hne=>World.cell?_of_block (w:=w) (other b' hne)
 refine Conc.step hC ⟨fun j x hx=>.inl ⟨j,hx⟩,fun b' _ hn=>other b' (by rintro rfl; exact hn k (by rw [h5]; simp))⟩ ⟨rfl,rfl,rfl,by simp,fun g hg=>other g (by omega)⟩ (fun b' i _ h=>⟨h,ncell b' i ?_⟩) (fun j=>?_) hC.dist hC.nodup (fun j b' hb'=>by have:=hC.low j b' hb'; simpa using this) hC.size (fun _ _=>rfl)
 ·rintro rfl
  rcases h with ⟨h,_⟩ | ⟨_,_,h⟩
  ·exact absurd h (by omega)
  ·exact absurd (h k 0 (by rw [h5]; simp)) (by omega)
 ·by_cases hj:j=k
  ·subst hj; right
   rw [look_cons,if_pos rfl]
   exact ⟨b,hb,h2,by rw [Array.getElem?_setIfInBounds_self_of_lt (by omega)],h4,h5⟩
  ·left
   rw [look_cons,if_neg (Ne.symm hj)]
   refine ⟨rfl,rfl,rfl,fun g hg=>other g ?_,fun t ht=>?_⟩
   ·rintro rfl; exact hj (hC.dist j k _ hg (by rw [h5]; simp))
   ·by_cases htk:t=k
    ·subst htk
     have:=(ERep.leads ht (hC.rep j)).1
     rw [hk] at this; simp [E.home] at this
    ·refine HomeEq.same (P:=P) (by rw [look_cons,if_neg (Ne.symm htk)]) rfl (hC.rep t) (fun g hg=>other g ?_)
     rintro rfl; exact htk (hC.dist t k _ hg (by rw [h5]; simp))
theorem st_nxt {k:Nat} (hC:Conc P B G0 W0 n env a.tmps w ob) (hK:KOk P B G0 W0 n a K r next) (hd:∀ k,o.dst=some k→Dst W0 n k) (hdst:i.dst=o.dst)
  (ho:o.op=.next (.tmp k) true) (hi:i.op=.nxt k) (h:step cl i env K=some r):o.wp P a w next Q:=by
 unfold step at h; rw [hi] at h; simp only [hdst] at h
 have hr:=hC.rep k
 split at h
 ·rename_i s pos he
  rw [he] at hr
  obtain ⟨b,h1,h2,h3,h4,h5⟩:=hr
  have hev:a.eval (.tmp k)=.pointer (some ⟨b,0,none⟩):=h1
  have hsz:(⟨⟨s⟩⟩:ByteArray).size=s.length:=rfl
  by_cases hp:pos < s.length
  ·rw [show decide (pos < s.length)=true by simpa using hp] at h
   simp only [brB] at h
   have hrun:=run_next_some (P:=P) (ty:=o.type) h3 (by rw [hsz]; exact hp)
   refine wp_value (v:=.tuple #[.bool true,.int .i64 (pos:Int),.int .i32 ((Utf8.decode ⟨⟨s⟩⟩ pos).1:Int)]) (w':={w with heap:=w.heap.setIfInBounds b (.stringIter ⟨⟨s⟩⟩ (pos+(Utf8.decode ⟨⟨s⟩⟩ pos).2))}) ?_ ?_
   ·simp [execOp,ho,hev,hrun]
   ·have hC1:=Conc.goOn (pos':=pos+(Utf8.decode ⟨⟨s⟩⟩ pos).2) hC he h1
    have hdl:=decode_lt ⟨⟨s⟩⟩ pos
    refine fin0 (e:=.tup [.v .bool true,.v (.int .i64) (pos:Int),.v (.int .i32) ((Utf8.decode ⟨⟨s⟩⟩ pos).1:Int)]) hC1 hK hd (Grows.refl _) ⟨by simp [leads],_,rfl,?_⟩ h
    refine ⟨.bool true,[.int .i64 (pos:Int),.int .i32 ((Utf8.decode ⟨⟨s⟩⟩ pos).1:Int)],[],[],rfl,rfl,⟨rfl,[.bool true],by unfold Flat; exact ⟨rfl,rfl⟩,rfl⟩,.int .i64 (pos:Int),[.int .i32 ((Utf8.decode ⟨⟨s⟩⟩ pos).1:Int)],[],[],rfl,rfl,⟨rfl,[.int .i64 (pos:Int)],?_,rfl⟩,.int .i32 ((Utf8.decode ⟨⟨s⟩⟩ pos).1:Int),[],[],[],rfl,rfl,⟨rfl,[.int .i32 ((Utf8.decode ⟨⟨s⟩⟩ pos).1:Int)],?_,rfl⟩,rfl,rfl⟩
    ·unfold Flat
     refine ⟨rfl,?_,rfl⟩
     have:(maxLen:Int)≤9223372036854775807:=by decide
     constructor
     ·show (-9223372036854775808:Int)≤_; omega
     ·show _≤(9223372036854775807:Int); omega
    ·unfold Flat
     refine ⟨rfl,?_,rfl⟩
     constructor
     ·show (-2147483648:Int)≤_; omega
     ·show _≤(2147483647:Int); omega
  ·rw [show decide (pos < s.length)=false by simpa using hp] at h
   simp only [brB] at h
   have hrun:=run_next_over (P:=P) (ty:=o.type) h3 (by rw [hsz]; exact hp)
   refine wp_value (v:=.tuple #[.bool false]) (w':=w) (by simp [execOp,ho,hev,hrun]) ?_
   exact fin0 (e:=.tup [.v .bool false]) hC hK hd (Grows.refl _) ⟨by simp [leads],#[.bool false],rfl,.bool false,[],[],[],rfl,rfl,⟨rfl,[.bool false],by unfold Flat; exact ⟨rfl,rfl⟩,rfl⟩,rfl,rfl⟩ h
 ·simp at h
theorem st_nilck {x:Operand} {y:Od} (hC:Conc P B G0 W0 n env a.tmps w ob) (hK:KOk P B G0 W0 n a K r next) (hd:∀ k,o.dst=some k→Dst W0 n k) (hdst:i.dst=o.dst)
  (ho:o.op=.nilCheck x) (hi:i.op=.nilck y) (hx:okOd x y=true) (h:step cl i env K=some r):o.wp P a w next Q:=by
 unfold step at h; rw [hi] at h; simp only [hdst] at h
 have hr:=ent_rep hC hx
 have fin:(∃ p,a.eval x=.pointer (some p))→K (putO env o.dst (copyE y (ent env y)))=some r→o.wp P a w next Q:=by
  rintro ⟨p,hp⟩ h
  exact wp_value (v:=a.eval x) (by simp [execOp,ho,hp]) (fin_copy hC hK hx hd h)
 split at h
 ·rename_i s p he
  rw [he] at hr
  obtain ⟨_,T,oo,z,b,_,_,_,h4⟩:=hr
  exact fin ⟨_,h4⟩ h
 ·rename_i s p j q he
  rw [he] at hr
  obtain ⟨_,hh,g,m,c,_,_,_,_,h4⟩:=hr
  exact fin ⟨_,h4⟩ h
 ·rename_i T z he
  rw [he] at hr
  obtain ⟨_,b,off,vs,h4,_⟩:=hr
  exact fin ⟨_,h4⟩ h
 ·rename_i T oo z he
  rw [he] at hr
  obtain ⟨b,cur,e,ob',h4,_⟩:=hr
  exact fin ⟨_,h4⟩ h
 ·simp at h
theorem elems_ints {P:Program} {w:World} {G:Nat→Nat→Prop} {B:Nat} {k:IntKind}:∀ {xs:List Int} {cells:List Value} {ob:OB},Elems (Flat P (.int k) w G B .no) xs cells ob→cells=xs.map (Value.int k)
 | [],_,_,h=>h.1
 | x::xs,_,_,⟨v1,v2,b1,b2,e1,_,h1,h2⟩=>by
   unfold Flat at h1
   rw [e1,h1.1,elems_ints h2]; rfl
theorem ints_elems {P:Program} {w:World} {G:Nat→Nat→Prop} {B:Nat} {k:IntKind}:∀ {xs:List Int},(∀ x∈xs,inR k x)→Elems (Flat P (.int k) w G B .no) xs (xs.map (Value.int k)) []
 | [],_=>⟨rfl,rfl⟩
 | x::xs,h=>⟨[.int k x],xs.map (Value.int k),[],[],rfl,rfl,by unfold Flat; exact ⟨rfl,h x (by simp),rfl⟩,ints_elems (fun y hy=>h y (by simp [hy]))⟩
theorem st_toStr {src dst e:TypeId} {x:Operand} {y:Od} (hC:Conc P B G0 W0 n env a.tmps w ob) (hK:KOk P B G0 W0 n a K r next) (hd:∀ k,o.dst=some k→Dst W0 n k) (hdst:i.dst=o.dst)
  (ho:o.op=.convert src dst x) (hi:i.op=.toStr y) (hs:P.underlying src=some (.slice e)) (he:P.underlying e=some (.int .u8)) (ht:P.underlying dst=some .string) (hx:okOd x y=true) (h:step cl i env K=some r):o.wp P a w next Q:=by
 unfold step at h; rw [hi] at h; simp only [hdst,Option.bind_eq_some_iff] at h
 obtain ⟨z,hz,xs,hxs,h⟩:=h
 have:=cast?_some hxs; subst this
 obtain ⟨vs,e1,f1⟩:=imm_rep hC hx hz
 unfold Flat at f1
 obtain ⟨_,A,c,rfl,hle,hmx,hcells⟩:=f1
 have ev:a.eval x=.slice A xs.length c:=e1
 have hrun:(convert src dst (.slice A xs.length c)).run P w=.ok (.string ⟨⟨xs.map fun n=>UInt8.ofNat n.toNat⟩⟩) w:=by
  have key:∀ b off,A=some ⟨b,off,none⟩→(∀ j,j < xs.length→w.cell? ⟨b,off+j,none⟩=some (.int .u8 (xs.getD j 0)))→(convert src dst (.slice A xs.length c)).run P w=.ok (.string ⟨⟨xs.map fun n=>UInt8.ofNat n.toNat⟩⟩) w:=by
   rintro b off rfl hc
   rw [run_convert_bytes_arg w src e hs he b off xs.length c xs rfl hc dst ht]
   rfl
  rcases hcells with h0 | ⟨b,off,cells,hA,hel,hc⟩
  ·subst h0
   cases A with
   | none=>exact run_convert_bytes_nil w src e hs he _ _ dst ht
   | some p=>
     have e0:=run_bytesToString (P:=P) w p 0 c [] (run_loadCells_list (P:=P) w p [] (fun j v hj=>by simp at hj))
     rw [run_convert_bytes_string w src dst e _ _ _ hs he ht]
     exact e0
  ·refine key b off hA (fun j hj=>?_)
   have e2:=elems_ints hel
   subst e2
   refine (hc j (.int .u8 (xs.getD j 0)) ?_).1
   simp [List.getD,List.getElem?_eq_getElem hj]
 refine wp_value (v:=.string ⟨⟨xs.map fun n=>UInt8.ofNat n.toNat⟩⟩) (w':=w) ?_ (fin0 (e:=.v .str (xs.map fun n=>UInt8.ofNat n.toNat)) hC hK hd (Grows.refl w) ⟨rfl,[.string ⟨⟨xs.map fun n=>UInt8.ofNat n.toNat⟩⟩],by unfold Flat; exact ⟨rfl,by rw [List.length_map]; exact Nat.le_trans hle hmx,rfl⟩,rfl⟩ h)
 simp [execOp,ho,ev,hrun]
theorem st_toSl {src dst e:TypeId} {x:Operand} {y:Od} (hC:Conc P B G0 W0 n env a.tmps w ob) (hK:KOk P B G0 W0 n a K r next) (hd:∀ k,o.dst=some k→Dst W0 n k) (hdst:i.dst=o.dst)
  (ho:o.op=.convert src dst x) (hi:i.op=.toSl y) (hs:P.underlying src=some .string) (ht:P.underlying dst=some (.slice e)) (he:P.underlying e=some (.int .u8)) (hx:okOd x y=true) (h:step cl i env K=some r):o.wp P a w next Q:=by
 unfold step at h; rw [hi] at h; simp only [hdst,Option.bind_eq_some_iff] at h
 obtain ⟨s,hss,h⟩:=h
 obtain ⟨hv,hl⟩:=str_rep hC hx hss
 have hrun:=run_bytes_of_string w src dst e ⟨⟨s⟩⟩ hs ht he
 have hsz:(⟨⟨s⟩⟩:ByteArray).size=s.length:=rfl
 rw [hsz] at hrun
 generalize hcap:grownCap w s.length 0 e=cap at hrun
 have hge:s.length≤cap:=by rw [←hcap]; exact grownCap_ge w _ _ _
 have hcm:cap≤maxLen:=by rw [←hcap]; exact grownCap_le_maxLen w _ _ _ hl
 generalize hfz:((bytesRow ⟨⟨s⟩⟩ cap).size,(bytesRow ⟨⟨s⟩⟩ cap).size+1)=fz at hrun
 have hg:Grows w (w.drew.alloc (.cells (bytesRow ⟨⟨s⟩⟩ cap) e fz)):=(Grows.drew w).trans (Grows.alloc w.drew _)
 refine wp_value (v:=.slice (some ⟨w.heap.size,0,none⟩) s.length cap) (w':=w.drew.alloc (.cells (bytesRow ⟨⟨s⟩⟩ cap) e fz)) (by simp [execOp,ho,hv,hrun]) ?_
 cases hod:o.dst with
 | none=>rw [hod] at h; exact fin0 (d:=none) (e:=.dead) hC hK (fun k hk=>by cases hk) hg (v:=undef) rfl h
 | some k=>
   rw [hod] at h
   have hxl:(s.map fun b=>(b.toNat:Int)).length=s.length:=by simp
   have hrow:cap - s.length+s.length=cap:=by omega
   have hbs:(bytesRow ⟨⟨s⟩⟩ cap).size=cap:=by
    unfold bytesRow
    simp only [Array.size_append,Array.size_map,Array.size_replicate,List.size_toArray,hsz]
    omega
   have h2:=Conc.putG (e:=.own true BUF (.int .u8) .no (s.map fun b=>(b.toNat:Int))) (v:=.slice (some ⟨w.heap.size,0,none⟩) s.length cap) (bk:=[(w.heap.size,0)]) hC (hd k hod) hg ?_ (by simp) (by simp)
   ·exact hK _ _ _ _ h2 h
   ·rw [if_neg (by simp [leads])]
    show Flat P (.sl (.int .u8)) _ _ B (.own true BUF .no) (s.map fun b=>(b.toNat:Int)) [_] _
    unfold Flat
    refine ⟨_,(s.map fun b=>(b.toNat:Int)).map (Value.int .u8),[],rfl,⟨by simp [cellsN],.inr ⟨w.heap.size,cap,bytesRow ⟨⟨s⟩⟩ cap,e,fz,by rw [hxl],hC.base,heap_alloc_new w.drew _,by rw [hxl]; exact hge,hcm,by rw [hbs]; simp [cellsN],?_,fun h=>absurd rfl h,.inr (by rw [←hfz]; exact Nat.le_refl _)⟩⟩,ints_elems (fun y hy=>?_),by simp [obOf,Value.ownBlock]⟩
    ·simp only [cellsN,Nat.mul_one,hxl]
     unfold bytesRow
     simp only [Array.toList_append,Array.toList_map]
     rw [List.take_left' (by simp)]
     simp [List.map_map,Function.comp_def]
    ·obtain ⟨b,_,rfl⟩:=List.mem_map.1 hy
     have:=u8_lt b
     constructor
     ·show (0:Int)≤_; omega
     ·show _≤(255:Int); omega
end
end Go.Fw
/- Soundness: copies that are shared; calls that write a list anew. -/
namespace Go.Fw
open Go Go.RowKit
section
variable {P:Program} {B:Nat} {G0:Nat→Nat→Prop} {W0:Base} {n:Nat} {env:Env} {tm:Array Value} {a:Act} {w:World} {ob:Nat→OB} {cl:Cal}
variable {R:Type} {K:Kont R} {r:R} {next:Act→World→Prop} {Q:Exit→Act→World→Prop} {o:Oper} {i:AI}
theorem st_cp {x:Operand} {y:Od} (hC:Conc P B G0 W0 n env a.tmps w ob) (hK:KOk P B G0 W0 n a K r next) (hd:∀ k,o.dst=some k→Dst W0 n k) (hdst:i.dst=o.dst)
  (ho:o.op=.move x∨o.op=.assign x) (hi:i.op=.cp y) (hx:okOd x y=true) (h:step cl i env K=some r):o.wp P a w next Q:=by
 unfold step at h; rw [hi] at h; simp only [hdst,Option.bind_eq_some_iff] at h
 obtain ⟨⟨env',z⟩,hz,h⟩:=h
 obtain ⟨ob',hf,hC',vs,hv,hF⟩:=pub_rep hC hx hz
 refine wp_value (w':=w) (v:=a.eval x) ?_ (fin0 (e:=.v z.1 z.2) hC' hK hd (Grows.refl w) ⟨rfl,vs,hF,hv⟩ h)
 rcases ho with ho | ho<;>simp [execOp,ho]
theorem Conc.grow (hC:Conc P B G0 W0 n env tm w ob) {w':World} (hg:Grows w w') {env':Env} (he:∀ k,look env' k=look env k):Conc P B G0 W0 n env' tm w' ob:=by
 refine Conc.step hC (.less hg fun k b hb=>⟨k,hb⟩) (hg.below hC.base) (fun b i hb h=>⟨h,hg.cell hb⟩) (fun k=>.inl ⟨he k,rfl,rfl,fun g hg'=>hg.block g (hC.low k g hg').2,fun s hs=>?_⟩) hC.dist hC.nodup (fun k b hb=>⟨(hC.low k b hb).1,Nat.lt_of_lt_of_le (hC.low k b hb).2 hg.size⟩) hC.size (fun _ _=>rfl)
 exact HomeEq.same (P:=P) (he s) rfl (hC.rep s) (fun g hg'=>hg.block g (hC.low s g hg').2)
theorem own_row (hC:Conc P B G0 W0 n env tm w ob) {s:Nat} {e:TypeId} {T:Ty} {xs:List (den T)} (hs:look env s=.own true e T .no xs):
  ∃ cells,rowX w B e (cellsN T) (tm.getD s undef) xs.length cells∧Elems (Flat P T w (Gd B G0 ob) B .no) xs cells []∧ob s=obOf (tm.getD s undef) 0:=by
 have hr:=hC.rep s
 rw [hs] at hr
 change Flat P (.sl T) w (Gd B G0 ob) B (.own true e .no) xs [tm.getD s undef] (ob s) at hr
 unfold Flat at hr
 obtain ⟨v',cells,ob',e1,hrow,hel,hob⟩:=hr
 simp only [List.cons.injEq,and_true] at e1
 subst e1
 obtain ⟨hobn,hel0⟩:=Elems.pure P (o':=.no) rfl rfl hel
 subst hobn
 exact ⟨cells,hrow,hel0,by rw [hob]; simp⟩
theorem Conc.rewr (hC:Conc P B G0 W0 n env tm w ob) {s:Nat} {e:TypeId} {T:Ty} {xs ys:List (den T)} (hs:look env s=.own true e T .no xs) (hlen:ys.length=xs.length) {w':World} {cells cells':List Value}
  (hrow:rowX w B e (cellsN T) (tm.getD s undef) xs.length cells) (hob:ob s=obOf (tm.getD s undef) 0) (hl:cells'.length=cells.length) (hel:∀ (w:World) (G:Nat→Nat→Prop),Elems (Flat P T w G B .no) ys cells' [])
  (hw:Rewr w w' (tm.getD s undef) (xs.length * cellsN T) cells'):Conc P B G0 W0 n ((s,.own true e T .no ys)::env) tm w' ob:=by
 rcases hw with ⟨h1,hg,_⟩ | ⟨g,cur,e1,fz,cs,w1,hv,hg,hgr,rfl,hsz,htk⟩
 ·have hx0:xs.length=0:=by
   rcases hrow.2 with ⟨_,h⟩ | ⟨g,cap,cur,e',fz,hv,_⟩
   ·exact h
   ·rw [hv] at h1; simp [Value.ownBlock] at h1
  have hx:xs=[]:=List.length_eq_zero_iff.1 hx0
  have hy:ys=[]:=List.length_eq_zero_iff.1 (by omega)
  subst hx; subst hy
  refine Conc.grow hC hg fun k=>?_
  rw [look_cons]
  split
  ·rename_i h; subst h; exact hs.symm
  ·rfl
 ·have hg0:(g,0)∈ob s:=by rw [hob]; exact mem_obOf hv
  have hlt:g < w.heap.size:=(hC.low s g (mem_blocks.2 ⟨_,hg0⟩)).2
  have hC1:Conc P B G0 W0 n env tm w1 ob:=Conc.grow hC hgr fun _=>rfl
  refine Conc.touch hC1 hg0 cs ⟨fun q v hq hv=>?_,fun q h hq=>?_,fun T o x hx=>?_⟩ ?_
  ·simp only [headAt,hs] at hv
   simp only [headAt]; rw [look_cons,if_pos rfl]; exact hv
  ·simp only [heldAt,hs] at hq
   simp only [heldAt]; rw [look_cons,if_pos rfl]
   cases q with
   | nil=>simp only [Option.some.injEq] at hq; subst hq; exact ⟨_,rfl,rfl,hlen⟩
   | cons=>exact absurd hq (by simp)
  ·rw [hs] at hx; exact absurd hx (by simp)
  ·show Flat P (.sl T) _ (Gd B G0 ob) B (.own true e .no) ys [tm.getD s undef] (ob s)
   unfold Flat
   refine ⟨_,cells',[],rfl,⟨by rw [hl,hrow.1,hlen],?_⟩,hel _ _,by rw [hob]; simp⟩
   rcases hrow.2 with ⟨h,_⟩ | ⟨g',cap,cur',e',fz',hv',hBg,hg',hnc,hcm,hcs,htake,hbf,hfz⟩
   ·rw [h] at hv; simp [Value.ownBlock] at hv
   ·rw [hv'] at hv
    simp [Value.ownBlock] at hv
    subst hv
    rw [hg] at hg'
    cases hg'
    have hg1:w1.heap[g']?=some (.cells cur e1 fz):=by rw [hgr.block g' hlt]; exact hg
    refine .inr ⟨g',cap,cs,e1,fz,by rw [hlen]; exact hv',hBg,setRow_heap w1 g' cur _ e1 fz hg1,by rw [hlen]; exact hnc,hcm,by rw [hsz]; exact hcs,by rw [hlen]; exact htk,hbf,?_⟩
    rcases hfz with h | h
    ·exact .inl h
    ·right; rw [hsz]; exact h
theorem ownS_rep {x:Operand} {y:Od} (hC:Conc P B G0 W0 n env a.tmps w ob) (hx:okOd x y=true) {s:Nat} (hy:ownS env y=some s) {e:TypeId} {T:Ty} {o:Ann} {xs:List (den T)} {wr:Bool} (hs:look env s=.own wr e T o xs):a.eval x=a.tmps.getD s undef:=by
 cases y with
 | t k=>
   simp only [ownS] at hy
   rw [okOd_t hx a]
   split at hy
   ·cases hy; rfl
   ·rename_i s' hk
    cases hy
    have hr:=hC.rep k
    rw [hk] at hr
    obtain ⟨_,h1,_⟩:=hr
    simp only [headAt,hs,Option.some.injEq] at h1
    exact h1.symm
   ·cases hy
 | c=>simp [ownS] at hy
 | nil=>simp [ownS] at hy
 | fn=>simp [ownS] at hy
theorem Elems.scal {T:Ty} (hs:scalarT T=true) {G:Nat→Nat→Prop} (B2:Nat) (w2:World) (G2:Nat→Nat→Prop) {xs:List (den T)} {vs:List Value} (h:Elems (Flat P T w G B .no) xs vs []):Elems (Flat P T w2 G2 B2 .no) xs vs []:=
 Elems.imp (fun x v b hb hx=>by
  have:b=[]:=by cases b with | nil=>rfl | cons q r=>exact absurd (hb q (by simp)) (by simp)
  subst this
  exact (Flat.scal P T hs hx).2 _ _ _ _) h
theorem st_wrl {f:FuncId} {us:Array Operand} {ats:Array TypeId} {x:Operand} {y:Od} (hgood:Good P W0.t cl) (hC:Conc P B G0 W0 n env a.tmps w ob) (hK:KOk P B G0 W0 n a K r next) (hd:∀ k,o.dst=some k→Dst W0 n k) (hdst:i.dst=o.dst)
  (ho:o.op=.call {callee:=.value (.func f),args:=us,argTypes:=ats}) (hi:i.op=.wrl f y) (hus:us.toList=[x]) (hx:okOd x y=true) (h:step cl i env K=some r):o.wp P a w next Q:=by
 unfold step at h; rw [hi] at h; simp only [hdst,Cal.eqn,Option.bind_eq_some_iff] at h
 obtain ⟨s,hs,h⟩:=h
 split at h
 case h_2=>simp at h
 rename_i e T xs hl
 split at h
 case isFalse=>simp at h
 rename_i hb
 simp only [Bool.and_eq_true,Bool.not_eq_true',beq_eq_false_iff_ne] at hb
 simp only [Option.bind_eq_some_iff] at h
 obtain ⟨res,hres,z,hz,ys',hys,h⟩:=h
 obtain ⟨ys,rfl,hlen,hcal,hw⟩:=hgood.wr f e T xs res hres hb.1
 simp only [ownL?,Option.some.injEq] at hz
 subst hz
 have:=cast?_some hys
 cases this
 obtain ⟨cells,hrow,hel,hob⟩:=own_row hC hl
 have hev:=ownS_rep hC hx hs hl
 have hcall:=hw w B (Gd B G0 ob) _ cells hb.2 hrow hel
 have hrun:(execOp a.eval o).run P w=.ok (.enter f (us.map a.eval)) w:=by
  have:=run_callFunc hcal (us.map a.eval) w
  simp [execOp,ho,resolve,Deferred.ofValue,invoke,Act.eval,this]
 have e2:us.map a.eval=#[a.tmps.getD s undef]:=by apply Array.toList_inj.1; simp [hus,hev]
 rw [e2] at hrun
 refine wp_enter hrun (Calls.mono hcall ?_)
 rintro en w' ⟨rfl,cells',hcl,hel',hrw⟩
 have hC':=Conc.rewr hC hl hlen hrow hob hcl (fun w2 G2=>Elems.scal hb.1 B w2 G2 hel') hrw
 exact ⟨_,rfl,fin0 (e:=.tup []) hC' hK hd (Grows.refl w') ⟨by simp,#[],rfl,rfl,rfl⟩ h⟩
end
end Go.Fw
