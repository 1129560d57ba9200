/- Own work: the value machine, part 3. -/
import Derived.Test.YtooiookccchmeaaGreatFwB2
set_option linter.unusedVariables false
set_option linter.unusedSimpArgs false
open Array renaming ext' → Jc, size_setIfInBounds → pG, length_toList → w7, getElem?_eq_none → sz, getElem?_toList → iL, toList_inj → jm
open Bool renaming and_eq_true → aq, false_eq_true → dN
open List renaming length_take → pJ, length_drop → nK, getElem?_eq_some_iff → jF, getElem?_take_of_lt → sG, length_eq_one_iff → nL, append_assoc → bI, mem_append → dn, nodup_append → iP, mem_append_left → fR, mem_append_right → ik, all_cons → dy, length_cons → eD, length_append → b5, eq_nil_of_length_eq_zero → kp, getElem?_cons_zero → ij, getElem?_map → kq, size_toArray → mH, take_left → BO, getElem?_append_left → fP, getElem?_append_right → eC
open List.cons renaming injEq → gg
open Nat renaming le_refl → cE, add_zero → ky, le_trans → dV, lt_of_lt_of_le → dp, mul_le_mul_right → BP, add_mul → pL
open Ne renaming symm → bp
open Option renaming bind_eq_some_iff → aj, getD_some → pN, getD_none → Jr, bind_some → ar
open Option.some renaming injEq → av
open Prod.mk renaming injEq → er
/- Soundness, part 12: slices of slices, parts of values, several results, function literals. -/
namespace Go.Fw
open Go Go.RowKit
section
variable {P:Program} {B:Nat} {G0:Nat→Nat→Prop} {W0:cZ} {n:Nat} {env:Env} {a:Act} {w:World} {ob:Nat→OB}
variable {R:Type} {K:cH R} {r:R} {next:Act→World→Prop} {Q:Exit→Act→World→Prop} {o:Oper} {i:AI} {cl:ay}
def ey:List Operand→List Od→Bool
 | [],[]=>true
 | u::us,y::ys=>aE u y&&ey us ys
 | _,_=>false
theorem agt {T:Ty} {G:Nat→Nat→Prop} {xs:List (den T)} {A:Option Addr} {c l h m:Nat} (hF:Flat P (.sl T) w G B .no xs [.slice A xs.length c] []) (h1:l≤h) (h2:h≤m) (h3:m≤c) (h4:h≤xs.length):
  Flat P (.sl T) w G B .no ((xs.drop l).take (h - l)) [.slice (if m=l then A else A.map (·.add (l * ax T))) (h - l) (m - l)] []:=by
 unfold Flat at hF ⊢
 obtain ⟨_,A',c',e1,hc,hm,hx⟩:=hF
 simp only [gg,Value.slice.injEq,and_true] at e1
 obtain ⟨rfl,_,rfl⟩:=e1
 have hlen:((xs.drop l).take (h - l)).length=h - l:=by rw [pJ,nK]; omega
 refine ⟨rfl,_,m - l,by rw [hlen],by rw [hlen]; omega,by omega,?_⟩
 by_cases hml:m=l
 ·left
  have:h - l=0:=by omega
  rw [this]; rfl
 ·rw [if_neg hml]
  rcases hx with rfl | ⟨b,off,cells,rfl,hE,hcell⟩
  ·left; simp
  ·right
   refine ⟨b,off+l * ax T,_,by simp [kD],aJ.drop_take (fun x v b hx=>Flat.len P _ hx) l (h - l) hE,fun j v hj=>?_⟩
   have hj':=(jF.1 hj).1
   rw [pJ,nK] at hj'
   rw [sG (by omega),List.getElem?_drop] at hj
   have:=hcell _ v hj
   rw [Nat.add_assoc]
   exact this
theorem ahi {t e:TypeId} {T:Ty} {x:Operand} {y:Od} {lo hi' mx:Option Operand} {lo' hi'' mx':Option Od} (hC:ae P B G0 W0 n env a.tmps w ob) (hK:bA P B G0 W0 n a K r next) (hd:∀ k,o.dst=some k→bl W0 n k) (hdst:i.dst=o.dst)
  (ho:o.op=.slice t x lo hi' mx) (hi:i.op=.lO T y lo' hi'' mx') (hu:P.underlying t=some (.slice e)) (hT:bC P e T) (hx:aE x y=true) (hlo:jx lo lo'=true) (hhi:jx hi' hi''=true) (hmx:jx mx mx'=true) (hhm:mx.isSome=true→hi'.isSome=true)
  (h:step cl i env K=some r):o.wp P a w next Q:=by
 unfold step at h; rw [hi] at h; simp only [hdst,aj] at h
 obtain ⟨l,hl,m,hm,q,hq,⟨env',z⟩,hz,xs,hxs,h⟩:=h
 obtain ⟨ob',hf,hC',vs,hv,hF⟩:=lJ hC hx hz
 have hzz:=cI hxs
 simp only at hzz; subst hzz
 replace hF:Flat P (.sl T) w (Gd B G0 ob') B .no xs vs []:=hF
 replace hv:a.eval x=bg (.sl T) vs:=hv
 split at h
 case isFalse=>simp at h
 rename_i hb
 have hF':=hF
 unfold Flat at hF'
 obtain ⟨_,A,c,rfl,hc,hcm,_⟩:=hF'
 rw [xJ] at hv
 have fin:∀ (mm:Nat),mm≤c→(m.getD (xs.length:Int)).toNat≤mm→
   (Instr.sliceBounds true xs.length c (lo.map a.eval) (hi'.map a.eval) (mx.map a.eval)).run P w=.ok ((l.getD 0).toNat,(m.getD (xs.length:Int)).toNat,mm) w→o.wp P a w next Q:=by
  intro mm hmm hmh hrun
  refine bo (w':=w) (v:=.slice (if mm=(l.getD 0).toNat then A else A.map (·.add ((l.getD 0).toNat * ax T))) ((m.getD (xs.length:Int)).toNat - (l.getD 0).toNat) (mm - (l.getD 0).toNat)) ?_
   (bu (e:=.v (.sl T) _) hC' hK hd (aM.refl w) (mC (agt (m:=mm) hF (by omega) hmh hmm (by omega))) h)
  simp [execOp,ho,hv,Instr.sliceAt,Instr.slice,run_underlying hu,hrun,mA hT]
 rcases pn hC hmx hq with ⟨rfl,rfl⟩ | ⟨um,km,zm,rfl,rfl,hum⟩
 ·rcases pn hC hlo hl with ⟨rfl,rfl⟩ | ⟨u,ku,zu,rfl,rfl,hu'⟩<;>rcases pn hC hhi hm with ⟨rfl,rfl⟩ | ⟨v,kv,zv,rfl,rfl,hvv⟩<;>simp only [pN,Jr] at hb fin
  ·refine fin c (cE _) (by omega) ?_
   simp [Instr.sliceBounds]
  ·refine fin c (cE _) (by omega) ?_
   simp [Instr.sliceBounds,hvv,run_sliceBound w kv zv c .sliceAcap (by omega) (by omega)]
  ·refine fin c (cE _) (by omega) ?_
   simp [Instr.sliceBounds,hu',run_sliceBound w ku zu xs.length .sliceB (by omega) (by omega)]
  ·refine fin c (cE _) (by omega) ?_
   simp [Instr.sliceBounds,hvv,hu',run_sliceBound w kv zv c .sliceAcap (by omega) (by omega),run_sliceBound w ku zu zv.toNat .sliceB (by omega) (by omega)]
 ·rcases pn hC hhi hm with ⟨rfl,rfl⟩ | ⟨v,kv,zv,rfl,rfl,hvv⟩
  ·exact absurd (hhm rfl) (by simp)
  ·rcases pn hC hlo hl with ⟨rfl,rfl⟩ | ⟨u,ku,zu,rfl,rfl,hu'⟩<;>simp only [pN,Jr] at hb fin
   ·refine fin zm.toNat (by omega) (by omega) ?_
    simp [Instr.sliceBounds,hum,hvv,run_sliceBound w km zm c .slice3Acap (by omega) (by omega),run_sliceBound w kv zv zm.toNat .slice3B (by omega) (by omega)]
   ·refine fin zm.toNat (by omega) (by omega) ?_
    simp [Instr.sliceBounds,hum,hvv,hu',run_sliceBound w km zm c .slice3Acap (by omega) (by omega),run_sliceBound w kv zv zm.toNat .slice3B (by omega) (by omega),run_sliceBound w ku zu zv.toNat .slice3C (by omega) (by omega)]
theorem wN {t:TypeId} {T:Ty} (h:bC P t T) (w:World) {v1 v2 v3:List Value} (hl:v2.length=ax T):(part t (v1++v2++v3).toArray v1.length).run P w=.ok (bg T v2) w:=by
 unfold part bg
 simp only [Sem.run_bind,Sy h,Result.andThen_ok]
 by_cases ha:bZ T=true
 ·rw [if_pos ha,if_pos ha]
  simp only [Sem.run_bind,mA h,Result.andThen_ok,Sem.run_pure]
  congr 2
  apply Jc
  simp [←hl]
 ·rw [if_neg ha,if_neg ha]
  have h1:v2.length=1:=by rw [hl]; cases T<;>simp_all [bZ,ax]
  obtain ⟨u,rfl⟩:=nL.1 h1
  simp
theorem nS {T:Ty} (h:bZ T=true) (vs:List Value):bg T vs=.agg vs.toArray:=by unfold bg; rw [if_pos h]
theorem agV {t e:TypeId} {m:Nat} {T:Ty} {x ix:Operand} {y iy:Od} (hC:ae P B G0 W0 n env a.tmps w ob) (hK:bA P B G0 W0 n a K r next) (hd:∀ k,o.dst=some k→bl W0 n k) (hdst:i.dst=o.dst)
  (ho:o.op=.index t x ix) (hi:i.op=.wB m T y iy) (hu:P.underlying t=some (.array m e)) (hT:bC P e T) (hx:aE x y=true) (hix:aE ix iy=true) (h:step cl i env K=some r):o.wp P a w next Q:=by
 unfold step at h; rw [hi] at h; simp only [hdst,aj] at h
 obtain ⟨q,hq,h⟩:=h
 have hvi:=rF hC hix hq
 have hr:=eS hC hx
 split at h
 ·rename_i T' xs he
  simp only [aj] at h
  obtain ⟨xs',hxs,h⟩:=h
  have:=cI hxs
  rw [he] at hr
  cases this
  split at h
  case isFalse=>simp at h
  rename_i hb
  obtain ⟨_,vs,h1,h2⟩:=hr
  unfold Flat at h1
  obtain ⟨hlen,h1⟩:=h1
  obtain ⟨v1,v2,v3,c1,c2,c3,e1,e2,e3,e4,_⟩:=aJ.split (fun x v b hx=>Flat.len P _ hx) q.2.toNat (zero T) h1 (by omega)
  have hnil:c2=[]:=by
   have:c1++c2++c3=[]:=e2.symm
   simp at this; exact this.2.1
  subst hnil
  rw [nS rfl,e1] at h2
  refine bo (v:=bg T v2) (w':=w) ?_ (bu hC hK hd (aM.refl w) (mC e4) h)
  have hp:=wN hT w (v1:=v1) (v3:=v3) (Flat.len P T e4)
  rw [e3,bI] at hp
  simp [execOp,ho,h2,hvi.1,Instr.index,asIntOf,run_underlying hu,hb.1,hb.2,mA hT,hp]
 ·exact absurd h (by simp)
theorem agR {t:TypeId} {S A:Ty} {f:Nat} {x:Operand} {y:Od} {fs:Array Field} {fd:Field} (hC:ae P B G0 W0 n env a.tmps w ob) (hK:bA P B G0 W0 n a K r next) (hd:∀ k,o.dst=some k→bl W0 n k) (hdst:i.dst=o.dst)
  (ho:o.op=.field t x f) (hi:i.op=.field S (eG f) y) (hS:bC P t S) (hu:P.underlying t=some (.struct fs)) (hf:fs[f]?=some fd) (hsc:b7 S=true) (hx:aE x y=true)
  (h:step cl i env K=some r):o.wp P a w next Q:=by
 unfold step at h; rw [hi] at h; simp only [hdst,aj] at h
 obtain ⟨z,hz,s,hs,u,hu',h⟩:=h
 have hr:=eS hC hx
 have hzz:=cI hs
 subst hzz
 obtain ⟨A',h1,h2,h3⟩:=hS.struct hu hf
 have hSagg:bZ S=true:=by
  obtain ⟨d,hd1,hd2⟩:=hS.agg
  rw [hu] at hd1; cases hd1; exact hd2.symm
 unfold cS at hz
 split at hz
 ·rename_i T x' he
  simp only [av] at hz
  rw [he] at hr
  cases hz
  obtain ⟨_,vs,k1,k2⟩:=hr
  obtain ⟨v1,v2,v3,b1,b2,b3,e1,e2,e3,e4,_⟩:=Flat.lens P (eG f) S k1 hu'
  have hnil:b2=[]:=by
   have:b1++b2++b3=[]:=e2.symm
   simp at this; exact this.2.1
  subst hnil
  rw [pQ] at e4
  have hsub:=oW (eG f) S k1 hu'
  rw [h1] at hsub
  simp only [av] at hsub
  rw [nS hSagg,e1] at k2
  refine bo (v:=bg u.1 v2) (w':=w) ?_ (bu hC hK hd (aM.refl w) (mC e4) h)
  have hp:=wN (hsub▸h2) w (v1:=v1) (v3:=v3) (Flat.len P u.1 e4)
  rw [e3,h3,bI] at hp
  simp [execOp,ho,k2,Instr.field,run_underlying hu,hf,asAgg,hp]
 ·split at hz
  ·simp only [av] at hz; cases hz; simp [bZ] at hSagg
  ·exact absurd hz (by simp)
 ·simp only [aj] at hz
  obtain ⟨hh,_,hz⟩:=hz
  split at hz
  ·simp only [av] at hz; cases hz; simp [bZ] at hSagg
  ·exact absurd hz (by simp)
 ·exact absurd hz (by simp)
theorem ae.part {k d:Nat} {tm:Array Value} (hC:ae P B G0 W0 n env tm w ob) (hkd:d≠k) (hd:bl W0 n d) {b1 b2 b3:OB} (hob:ob k=b1++b2++b3) {ek ed:E} {v:Value} {env':Env} {ob':Nat→OB}
  (hob':ob'=fun s=>if s=d then b2 else if s=k then b1++b3 else ob s) (hlook:∀ s,look env' s=if s=d then ed else if s=k then ek else if (look env d).home=true∧leads d (look env s)=true then .dead else look env s)
  (hnh:(look env k).home=false) (hk:(∀ b i,Gd B G0 ob b i→Gd B G0 ob' b i)→bm P w (Gd B G0 ob') B (tm.setIfInBounds d v) env' ek (tm.getD k undef) (b1++b3))
  (hdd:(∀ b i,Gd B G0 ob b i→Gd B G0 ob' b i)→bm P w (Gd B G0 ob') B (tm.setIfInBounds d v) env' ed v b2):ae P B G0 W0 n env' (tm.setIfInBounds d v) w ob':=by
 have hdt:d < tm.size:=by rw [hC.size]; exact hd.1
 have hd':ob' d=b2:=by rw [hob']; simp
 have hk':ob' k=b1++b3:=by rw [hob']; simp [bp hkd]
 have ho':∀ s,s≠d→s≠k→ob' s=ob s:=fun s h1 h2=>by rw [hob']; simp [h1,h2]
 have hsub2:∀ q,q∈b2→q∈ob k:=fun q hq=>by rw [hob]; simp [hq]
 have hsub13:∀ q,q∈b1++b3→q∈ob k:=fun q hq=>by rw [hob]; rcases dn.1 hq with hq | hq<;>simp [hq]
 have hfrom:∀ s q,q∈ob' s→(s=d∧q∈b2)∨(s=k∧q∈b1++b3)∨(s≠d∧s≠k∧q∈ob s):=by
  intro s q hq
  by_cases h1:s=d
  ·subst h1; rw [hd'] at hq; exact .inl ⟨rfl,hq⟩
  ·by_cases h2:s=k
   ·subst h2; rw [hk'] at hq; exact .inr (.inl ⟨rfl,hq⟩)
   ·rw [ho' s h1 h2] at hq; exact .inr (.inr ⟨h1,h2,hq⟩)
 have hGd:∀ b i,Gd B G0 ob b i→Gd B G0 ob' b i:=fun b i h=>nI (fun s b lim hb=>by
  rcases hfrom s _ hb with ⟨_,hq⟩ | ⟨_,hq⟩ | ⟨_,_,hq⟩
  ·exact ⟨k,lim,hsub2 _ hq,cE _⟩
  ·exact ⟨k,lim,hsub13 _ hq,cE _⟩
  ·exact ⟨s,lim,hq,cE _⟩) h
 have hnd:=hC.nodup k
 rw [hob] at hnd
 simp only [eF] at hnd
 rw [bI,iP] at hnd
 obtain ⟨n1,n2,n3⟩:=hnd
 rw [iP] at n2
 obtain ⟨n21,n22,n23⟩:=n2
 have hap:∀ b,b∈blocks b2→b∈blocks (b1++b3)→False:=by
  intro b h1 h2
  rw [eF,dn] at h2
  rcases h2 with h2 | h2
  ·exact n3 b h2 b (fR _ h1) rfl
  ·exact n23 b h1 b h2 rfl
 have hold:∀ s b,b∈blocks (ob' s)→∃ j,b∈blocks (ob j):=by
  intro s b hb
  obtain ⟨l,hb⟩:=aC.1 hb
  rcases hfrom s _ hb with ⟨_,hq⟩ | ⟨_,hq⟩ | ⟨_,_,hq⟩
  ·exact ⟨k,aC.2 ⟨_,hsub2 _ hq⟩⟩
  ·exact ⟨k,aC.2 ⟨_,hsub13 _ hq⟩⟩
  ·exact ⟨s,aC.2 ⟨_,hq⟩⟩
 refine ae.step hC (.less (aM.refl _) hold) (Below.refl _ _) (fun b i _ h=>⟨hGd b i h,rfl⟩) (fun s=>?_) ?_ ?_ ?_ (by rw [pG]; exact hC.size) (fun _ h=>hd.ak h _ _)
 ·by_cases h1:s=d
  ·subst h1; right
   rw [hlook,if_pos rfl,mq _ _ _ hdt,hd']
   exact hdd hGd
  ·by_cases h2:s=k
   ·subst h2; right
    rw [hlook,if_neg h1,if_pos rfl,gC _ _ h1,hk']
    exact hk hGd
   ·rw [hlook,if_neg h1,if_neg h2,gC _ _ h1,ho' s h1 h2]
    by_cases hkill:(look env d).home=true∧leads d (look env s)=true
    ·right; rw [if_pos hkill]; exact (bm.leads hkill.2 (hC.rep s)).2
    ·left; rw [if_neg hkill]
     refine ⟨rfl,rfl,rfl,fun _ _=>rfl,fun s' hs'=>?_⟩
     have hh:=bm.leads hs' (hC.rep s)
     have e1:s'≠d:=by rintro rfl; exact hkill ⟨hh.1,hs'⟩
     have e2:s'≠k:=by rintro rfl; rw [hnh] at hh; exact absurd hh.1 (by simp)
     refine eo.same (P:=P) ?_ (gC _ _ e1) (hC.rep s') (fun _ _=>rfl)
     rw [hlook,if_neg e1,if_neg e2,pc hh.1]; simp
 ·intro x y b hx hy
  obtain ⟨l1,hx⟩:=aC.1 hx
  obtain ⟨l2,hy⟩:=aC.1 hy
  rcases hfrom x _ hx with ⟨e1,q1⟩ | ⟨e1,q1⟩ | ⟨e1,f1,q1⟩<;>rcases hfrom y _ hy with ⟨e2,q2⟩ | ⟨e2,q2⟩ | ⟨e2,f2,q2⟩
  ·rw [e1,e2]
  ·exact (hap b (aC.2 ⟨_,q1⟩) (aC.2 ⟨_,q2⟩)).elim
  ·exact absurd (hC.dist _ _ b (aC.2 ⟨_,q2⟩) (aC.2 ⟨_,hsub2 _ q1⟩)) f2
  ·exact (hap b (aC.2 ⟨_,q2⟩) (aC.2 ⟨_,q1⟩)).elim
  ·rw [e1,e2]
  ·exact absurd (hC.dist _ _ b (aC.2 ⟨_,q2⟩) (aC.2 ⟨_,hsub13 _ q1⟩)) f2
  ·exact absurd (hC.dist _ _ b (aC.2 ⟨_,q1⟩) (aC.2 ⟨_,hsub2 _ q2⟩)) f1
  ·exact absurd (hC.dist _ _ b (aC.2 ⟨_,q1⟩) (aC.2 ⟨_,hsub13 _ q2⟩)) f1
  ·exact hC.dist _ _ b (aC.2 ⟨_,q1⟩) (aC.2 ⟨_,q2⟩)
 ·intro s
  by_cases h1:s=d
  ·subst h1; rw [hd']; exact n21
  ·by_cases h2:s=k
   ·subst h2; rw [hk',eF,iP]
    exact ⟨n1,n22,fun x hx y hy=>n3 x hx y (ik _ hy)⟩
   ·rw [ho' s h1 h2]; exact hC.nodup s
 ·intro s b hb
  obtain ⟨l,hb⟩:=aC.1 hb
  rcases hfrom s _ hb with ⟨_,hq⟩ | ⟨_,hq⟩ | ⟨_,_,hq⟩
  ·exact hC.low k b (aC.2 ⟨_,hsub2 _ hq⟩)
  ·exact hC.low k b (aC.2 ⟨_,hsub13 _ hq⟩)
  ·exact hC.low s b (aC.2 ⟨_,hq⟩)
theorem agQ {k j:Nat} (hC:ae P B G0 W0 n env a.tmps w ob) (hK:bA P B G0 W0 n a K r next) (hd:∀ k,o.dst=some k→bl W0 n k) (hdst:i.dst=o.dst)
  (ho:o.op=.extract (.tmp k) j) (hi:i.op=.extract k j) (hkd:∃ d,o.dst=some d∧d≠k) (h:step cl i env K=some r):o.wp P a w next Q:=by
 unfold step at h; rw [hi] at h; simp only [hdst] at h
 have hr:=hC.rep k
 split at h
 ·rename_i es he
  rw [he] at hr
  obtain ⟨h0,vs,hv,ht⟩:=hr
  split at h
  ·rename_i e hej
   obtain ⟨u,b1,b2,b3,hu,hob,hre,hset⟩:=dF.split ht hej
   have hu':vs[j]?=some u:=by simpa using hu
   have hrun:(execOp a.eval o).run P w=.ok (.value u) w:=by
    have:a.eval (.tmp k)=.tuple vs:=hv
    simp [execOp,ho,this,Instr.extract,hu']
   cases e with
   | v T x'=>
     obtain ⟨rfl,vs',h1,h2⟩:=hre
     exact bo hrun (bu (e:=.v T x') hC hK hd (aM.refl w) ⟨rfl,vs',h1,h2⟩ h)
   | own wr e' T oa xs=>
     simp only at h
     split at h
     ·rename_i hwo
      simp only [aq,Bool.not_eq_true'] at hwo
      obtain ⟨rfl,hpu⟩:=hwo
      have hF:=hre
      have hF2:Flat P (.sl T) w (Gd B G0 ob) B (.own false e' oa) xs [u] b2:=hre
      unfold cd Flat at hF
      obtain ⟨v',cells,ob',e1,_,_,hb2⟩:=hF
      simp only [gg,and_true] at e1
      subst e1
      have himm:Flat P (.sl T) w (Gd B G0 ob) B .no xs [u] []:=pt hF2 hpu (fun _ _ _ h=>h) (fun g i hg hB hi=>sD hC (s:=k) (lim:=xs.length * ax T) (by rw [hob,hb2]; simp [bK,hg]) hi hB)
      exact bo hrun (bu (e:=.v (.sl T) xs) hC hK hd (aM.refl w) ⟨rfl,[u],himm,rfl⟩ h)
     refine bo hrun ?_
     obtain ⟨d,bN,hdk⟩:=hkd
     rw [bN] at h ⊢
     have:=ae.part (ek:=.cC (es.set j .dead)) (ed:=.own wr e' T oa xs) (v:=u) (env':=aK ((k,.cC (es.set j .dead))::env) (some d) (.own wr e' T oa xs)) hC hdk (hd d bN) hob rfl ?_ (by rw [he]; rfl) ?_ ?_
     ·exact hK _ _ _ _ this h
     ·intro s
      simp only [Fw.aK]
      rw [iE,aL,aL,if_neg (bp hdk)]
      by_cases h1:s=d
      ·subst h1; rw [if_pos rfl,if_pos rfl,if_neg (by simp [leads])]
      ·rw [if_neg (bp h1),if_neg h1]
       by_cases h2:s=k
       ·subst h2; rw [if_pos rfl,if_pos rfl]; simp [leads]
       ·rw [if_neg (bp h2),if_neg h2]
     ·intro hGd
      refine ⟨fun e he' s'=>?_,vs,hv,dF.imp (fun e he' v b hb hr=>cd.ak (tm:=a.tmps) (env:=env) (fun b i _ h=>⟨hGd b i h,rfl⟩) (bP.refl _ _) (fun _ _=>rfl) (fun s' hs'=>?_) hr) (hset .dead rfl)⟩
      ·rcases List.mem_or_eq_of_mem_set he' with he' | rfl
       ·exact h0 e he' s'
       ·rfl
      ·rcases List.mem_or_eq_of_mem_set he' with he' | rfl
       ·rw [h0 e he' s'] at hs'; exact absurd hs' (by simp)
       ·simp [leads] at hs'
     ·intro hGd
      exact Flat.mono P (.sl T) (fun b i _ h=>⟨hGd b i h,rfl⟩) (bP.refl _ _) (fun _ _=>rfl) hre
   | _=>simp at h
  ·exact absurd h (by simp)
 ·exact absurd h (by simp)
theorem bm.one {G:Nat→Nat→Prop} {tm:Array Value} {e:E} {v:Value} {b:OB} (h1:∀ es,e≠.cC es) (h2:∀ f A C c,e≠.cK f A C c) (h:bm P w G B tm env e v b):cd P w G B tm env e v b:=by
 cases e with
 | cC es=>exact absurd rfl (h1 es)
 | cK f A C c=>exact absurd rfl (h2 f A C c)
 | _=>exact h
theorem ag6 {f:FuncId} {A C:Ty} {caps:List Od} {cs:Array Operand} (hC:ae P B G0 W0 n env a.tmps w ob) (hK:bA P B G0 W0 n a K r next) (hd:∀ k,o.dst=some k→bl W0 n k) (hdst:i.dst=o.dst)
  (ho:o.op=.makeFunc (.func f) #[] cs) (hi:i.op=.pg f A C caps) (hcs:ey cs.toList caps=true) (h:step cl i env K=some r):o.wp P a w next Q:=by
 unfold step at h; rw [hi] at h; simp only [hdst] at h
 split at h
 case isFalse=>simp at h
 rename_i hcap
 refine bo (v:=.func (.func f) #[] (cs.map a.eval)) (w':=w) (by simp [execOp,ho,Instr.makeFunc]) (bu (e:=.cK f A C (caps.map fun y=>eZ y (au env y))) hC hK hd (aM.refl w) ⟨rfl,_,rfl,?_⟩ h)
 have key:∀ (us:List Operand) (ys:List Od),ey us ys=true→(ys.all fun a=>(au env a).cap)=true→dF (cd P w (Gd B G0 ob) B a.tmps env) (ys.map fun y=>eZ y (au env y)) (us.map a.eval) []:=by
  intro us
  induction us with
  | nil=>
    intro ys hy _
    cases ys with
    | nil=>exact ⟨rfl,rfl⟩
    | cons=>simp [ey] at hy
  | cons u us ih=>
    intro ys hy hc
    cases ys with
    | nil=>simp [ey] at hy
    | cons y ys=>
      simp only [ey,aq] at hy
      simp only [dy,aq] at hc
      refine ⟨a.eval u,us.map a.eval,[],[],rfl,rfl,?_,ih ys hy.2 hc.2⟩
      have hc1:=hc.1
      rcases Fj hC hy.1 with hh | ⟨wr,e,T,o',xs,h1,_⟩
      ·refine bm.one ?_ ?_ hh
       ·intro es he
        change eZ y (au env y)=_ at he
        generalize au env y=e at *
        cases e<;>simp only [E.cap,dN] at hc1<;>cases y<;>simp [eZ] at he
       ·intro f A C cs he
        change eZ y (au env y)=_ at he
        generalize au env y=e at *
        cases e<;>simp only [E.cap,dN] at hc1<;>cases y<;>simp [eZ] at he
      ·exfalso
       generalize au env y=e at *
       cases e<;>simp only [E.cap,dN] at hc1<;>cases y<;>simp [eZ] at h1
 have:=key cs.toList caps hcs hcap
 simpa using this
end
end Go.Fw
/- Soundness, part 13: values that are built. -/
namespace Go.Fw
open Go Go.RowKit
theorem OM:∀ (vs:List Value) (k off:Nat) (cs:Array Value),off+k+vs.length≤cs.size→
  ((vs.zipIdx k).foldl (fun cs (q:Value×Nat)=>cs.setIfInBounds (off+q.2) q.1) cs).toList=cs.toList.take (off+k)++vs++cs.toList.drop (off+k+vs.length)
 | [],k,off,cs,_=>by simp
 | v::vs,k,off,cs,h=>by
   simp only [eD] at h
   simp only [List.zipIdx_cons,List.foldl_cons]
   rw [OM vs (k+1) off (cs.setIfInBounds (off+k) v) (by rw [pG]; omega)]
   rw [Array.toList_setIfInBounds]
   apply List.ext_getElem?
   intro j
   simp only [List.getElem?_append,b5,pJ,List.length_set,eD,w7,List.getElem?_take,List.getElem?_set,List.getElem?_drop]
   have hs:off+k < cs.size:=by omega
   by_cases h1:j < off+k
   ·simp [h1,show j < off+(k+1) by omega,show min (off+k) cs.size=off+k by omega,show min (off+(k+1)) cs.size=off+(k+1) by omega,show ¬ off+k=j by omega,show j < off+(k+1)+vs.length by omega,show j < off+k+(vs.length+1) by omega]
   ·by_cases h2:j=off+k
    ·subst h2
     simp [show min (off+k) cs.size=off+k by omega,show min (off+(k+1)) cs.size=off+(k+1) by omega,show off+k < off+(k+1) by omega,show off+k < off+(k+1)+vs.length by omega,hs]
    ·simp only [show ¬ j < off+(k+1) by omega,show min (off+k) cs.size=off+k by omega,show min (off+(k+1)) cs.size=off+(k+1) by omega,h1,if_false]
     by_cases h3:j < off+(k+1)+vs.length
     ·simp only [h3,if_true,show j < off+k+(vs.length+1) by omega]
      rw [show j - (off+k)=(j - (off+(k+1)))+1 by omega,List.getElem?_cons_succ]
     ·simp only [h3,if_false,show ¬ j < off+k+(vs.length+1) by omega]
      rw [if_neg (by omega)]
      congr 1; omega
theorem Ae {place:Nat→Option (Nat×Nat)} {cells:Array Value} {f off size:Nat} {v:Value} {vs v1 v2 v3:List Value} {rest:List (Nat×Value)} (hp:place f=some (off,size)) (hv:v.cells=vs.toArray) (hl:vs.length=size)
  (hc:cells.toList=v1++v2++v3) (h1:v1.length=off) (h2:v2.length=size):Instr.fill place cells ((f,v)::rest)=Instr.fill place (v1++vs++v3).toArray rest:=by
 have hsz:cells.size=v1.length+v2.length+v3.length:=by
  have:=congrArg List.length hc
  simp at this; omega
 simp only [Instr.fill,hp,hv]
 rw [if_neg (by simp; omega)]
 congr 1
 apply Jc
 have:=OM vs 0 off cells (by omega)
 rw [←Array.foldl_toList,Array.toList_zipIdx]
 simp only [ky] at this
 rw [this,hc]
 simp [←h1,←hl▸h2,List.drop_append]
section
variable {P:Program} {B:Nat} {G0:Nat→Nat→Prop} {W0:cZ} {n:Nat} {env:Env} {a:Act} {w:World} {ob:Nat→OB}
variable {R:Type} {K:cH R} {r:R} {next:Act→World→Prop} {Q:Exit→Act→World→Prop} {o:Oper} {i:AI} {cl:ay}
theorem eB.trans {o1 o2 o3:Nat→OB} (h:eB o1 o2) (k:eB o2 o3):eB o1 o3:=⟨fun j=>⟨(k.less j).1.trans (h.less j).1,fun b lim hb=>by
 obtain ⟨l1,h1,h2⟩:=(k.less j).2 b lim hb
 obtain ⟨l2,h3,h4⟩:=(h.less j).2 b l1 h1
 exact ⟨l2,h3,dV h4 h2⟩⟩⟩
def gp (T:Ty) (place:Nat→Option (Nat×Nat)):List (Nat×Operand)→List (Path×Od)→Bool
 | [],[]=>true
 | (f,x)::us,(p,y)::ys=>aE x y&&(match cM T p with | some A=>(match place f with | some q=>q.1==a7 T p&&q.2==ax A | none=>false) | none=>false)&&gp T place us ys
 | _,_=>false
theorem sY {T:Ty} {place:Nat→Option (Nat×Nat)}:∀ {us:List (Nat×Operand)} {ys:List (Path×Od)} {env env':Env} {ob:Nat→OB} {x x':den T} {cells:Array Value},ae P B G0 W0 n env a.tmps w ob→gp T place us ys=true→
  Flat P T w (Gd B G0 ob) B .no x cells.toList []→gX T x env ys=some (env',x')→
  ∃ ob' cells',eB ob ob'∧ae P B G0 W0 n env' a.tmps w ob'∧Instr.fill place cells (us.map fun q=>(q.1,a.eval q.2))=some cells'∧Flat P T w (Gd B G0 ob') B .no x' cells'.toList []
 | [],[],env,env',ob,x,x',cells,hC,_,hF,h=>by
   simp only [gX,av,er] at h
   obtain ⟨rfl,rfl⟩:=h
   exact ⟨ob,cells,eB.refl _,hC,rfl,hF⟩
 | (f,u)::us,(p,y)::ys,env,env',ob,x,x',cells,hC,hok,hF,h=>by
   simp only [gp,aq] at hok
   simp only [gX,aj] at h
   obtain ⟨⟨env1,z⟩,hz,x1,hx1,h⟩:=h
   obtain ⟨ob1,hf1,hC1,vs,hv,hFz⟩:=lJ hC hok.1.1 hz
   have hp:=hok.1.2
   obtain ⟨A,hA⟩:∃ A,cM T p=some A:=by
    cases hA:cM T p with
    | none=>simp [hA] at hp
    | some A=>exact ⟨A,rfl⟩
   obtain ⟨q,hq⟩:∃ q,place f=some q:=by
    cases hq:place f with
    | none=>simp [hA,hq] at hp
    | some q=>exact ⟨q,rfl⟩
   rw [hA,hq] at hp
   simp only [aq,beq_iff_eq] at hp
   have hF1:Flat P T w (Gd B G0 ob1) B .no x cells.toList []:=Flat.mono P T (fun b i _ hg=>⟨hf1.Gd hg,rfl⟩) (bP.refl _ _) (fun _ _=>rfl) hF
   -- the part's own type
   obtain ⟨old,hold⟩:=fB p T x z x1 hx1
   obtain ⟨v1,v2,v3,b1,b2,b3,e1,e2,e3,e4,e5⟩:=Flat.lens P p T hF1 hold
   have hnil:b1=[]∧b2=[]∧b3=[]:=by
    have:b1++b2++b3=[]:=e2.symm
    simpa using this
   obtain ⟨rfl,rfl,rfl⟩:=hnil
   have hF2:=e5 .no z.2 vs [] x1 (fun _=>rfl) hFz hx1
   have hann:eI .no p .no=.no∨(eI .no p .no).pure=true:=.inr (pA p _ _ rfl rfl)
   obtain ⟨_,hF3⟩:=Flat.pure P T (pA p .no .no rfl rfl) (o':=.no) rfl hF2
   have hsub:=oW p T hF1 hold
   rw [hA] at hsub; simp only [av] at hsub
   have hvl:vs.length=ax z.1:=Flat.len P z.1 hFz
   have hcells:(a.eval u).cells=vs.toArray:=by rw [hv]; exact jJ hvl (Flat.one P z.1 rfl hFz)
   have hstep:=Ae (rest:=us.map fun q=>(q.1,a.eval q.2)) (f:=f) (v:=a.eval u) (hq) hcells (by rw [hvl,hp.2,hsub]) e1 (by rw [e3,hp.1]) (by rw [Flat.len P z.1 e4,hp.2,hsub])
   obtain ⟨ob2,cells',hf2,hC2,h3,h4⟩:=sY (cells:=(v1++vs++v3).toArray) hC1 hok.2 hF3 h
   exact ⟨ob2,cells',hf1.trans hf2,hC2,by rw [List.map_cons,hstep]; exact h3,h4⟩
 | [],_::_,_,_,_,_,_,_,_,hok,_,_=>by simp [gp] at hok
 | _::_,[],_,_,_,_,_,_,_,hok,_,_=>by simp [gp] at hok
where
 fB:∀ (p:Path) (T:Ty) (x:den T) (z:TV) (x1:den T),aZ T p x z=some x1→∃ y:den z.1,aF T p x=some ⟨z.1,y⟩
  | [],T,x,z,x1,h=>by
    have hs':bh T z=some x1:=by cases T<;>exact h
    have:=cI hs'
    subst this
    exact ⟨x,by simp only [aF]⟩
  | .l::p,.pair A C,x,z,x1,h=>by
    simp only [aZ,aj] at h
    obtain ⟨y,hy,_⟩:=h
    obtain ⟨u,hu⟩:=fB p A x.1 z y hy
    exact ⟨u,by simp only [aF]; exact hu⟩
  | .r::p,.pair A C,x,z,x1,h=>by
    simp only [aZ,aj] at h
    obtain ⟨y,hy,_⟩:=h
    obtain ⟨u,hu⟩:=fB p C x.2 z y hy
    exact ⟨u,by simp only [aF]; exact hu⟩
  | .ix i::p,.arr m T,x,z,x1,h=>by
    simp only [aZ] at h
    split at h
    ·rename_i hi
     simp only [aj] at h
     obtain ⟨y,hy,_⟩:=h
     obtain ⟨u,hu⟩:=fB p T _ z y hy
     exact ⟨u,by simp only [aF]; rw [if_pos hi]; exact hu⟩
    ·simp at h
  | .l::_,.int _,_,_,_,h | .l::_,.bool,_,_,_,h | .l::_,.str,_,_,_,h | .l::_,.unit,_,_,_,h | .l::_,.sl _,_,_,_,h | .l::_,.arr _ _,_,_,_,h | .l::_,.fn _ _,_,_,_,h=>by simp [aZ] at h
  | .r::_,.int _,_,_,_,h | .r::_,.bool,_,_,_,h | .r::_,.str,_,_,_,h | .r::_,.unit,_,_,_,h | .r::_,.sl _,_,_,_,h | .r::_,.arr _ _,_,_,_,h | .r::_,.fn _ _,_,_,_,h=>by simp [aZ] at h
  | .ix _::_,.int _,_,_,_,h | .ix _::_,.bool,_,_,_,h | .ix _::_,.str,_,_,_,h | .ix _::_,.unit,_,_,_,h | .ix _::_,.sl _,_,_,_,h | .ix _::_,.pair _ _,_,_,_,h | .ix _::_,.fn _ _,_,_,_,h=>by simp [aZ] at h
theorem B9 {T:Ty} {place:Nat→Option (Nat×Nat)}:∀ {us:List (Nat×Operand)} {ys:List (Path×Od)} {env env':Env} {ob:Nat→OB} {oa:aw} {x x':den T} {cells:Array Value},ae P B G0 W0 n env a.tmps w ob→gp T place us ys=true→
  Flat P T w (Gd B G0 ob) B oa x cells.toList []→gX T x env ys=some (env',x')→
  ∃ ob' cells',eB ob ob'∧ae P B G0 W0 n env' a.tmps w ob'∧Instr.fill place cells (us.map fun q=>(q.1,a.eval q.2))=some cells'∧Flat P T w (Gd B G0 ob') B (pS oa ys) x' cells'.toList []
 | [],[],env,env',ob,oa,x,x',cells,hC,_,hF,h=>by
   simp only [gX,av,er] at h
   obtain ⟨rfl,rfl⟩:=h
   exact ⟨ob,cells,eB.refl _,hC,rfl,hF⟩
 | (f,u)::us,(p,y)::ys,env,env',ob,oa,x,x',cells,hC,hok,hF,h=>by
   simp only [gp,aq] at hok
   simp only [gX,aj] at h
   obtain ⟨⟨env1,z⟩,hz,x1,hx1,h⟩:=h
   obtain ⟨ob1,hf1,hC1,vs,hv,hFz⟩:=lJ hC hok.1.1 hz
   have hp:=hok.1.2
   obtain ⟨A,hA⟩:∃ A,cM T p=some A:=by
    cases hA:cM T p with
    | none=>simp [hA] at hp
    | some A=>exact ⟨A,rfl⟩
   obtain ⟨q,hq⟩:∃ q,place f=some q:=by
    cases hq:place f with
    | none=>simp [hA,hq] at hp
    | some q=>exact ⟨q,rfl⟩
   rw [hA,hq] at hp
   simp only [aq,beq_iff_eq] at hp
   have hF1:Flat P T w (Gd B G0 ob1) B oa x cells.toList []:=Flat.mono P T (fun b i _ hg=>⟨hf1.Gd hg,rfl⟩) (bP.refl _ _) (fun _ _=>rfl) hF
   -- the part's own type
   obtain ⟨old,hold⟩:=sY.fB p T x z x1 hx1
   obtain ⟨v1,v2,v3,b1,b2,b3,e1,e2,e3,e4,e5⟩:=Flat.lens P p T hF1 hold
   have hnil:b1=[]∧b2=[]∧b3=[]:=by
    have:b1++b2++b3=[]:=e2.symm
    simpa using this
   obtain ⟨rfl,rfl,rfl⟩:=hnil
   have hF2:=e5 .no z.2 vs [] x1 (fun _=>rfl) hFz hx1
   have hsub:=oW p T hF1 hold
   rw [hA] at hsub; simp only [av] at hsub
   have hvl:vs.length=ax z.1:=Flat.len P z.1 hFz
   have hcells:(a.eval u).cells=vs.toArray:=by rw [hv]; exact jJ hvl (Flat.one P z.1 rfl hFz)
   have hstep:=Ae (rest:=us.map fun q=>(q.1,a.eval q.2)) (f:=f) (v:=a.eval u) (hq) hcells (by rw [hvl,hp.2,hsub]) e1 (by rw [e3,hp.1]) (by rw [Flat.len P z.1 e4,hp.2,hsub])
   obtain ⟨ob2,cells',hf2,hC2,h3,h4⟩:=B9 (cells:=(v1++vs++v3).toArray) hC1 hok.2 hF2 h
   exact ⟨ob2,cells',hf1.trans hf2,hC2,by rw [List.map_cons,hstep]; exact h3,h4⟩
 | [],_::_,_,_,_,_,_,_,_,_,hok,_,_=>by simp [gp] at hok
 | _::_,[],_,_,_,_,_,_,_,_,hok,_,_=>by simp [gp] at hok
theorem agG {t:TypeId} {T:Ty} {us:Array (Nat×Operand)} {ys:List (Path×Od)} (hC:ae P B G0 W0 n env a.tmps w ob) (hK:bA P B G0 W0 n a K r next) (hd:∀ k,o.dst=some k→bl W0 n k) (hdst:i.dst=o.dst)
  (ho:o.op=.build t us) (hi:i.op=.build T ys) (hz:l7 P t T) (hagg:bZ T=true) (hT:bC P t T)
  (hok:(∃ fs places,P.underlying t=some (.struct fs)∧fs.toList.mapM (fun f=>(P.info? f.type).map fun i=>(f.offset,i.size))=some places∧gp T (places.toArray[·]?) us.toList ys=true)∨
   (∃ m e T',P.underlying t=some (.array m e)∧bC P e T'∧gp T (fun i=>some (i * ax T',ax T')) us.toList ys=true)) (h:step cl i env K=some r):o.wp P a w next Q:=by
 unfold step at h; rw [hi] at h; simp only [hdst,aj] at h
 obtain ⟨⟨env',x⟩,hx,h⟩:=h
 obtain ⟨it,z,vs,h1,h2,h3,h4⟩:=hz.ok
 have hcells:z.cells=vs.toArray:=by rw [h4]; exact jJ (tc h3) (td h3)
 have hF0:Flat P T w (Gd B G0 ob) B .no (zero T) vs.toArray.toList []:=by simpa using fV P T w _ B .no (fV.annOk_no T) h3
 rcases hok with ⟨fs,places,hu,hpl,hok⟩ | ⟨m,e,T',hu,hT',hok⟩
 ·obtain ⟨ob',cells',hf,hC',h5,h6⟩:=sY hC hok hF0 hx
  refine bo (v:=.agg cells') (w':=w) ?_ ?_
  ·have hb:P.built t ((us.map fun (i,x)=>(i,a.eval x))).toList=some cells':=by
    simp only [Program.built,h1,hu,h2,hpl,hcells]
    rw [←h5]; congr 1; simp
   have:=run_build (P:=P) w t (us.map fun (i,x)=>(i,a.eval x)) cells' hb
   simp [execOp,ho,this]
  ·have hr:=mC (tm:=a.tmps) (env:=env') h6
   rw [nS hagg] at hr
   exact bu hC' hK hd (aM.refl w) (by simpa using hr) h
 ·obtain ⟨ie,hie,hse⟩:=hT'.size
  obtain ⟨ob',cells',hf,hC',h5,h6⟩:=sY hC hok hF0 hx
  refine bo (v:=.agg cells') (w':=w) ?_ ?_
  ·have hb:P.built t ((us.map fun (i,x)=>(i,a.eval x))).toList=some cells':=by
    simp only [Program.built,h1,hu,h2,hie,hcells,hse]
    rw [←h5]; congr 1; simp
   have:=run_build (P:=P) w t (us.map fun (i,x)=>(i,a.eval x)) cells' hb
   simp [execOp,ho,this]
  ·have hr:=mC (tm:=a.tmps) (env:=env') h6
   rw [nS hagg] at hr
   exact bu hC' hK hd (aM.refl w) (by simpa using hr) h
theorem agI {t:TypeId} {T:Ty} {oa:aw} {us:Array (Nat×Operand)} {ys:List (Path×Od)} (hC:ae P B G0 W0 n env a.tmps w ob) (hK:bA P B G0 W0 n a K r next) (hd:∀ k,o.dst=some k→bl W0 n k) (hdst:i.dst=o.dst)
  (ho:o.op=.build t us) (hi:i.op=.jH T oa ys) (hoa:iz T oa=true) (hz:l7 P t T) (hagg:bZ T=true) (hT:bC P t T)
  (hok:(∃ fs places,P.underlying t=some (.struct fs)∧fs.toList.mapM (fun f=>(P.info? f.type).map fun i=>(f.offset,i.size))=some places∧gp T (places.toArray[·]?) us.toList ys=true)∨
   (∃ m e T',P.underlying t=some (.array m e)∧bC P e T'∧gp T (fun i=>some (i * ax T',ax T')) us.toList ys=true)) (h:step cl i env K=some r):o.wp P a w next Q:=by
 unfold step at h; rw [hi] at h; simp only [hdst,aj] at h
 obtain ⟨⟨env',x⟩,hx,h⟩:=h
 obtain ⟨it,z,vs,h1,h2,h3,h4⟩:=hz.ok
 have hcells:z.cells=vs.toArray:=by rw [h4]; exact jJ (tc h3) (td h3)
 have hF0:Flat P T w (Gd B G0 ob) B oa (zero T) vs.toArray.toList []:=by simpa using fV P T w _ B oa hoa h3
 rcases hok with ⟨fs,places,hu,hpl,hok⟩ | ⟨m,e,T',hu,hT',hok⟩
 ·obtain ⟨ob',cells',hf,hC',h5,h6⟩:=B9 hC hok hF0 hx
  refine bo (v:=.agg cells') (w':=w) ?_ ?_
  ·have hb:P.built t ((us.map fun (i,x)=>(i,a.eval x))).toList=some cells':=by
    simp only [Program.built,h1,hu,h2,hpl,hcells]
    rw [←h5]; congr 1; simp
   have:=run_build (P:=P) w t (us.map fun (i,x)=>(i,a.eval x)) cells' hb
   simp [execOp,ho,this]
  ·have hr:bm P w (Gd B G0 ob') B a.tmps env' (.nw T (pS oa ys) x) (bg T cells'.toList) []:=⟨rfl,_,h6,rfl⟩
   rw [nS hagg] at hr
   exact bu hC' hK hd (aM.refl w) (by simpa using hr) h
 ·obtain ⟨ie,hie,hse⟩:=hT'.size
  obtain ⟨ob',cells',hf,hC',h5,h6⟩:=B9 hC hok hF0 hx
  refine bo (v:=.agg cells') (w':=w) ?_ ?_
  ·have hb:P.built t ((us.map fun (i,x)=>(i,a.eval x))).toList=some cells':=by
    simp only [Program.built,h1,hu,h2,hie,hcells,hse]
    rw [←h5]; congr 1; simp
   have:=run_build (P:=P) w t (us.map fun (i,x)=>(i,a.eval x)) cells' hb
   simp [execOp,ho,this]
  ·have hr:bm P w (Gd B G0 ob') B a.tmps env' (.nw T (pS oa ys) x) (bg T cells'.toList) []:=⟨rfl,_,h6,rfl⟩
   rw [nS hagg] at hr
   exact bu hC' hK hd (aM.refl w) (by simpa using hr) h
end
end Go.Fw
/- Soundness, part 14: slices that are made and that grow. -/
namespace Go.Fw
open Go Go.RowKit
section
variable {P:Program} {B:Nat} {G0:Nat→Nat→Prop} {W0:cZ} {n:Nat} {env:Env} {a:Act} {w w':World} {ob:Nat→OB}
variable {R:Type} {K:cH R} {r:R} {next:Act→World→Prop} {Q:Exit→Act→World→Prop} {o:Oper} {i:AI} {cl:ay}
theorem ae.IP {k d:Nat} {tm:Array Value} (hC:ae P B G0 W0 n env tm w ob) (hkd:d≠k) (hd:bl W0 n d) {b1 b2 b3 bd:OB} (hob:ob k=b1++b2++b3) {ek ed:E} {v:Value} {env':Env} {ob':Nat→OB}
  (hob':ob'=fun s=>if s=d then bd else if s=k then b1++b3 else ob s) (hbel:Below B w w') (hw:∀ b,b < w.heap.size→b∉blocks b2→w'.heap[b]?=w.heap[b]?)
  (hbd:∀ b,b∈blocks bd→b∈blocks b2∨(w.heap.size≤b∧b < w'.heap.size)) (hbdn:(blocks bd).Nodup)
  (hcell:∀ b i,b < w.heap.size→b∈blocks b2→Gd B G0 ob b i→(∀ lim,(b,lim)∈bd→i < lim)∧w'.cell? ⟨b,i,none⟩=w.cell? ⟨b,i,none⟩)
  (hlk:look env' k=ek) (hld:look env' d=ed)
  (hls:∀ s,s≠k→s≠d→look env' s=.dead∨(look env' s=look env s∧leads k (look env s)=false∧¬ ((look env d).home=true∧leads d (look env s)=true))∨
   (∃ p T o x o' x',look env s=.ptr k p∧look env' s=.ptr k p∧look env k=.loc T o x∧ek=.loc T o' x'))
  (hsd:∀ s,s≠k→s≠d→look env' s=.dead→ob s=[]∧(look env s).home=false)
  (hk:(∀ b i,b < w.heap.size→Gd B G0 ob b i→Gd B G0 ob' b i∧w'.cell? ⟨b,i,none⟩=w.cell? ⟨b,i,none⟩)→bm P w' (Gd B G0 ob') B (tm.setIfInBounds d v) env' ek (tm.getD k undef) (b1++b3))
  (hdd:(∀ b i,b < w.heap.size→Gd B G0 ob b i→Gd B G0 ob' b i∧w'.cell? ⟨b,i,none⟩=w.cell? ⟨b,i,none⟩)→bm P w' (Gd B G0 ob') B (tm.setIfInBounds d v) env' ed v bd):ae P B G0 W0 n env' (tm.setIfInBounds d v) w' ob':=by
 have hdt:d < tm.size:=by rw [hC.size]; exact hd.1
 have hd':ob' d=bd:=by rw [hob']; simp
 have hk':ob' k=b1++b3:=by rw [hob']; simp [bp hkd]
 have ho':∀ s,s≠d→s≠k→ob' s=ob s:=fun s h1 h2=>by rw [hob']; simp [h1,h2]
 have hsub2:∀ q,q∈b2→q∈ob k:=fun q hq=>by rw [hob]; simp [hq]
 have hsub13:∀ q,q∈b1++b3→q∈ob k:=fun q hq=>by rw [hob]; rcases dn.1 hq with hq | hq<;>simp [hq]
 have hfrom:∀ s q,q∈ob' s→(s=d∧q∈bd)∨(s=k∧q∈b1++b3)∨(s≠d∧s≠k∧q∈ob s):=by
  intro s q hq
  by_cases h1:s=d
  ·subst h1; rw [hd'] at hq; exact .inl ⟨rfl,hq⟩
  ·by_cases h2:s=k
   ·subst h2; rw [hk'] at hq; exact .inr (.inl ⟨rfl,hq⟩)
   ·rw [ho' s h1 h2] at hq; exact .inr (.inr ⟨h1,h2,hq⟩)
 have hnd:=hC.nodup k
 rw [hob] at hnd
 simp only [eF] at hnd
 rw [bI,iP] at hnd
 obtain ⟨n1,n2,n3⟩:=hnd
 rw [iP] at n2
 obtain ⟨n21,n22,n23⟩:=n2
 have hap2:∀ b,b∈blocks b2→b∈blocks (b1++b3)→False:=by
  intro b h1 h2
  rw [eF,dn] at h2
  rcases h2 with h2 | h2
  ·exact n3 b h2 b (fR _ h1) rfl
  ·exact n23 b h1 b h2 rfl
 have hlowk:∀ b,b∈blocks (b1++b3)→b < w.heap.size:=fun b hb=>by
  obtain ⟨l,hl⟩:=aC.1 hb
  exact (hC.low k b (aC.2 ⟨l,hsub13 _ hl⟩)).2
 have hap:∀ b,b∈blocks bd→b∈blocks (b1++b3)→False:=by
  intro b h1 h2
  rcases hbd b h1 with h | h
  ·exact hap2 b h h2
  ·have:=hlowk b h2; omega
 have hap':∀ s b,s≠k→b∈blocks bd→b∈blocks (ob s)→False:=by
  intro s b hs h1 h2
  rcases hbd b h1 with h | h
  ·obtain ⟨l,hl⟩:=aC.1 h
   exact hs (hC.dist _ _ b h2 (aC.2 ⟨l,hsub2 _ hl⟩))
  ·have:=(hC.low s b h2).2; omega
 have hG:∀ b i,b < w.heap.size→Gd B G0 ob b i→Gd B G0 ob' b i∧w'.cell? ⟨b,i,none⟩=w.cell? ⟨b,i,none⟩:=by
  intro b i hb hg
  by_cases hb2:b∈blocks b2
  ·obtain ⟨hc1,hc2⟩:=hcell b i hb hb2 hg
   refine ⟨?_,hc2⟩
   rcases hg with hg | ⟨g1,g0,g2⟩
   ·exact .inl hg
   ·refine .inr ⟨g1,g0,fun s lim hs=>?_⟩
    rcases hfrom s _ hs with ⟨_,hq⟩ | ⟨_,hq⟩ | ⟨_,_,hq⟩
    ·exact hc1 lim hq
    ·exact g2 k lim (hsub13 _ hq)
    ·exact g2 s lim hq
  ·refine ⟨?_,World.cell?_of_block (w:=w) (hw b hb hb2)⟩
   rcases hg with hg | ⟨g1,g0,g2⟩
   ·exact .inl hg
   ·refine .inr ⟨g1,g0,fun s lim hs=>?_⟩
    rcases hfrom s _ hs with ⟨_,hq⟩ | ⟨_,hq⟩ | ⟨_,_,hq⟩
    ·rcases hbd b (aC.2 ⟨lim,hq⟩) with h | h
     ·exact absurd h hb2
     ·omega
    ·exact g2 k lim (hsub13 _ hq)
    ·exact g2 s lim hq
 have hheap:∀ s,s≠k→∀ g∈blocks (ob s),w'.heap[g]?=w.heap[g]?:=by
  intro s hs g hg
  refine hw g (hC.low s g hg).2 (fun h=>?_)
  obtain ⟨l,hl⟩:=aC.1 h
  exact hs (hC.dist _ _ g hg (aC.2 ⟨l,hsub2 _ hl⟩))
 have hst:Steps ob ob' w w':=by
  refine ⟨fun s b hb=>?_,fun b hb hn=>hw b hb fun h=>?_⟩
  ·obtain ⟨l,hb⟩:=aC.1 hb
   rcases hfrom s _ hb with ⟨_,hq⟩ | ⟨_,hq⟩ | ⟨_,_,hq⟩
   ·rcases hbd b (aC.2 ⟨_,hq⟩) with h | h
    ·obtain ⟨l2,h⟩:=aC.1 h
     exact .inl ⟨k,aC.2 ⟨_,hsub2 _ h⟩⟩
    ·exact .inr h.1
   ·exact .inl ⟨k,aC.2 ⟨_,hsub13 _ hq⟩⟩
   ·exact .inl ⟨s,aC.2 ⟨_,hq⟩⟩
  ·obtain ⟨l,h⟩:=aC.1 h
   exact hn k (aC.2 ⟨l,hsub2 _ h⟩)
 refine ae.step hC hst hbel hG (fun s=>?_) ?_ ?_ ?_ (by rw [pG]; exact hC.size) (fun _ h=>hd.ak h _ _)
 ·by_cases h1:s=d
  ·subst h1; right
   rw [hld,mq _ _ _ hdt,hd']
   exact hdd hG
  ·by_cases h2:s=k
   ·subst h2; right
    rw [hlk,gC _ _ h1,hk']
    exact hk hG
   ·rw [gC _ _ h1,ho' s h1 h2]
    rcases hls s h2 h1 with hdead | ⟨h3,h4,h5⟩ | ⟨p,T,oa,x,oa',x',e1,e2,e3,e4⟩
    ·right; rw [hdead]; exact (hsd s h2 h1 hdead).1
    ·left
     refine ⟨h3,rfl,rfl,hheap s h2,fun s' hs'=>?_⟩
     have hh:=bm.leads hs' (hC.rep s)
     have f1:s'≠d:=by rintro rfl; exact h5 ⟨hh.1,hs'⟩
     have f2:s'≠k:=by rintro rfl; rw [h4] at hs'; exact absurd hs' (by simp)
     have f3:look env' s'=look env s':=by
      rcases hls s' f2 f1 with q | ⟨q,_⟩ | ⟨p,_,_,_,_,_,q,_⟩
      ·exfalso
       have:=(hsd s' f2 f1 q).2
       rw [this] at hh; exact absurd hh.1 (by simp)
      ·exact q
      ·rw [q] at hh; exact absurd hh.1 (by simp [E.home])
     exact eo.same (P:=P) f3 (gC _ _ f1) (hC.rep s') (hheap s' f2)
    ·right
     rw [e2]
     have hr:=hC.rep s
     rw [e1] at hr
     obtain ⟨h6,T1,o1,x1,b,h7,h8,h9,h10⟩:=hr
     rw [e3] at h7; cases h7
     exact ⟨h6,T,oa',x',b,by rw [hlk,e4],by rw [gC _ _ (bp hkd)]; exact h8,h9,h10⟩
 ·intro x y b hx hy
  obtain ⟨l1,hx⟩:=aC.1 hx
  obtain ⟨l2,hy⟩:=aC.1 hy
  rcases hfrom x _ hx with ⟨e1,q1⟩ | ⟨e1,q1⟩ | ⟨e1,f1,q1⟩<;>rcases hfrom y _ hy with ⟨e2,q2⟩ | ⟨e2,q2⟩ | ⟨e2,f2,q2⟩
  ·rw [e1,e2]
  ·exact (hap b (aC.2 ⟨_,q1⟩) (aC.2 ⟨_,q2⟩)).elim
  ·exact (hap' y b f2 (aC.2 ⟨_,q1⟩) (aC.2 ⟨_,q2⟩)).elim
  ·exact (hap b (aC.2 ⟨_,q2⟩) (aC.2 ⟨_,q1⟩)).elim
  ·rw [e1,e2]
  ·exact absurd (hC.dist _ _ b (aC.2 ⟨_,q2⟩) (aC.2 ⟨_,hsub13 _ q1⟩)) f2
  ·exact (hap' x b f1 (aC.2 ⟨_,q2⟩) (aC.2 ⟨_,q1⟩)).elim
  ·exact absurd (hC.dist _ _ b (aC.2 ⟨_,q1⟩) (aC.2 ⟨_,hsub13 _ q2⟩)) f1
  ·exact hC.dist _ _ b (aC.2 ⟨_,q1⟩) (aC.2 ⟨_,q2⟩)
 ·intro s
  by_cases h1:s=d
  ·subst h1; rw [hd']; exact hbdn
  ·by_cases h2:s=k
   ·subst h2; rw [hk',eF,iP]
    exact ⟨n1,n22,fun x hx y hy=>n3 x hx y (ik _ hy)⟩
   ·rw [ho' s h1 h2]; exact hC.nodup s
 ·intro s b hb
  obtain ⟨l,hb⟩:=aC.1 hb
  rcases hfrom s _ hb with ⟨_,hq⟩ | ⟨_,hq⟩ | ⟨_,_,hq⟩
  ·rcases hbd b (aC.2 ⟨_,hq⟩) with h | h
   ·obtain ⟨l',hl'⟩:=aC.1 h
    have:=hC.low k b (aC.2 ⟨_,hsub2 _ hl'⟩)
    exact ⟨this.1,dp this.2 hbel.size⟩
   ·exact ⟨dV hC.base h.1,h.2⟩
  ·have:=hC.low k b (aC.2 ⟨_,hsub13 _ hq⟩)
   exact ⟨this.1,dp this.2 hbel.size⟩
  ·have:=hC.low s b (aC.2 ⟨_,hq⟩)
   exact ⟨this.1,dp this.2 hbel.size⟩
theorem Sl {e:TypeId} {T:Ty} {xs:List (den T)} {css:List Value} {cur:Array Value} {cap:Nat} {d:Option Nat} (hC:ae P B G0 W0 n env a.tmps w ob) (hK:bA P B G0 W0 n a K r next) (hd:∀ k,d=some k→bl W0 n k)
  (hE:aJ (Flat P T w (Gd B G0 ob) B .no) xs css []) (hcur:cur.toList.take (xs.length * ax T)=css) (hcap:cur.size=cap * ax T) (hle:xs.length≤cap) (hmax:cap≤maxLen)
  (hk:K (aK env d (.own true e T .no xs))=some r):next (a.put d (.slice (some ⟨w.heap.size,0,none⟩) xs.length cap)) (w.alloc (.cells cur e)):=by
 have hg:aM w (w.alloc (.cells cur e)):=aM.alloc w _
 cases d with
 | none=>exact bu (e:=.dead) hC hK hd hg (v:=undef) rfl hk
 | some k=>
   have h:=ae.lK (e:=.own true e T .no xs) (v:=.slice (some ⟨w.heap.size,0,none⟩) xs.length cap) (bk:=[(w.heap.size,0)]) hC (hd k rfl) hg ?_ (by simp) (by simp)
   ·exact hK _ _ _ _ h hk
   ·rw [if_neg (by simp [leads])]
    show Flat P (.sl T) _ _ B (.own true e .no) xs [_] _
    unfold Flat
    refine ⟨_,css,[],rfl,si ⟨aJ.length (fun x v b hx=>Flat.len P T hx) hE,.inr ⟨w.heap.size,cap,cur,rfl,hC.base,heap_alloc_new w _,hle,hmax,hcap,hcur⟩⟩,?_,by simp [bK,Value.ownBlock]⟩
    exact aJ.imp (fun x v b hb hx=>by
     have:b=[]:=by cases b with | nil=>rfl | cons q r=>exact absurd (hb q (by simp)) (by simp)
     subst this
     exact Flat.mono P T (fun b i hb h=>⟨pH (fun lim hl=>by simp at hl; omega) h,hg.cell hb⟩) ⟨hg.size,fun b hb=>hg.block b (dp hb hC.base)⟩ (by simp) hx) hE
def sd:List (Nat×Operand)→Nat→Bool
 | [],_=>true
 | (i,_)::r,k=>i==k&&sd r (k+1)
theorem OF (size:Nat):∀ (parts:List (Nat×Value)) (k:Nat) (done:List Value) (vss:List (List Value)) (cells:Array Value),parts.length=vss.length→(∀ j q,parts[j]?=some q→q.1=k+j∧∃ vs,vss[j]?=some vs∧q.2.cells=vs.toArray∧vs.length=size)→
  (∃ rest,cells.toList=done++rest∧rest.length=parts.length * size)→done.length=k * size→Instr.fill (fun i=>some (i * size,size)) cells parts=some (done++vss.flatten).toArray
 | [],k,done,vss,cells,hl,_,⟨rest,hc,hr⟩,_=>by
   have hv:vss=[]:=kp (by simpa using hl.symm)
   have hr':rest=[]:=kp (by simpa using hr)
   subst hv; subst hr'
   simp only [Instr.fill,av]
   apply Jc
   simpa using hc
 | (f,v)::parts,k,done,vss,cells,hl,hp,⟨rest,hc,hr⟩,hd=>by
   cases vss with
   | nil=>simp at hl
   | cons vs vss=>
     obtain ⟨h1,vs',h2,h3,h4⟩:=hp 0 (f,v) rfl
     simp only [ij,av] at h2
     subst h2
     simp only [ky] at h1
     subst h1
     simp only [eD,Nat.succ_mul] at hr
     have hsplit:cells.toList=done++rest.take size++rest.drop size:=by rw [hc,bI,List.take_append_drop]
     rw [Ae (rest:=parts) rfl h3 h4 hsplit hd (by rw [pJ]; omega)]
     rw [OF size parts (f+1) (done++vs) vss _ (by simpa using hl) (fun j q hq=>?_) ⟨rest.drop size,by simp,by rw [nK]; omega⟩ (by rw [b5,hd,h4,Nat.succ_mul])]
     ·simp
     ·obtain ⟨g1,vs2,g2,g3⟩:=hp (j+1) q (by simpa using hq)
      exact ⟨by omega,vs2,by simpa using g2,g3⟩
theorem JP {T:Ty}:∀ {us:List Operand} {ys:List Od} {env env':Env} {ob:Nat→OB} {xs:List (den T)},ae P B G0 W0 n env a.tmps w ob→ey us ys=true→mR T env ys=some (env',xs)→
  ∃ (ob':Nat→OB) (vss:List (List Value)),eB ob ob'∧ae P B G0 W0 n env' a.tmps w ob'∧aJ (Flat P T w (Gd B G0 ob') B .no) xs vss.flatten []∧vss.length=us.length∧(∀ (j:Nat) (u:Operand),us[j]?=some u→∃ vs:List Value,vss[j]?=some vs∧(a.eval u).cells=vs.toArray∧vs.length=ax T)∧xs.length=us.length
 | [],[],env,env',ob,xs,hC,_,h=>by
   simp only [mR,av,er] at h
   obtain ⟨rfl,rfl⟩:=h
   exact ⟨ob,[],eB.refl _,hC,⟨rfl,rfl⟩,rfl,fun j u hu=>by simp at hu,rfl⟩
 | u::us,y::ys,env,env',ob,xs,hC,hok,h=>by
   simp only [ey,aq] at hok
   simp only [mR,aj,av,er] at h
   obtain ⟨⟨env1,z⟩,hz,x,hx,⟨env2,xs2⟩,h2,rfl,rfl⟩:=h
   obtain ⟨ob1,hf1,hC1,vs,hv,hFz⟩:=lJ hC hok.1 hz
   have hzz:=cI hx
   simp only at hzz; subst hzz
   replace hFz:Flat P T w (Gd B G0 ob1) B .no x vs []:=hFz
   replace hv:a.eval u=bg T vs:=hv
   obtain ⟨ob2,vss,hf2,hC2,hE,hl,hcs,hxl⟩:=JP hC1 hok.2 h2
   refine ⟨ob2,vs::vss,hf1.trans hf2,hC2,⟨vs,vss.flatten,[],[],rfl,rfl,Flat.mono P T (fun b i _ hg=>⟨hf2.Gd hg,rfl⟩) (bP.refl _ _) (fun _ _=>rfl) hFz,hE⟩,by simp [hl],fun j w' hj=>?_,by simp [hxl]⟩
   cases j with
   | zero=>
     simp only [ij,av] at hj; subst hj
     exact ⟨vs,rfl,by rw [hv]; exact jJ (Flat.len P T hFz) (Flat.one P T rfl hFz),Flat.len P T hFz⟩
   | succ j=>simpa using hcs j w' (by simpa using hj)
 | [],_::_,_,_,_,_,_,hok,_=>by simp [ey] at hok
 | _::_,[],_,_,_,_,_,hok,_=>by simp [ey] at hok
theorem Sd:∀ (l:List (Nat×Operand)) (k j:Nat) (q:Nat×Operand),sd l k=true→l[j]?=some q→q.1=k+j
 | [],_,_,_,_,h=>by simp at h
 | (i,u)::r,k,0,q,h,hq=>by
   simp only [sd,aq,beq_iff_eq] at h
   simp only [ij,av] at hq
   subst hq; exact h.1
 | (i,u)::r,k,j+1,q,h,hq=>by
   simp only [sd,aq,beq_iff_eq] at h
   have:=Sd r (k+1) j q h.2 (by simpa using hq)
   omega
theorem agJ {t e:TypeId} {T:Ty} {m:Nat} {us:Array (Nat×Operand)} {ys:List Od} (hC:ae P B G0 W0 n env a.tmps w ob) (hK:bA P B G0 W0 n a K r next) (hd:∀ k,o.dst=some k→bl W0 n k) (hdst:i.dst=o.dst)
  (ho:o.op=.buildSlice t m us) (hi:i.op=.buildSlice e T ys) (hu:P.underlying t=some (.slice e)) (hT:bC P e T) (hz:l7 P e T) (hm:us.size=m) (hidx:sd us.toList 0=true) (hok:ey (us.toList.map (·.2)) ys=true)
  (hlim:m * ax T≤2 ^ 24) (hm24:m≤2 ^ 24) (h:step cl i env K=some r):o.wp P a w next Q:=by
 unfold step at h; rw [hi] at h; simp only [hdst,aj] at h
 obtain ⟨⟨env',xs⟩,hx,h⟩:=h
 obtain ⟨ob',vss,hf,hC',hE,hl,hcs,hxl⟩:=JP hC hok hx
 obtain ⟨it,z,zs,h1,h2,h3,h4⟩:=hz.ok
 have hml:xs.length=m:=by rw [hxl,List.length_map,w7,hm]
 have hfl:vss.flatten.length=m * ax T:=by rw [aJ.length (fun x v b hx=>Flat.len P T hx) hE,hml]
 have hfill:∀ cells:Array Value,cells.size=m * ax T→Instr.fill (fun i=>some (i * ax T,ax T)) cells (us.map fun x=>(x.1,a.eval x.2)).toList=some vss.flatten.toArray:=by
  intro cells hsz
  have:=OF (ax T) (us.map fun x=>(x.1,a.eval x.2)).toList 0 [] vss cells (by simp [hl]) (fun j q hq=>?_) ⟨cells.toList,by simp,by simp [hm,hsz]⟩ (by simp)
  ·simpa using this
  ·simp only [Array.toList_map,kq,Option.map_eq_some_iff] at hq
   obtain ⟨p,hp,rfl⟩:=hq
   obtain ⟨vs,k1,k2,k3⟩:=hcs j p.2 (by simp only [kq,hp]; rfl)
   exact ⟨Sd _ _ _ _ hidx hp,vs,k1,k2,k3⟩
 refine bo (v:=.slice (some ⟨w.heap.size,0,none⟩) m m) (w':=w.alloc (.cells vss.flatten.toArray e)) ?_ ?_
 ·have hlim':¬ (2 ^ 24 < m * ax T):=by omega
  simp only [execOp,ho,Instr.buildSlice,Sem.run_bind,run_underlying hu,Result.andThen_ok,mA hT,gt_iff_lt,hlim',if_false]
  by_cases hmz:m * ax T=0
  ·rw [if_pos hmz]
   simp only [Sem.run_bind,Sem.run_pure,Result.andThen_ok]
   rw [hfill _ (by simp)]
   simp [newRow]
  ·rw [if_neg hmz]
   simp only [Sem.run_bind,zeroValue,typeInfo,run_program,h1,h2,Sem.run_pure,Result.andThen_ok]
   rw [hfill _ (by simp)]
   simp [newRow]
 ·rw [←hml]
  refine Sl hC' hK hd hE (by rw [hml,←hfl]; exact List.take_length) (by simp only [mH]; rw [hfl,hml]) (cE _) ?_ h
  rw [hml]; unfold maxLen; omega
end
end Go.Fw
/- Soundness, part 15: append, make. -/
namespace Go.Fw
open Go Go.RowKit
section
variable {P:Program} {B:Nat} {G0:Nat→Nat→Prop} {W0:cZ} {n:Nat} {env:Env} {a:Act} {w w':World} {ob:Nat→OB}
variable {R:Type} {K:cH R} {r:R} {next:Act→World→Prop} {Q:Exit→Act→World→Prop} {o:Oper} {i:AI} {cl:ay}
structure xc (w w':World) (B:Nat) (e:TypeId) (size:Nat) (v v':Value) (m1 m2:Nat) (olds news:List Value):Prop where
 Bf:w'.ownsRow B e size v' (m1+m2) (olds++news)
 below:Below B w w'
 rest:∀ b,b < w.heap.size→v.ownBlock≠some b→w'.heap[b]?=w.heap[b]?
 block:∀ g,v'.ownBlock=some g→v.ownBlock=some g∨(w.heap.size≤g∧g < w'.heap.size)
 cells:∀ g j,v.ownBlock=some g→j < m1 * size→w'.cell? ⟨g,j,none⟩=w.cell? ⟨g,j,none⟩
theorem JD {t e ty:TypeId} {it:TypeInfo} {z:Value} {size lim:Nat} (hu:P.underlying t=some (.slice e)) (hi:P.info? e=some it) (hz:it.zero=some z) (hs:it.size=size) (hzs:z.cells.size=size)
  (hlim:lim * it.bytes≤140737488355328) (hmax:lim≤maxLen) {v:Value} {m1:Nat} {olds:List Value} (hown:w.ownsRow B e size v m1 olds) (hB:B≤w.heap.size) {A:Option Addr} {m2 c:Nat} {news:List Value}
  (hnl:news.length=m2 * size) (hA:m2=0∨∃ b off,A=some ⟨b,off,none⟩∧∀ j u,news[j]?=some u→w.cell? ⟨b,off+j,none⟩=some u) (h1:∀ u∈news,u.oneCell'=true) (hsum:m1+m2≤lim):
  ∃ v' w',(Builtin.append_ #[t,t] ty #[v,.slice A m2 c]).run P w=.ok v' w'∧xc w w' B e size v v' m1 m2 olds news:=by
 subst hs
 have hbytes:(m1+m2) * it.bytes≤140737488355328:=dV (BP _ hsum) hlim
 have h63:m1+m2≤9223372036854775807:=by unfold maxLen at hmax; omega
 by_cases h0:m2=0
 ·-- nothing is appended
  subst h0
  have hn:news=[]:=kp (by simpa using hnl)
  subst hn
  refine ⟨v,w,?_,⟨by simpa using hown,Below.refl _ _,fun _ _ _=>rfl,fun g hg=>.inl hg,fun _ _ _ _=>rfl⟩⟩
  rcases hown.2 with ⟨rfl,rfl⟩ | ⟨g,cap,cur,rfl,_,_,hnc,_⟩
  ·cases A<;>simp [Builtin.append_,run_underlying hu,sizeOf,typeInfo,hi,Builtin.lenOf,Builtin.firstCells,loadCells,loadCellsFrom]
  ·cases A<;>simp [Builtin.append_,run_underlying hu,sizeOf,typeInfo,hi,Builtin.lenOf,Builtin.firstCells,loadCells,loadCellsFrom,hnc,storeCells]
 ·obtain ⟨b,off,rfl,hc⟩:=hA.resolve_left h0
  have hc':∀ j u,news[j]?=some u→w.cell? ((⟨b,off,none⟩:Addr).add j)=some u:=fun j u hj=>by rw [kD]; exact hc j u hj
  have hlen:(olds++news).length=(m1+m2) * it.size:=by rw [b5,hown.1,hnl,pL]
  have grown:∀ (old:Nat),old < m1+m2→
    xc w (w.drew.alloc (.cells (olds.toArray++news.toArray++Builtin.zeroCells z.cells (grownCap w (m1+m2) old e - (m1+m2))) e)) B e it.size v (.slice (some ⟨w.heap.size,0,none⟩) (m1+m2) (grownCap w (m1+m2) old e)) m1 m2 olds news:=by
   intro old ho
   have hge:=grownCap_ge w (m1+m2) old e
   have hcm:grownCap w (m1+m2) old e≤maxLen:=grownCap_le_maxLen w (m1+m2) old e (by unfold maxLen; omega)
   have hg:aM w (w.drew.alloc (.cells (olds.toArray++news.toArray++Builtin.zeroCells z.cells (grownCap w (m1+m2) old e - (m1+m2))) e)):=(aM.drew w).trans (aM.alloc w.drew _)
   refine ⟨⟨hlen,.inr ⟨w.heap.size,_,_,rfl,hB,heap_alloc_new w.drew _,hge,hcm,?_,?_⟩⟩,hg.below hB,fun b hb _=>hg.block b hb,fun g hg'=>?_,fun g j hg' _=>?_⟩
   ·simp only [Array.size_append,mH,size_zeroCells,hzs,hown.1,hnl,←pL]
    congr 1; omega
   ·simp only [Array.toList_append,bI]
    rw [←bI,←hlen]
    exact BO
   ·simp only [Value.ownBlock,av] at hg'
    subst hg'
    exact .inr ⟨cE _,by simp⟩
   ·refine hg.cell ?_
    rcases hown.2 with ⟨rfl,_⟩ | ⟨g2,cap,cur,rfl,_,hh,_⟩
    ·simp [Value.ownBlock] at hg'
    ·simp only [Value.ownBlock,av] at hg'; subst hg'
     rcases Nat.lt_or_ge g2 w.heap.size with h | h
     ·exact h
     ·simp [sz h] at hh
  rcases hown.2 with ⟨rfl,hm0⟩ | ⟨g,cap,cur,rfl,hBg,hg,hnc,hcm,hcs,htake⟩
  ·subst hm0
   have ho:olds=[]:=kp (by simpa using hown.1)
   subst ho
   have hr:=run_append_nil (P:=P) w t ty e it z hu hi hz ⟨b,off,none⟩ m2 c news hnl hc' (by omega) (by omega) (by simp only [Nat.zero_add] at hbytes; omega)
   have hgr:=grown 0 (by omega)
   simp only [Nat.zero_add,List.nil_append,Array.empty_append] at hgr ⊢
   refine ⟨_,_,hr,?_⟩
   simpa using hgr
  ·by_cases hroom:m1+m2≤cap
   ·have hfit:m1 * it.size+news.length≤cur.size:=by rw [hnl,hcs,←pL]; exact BP _ hroom
    have hr:=run_append_room (P:=P) w t ty e it hu hi g m1 cap cur hg ⟨b,off,none⟩ m2 c news hnl hc' h1 hroom hfit
    have hglt:g < w.heap.size:=by
     rcases Nat.lt_or_ge g w.heap.size with h | h
     ·exact h
     ·simp [sz h] at hg
    refine ⟨_,_,hr,⟨⟨hlen,.inr ⟨g,cap,_,rfl,hBg,setRow_heap w g cur _ e _ hg,hroom,hcm,?_,?_⟩⟩,⟨rfl,rfl,rfl,by simp,fun k hk=>setRow_other w g k _ (by omega),cE _⟩,fun b hb hne=>setRow_other w g b _ (fun e=>hne (by simp [Value.ownBlock,e])),fun g' hg'=>.inl hg',fun g' j hg' hj=>?_⟩⟩
    ·simp only [mH,b5,pJ,nK,w7]
     omega
    ·rw [htake,←hlen]
     exact BO
    ·simp only [Value.ownBlock,av] at hg'
     subst hg'
     rw [cell_setRow_same w g j cur _ e (0,0) hg,cell_of_row w g j cur e (0,0) hg]
     rw [←iL,←iL]
     simp only [bI]
     rw [fP (by rw [pJ,w7]; omega),sG hj]
   ·have holds:∀ j u,olds[j]?=some u→w.cell? ((⟨g,0,none⟩:Addr).add j)=some u:=hown.cells (g:=g) rfl
    have hr:=run_append_grow (P:=P) w t ty e it z hu hi hz ⟨g,0,none⟩ m1 cap olds hown.1 holds ⟨b,off,none⟩ m2 c news hnl hc' (by omega) (by omega) (growslice_fits (by omega) hbytes)
    exact ⟨_,_,hr,grown cap (by omega)⟩
theorem rZ (s:Nat) (env:Env) (k:Nat):look (jc s env) k=if ez s (look env k) then .dead else look env k:=by
 have:jc s env=env.map fun q=>(q.1,if ez s q.2 then E.dead else q.2):=by
  unfold jc
  apply List.map_congr_left
  intro q _
  split<;>rfl
 rw [this,A8 (fun e=>if ez s e then E.dead else e) (by simp)]
theorem mO:∀ (p:Path) (o:aw) {wr:Bool} {e:TypeId} {o':aw},bU o p=.own wr e o'→cc p=false
 | [],_,_,_,_,_=>rfl
 | .l::p,o,_,_,_,h=>by simp only [bU] at h; simp only [cc]; exact mO p o.l h
 | .r::p,o,_,_,_,h=>by simp only [bU] at h; simp only [cc]; exact mO p o.r h
 | .ix _::_,_,_,_,_,h=>by simp [bU] at h
theorem IW:∀ (p:Path) (T:Ty) (x:den T) (y:TV),cc p=false→aF T p x=some y→aZ T p x y=some x
 | [],T,x,y,_,h=>by
   simp only [aF,av] at h; subst h
   have:aZ T [] x ⟨T,x⟩=bh T ⟨T,x⟩:=by cases T<;>rfl
   rw [this,zx]
 | .l::p,.pair A C,x,y,hi,h=>by
   simp only [aF] at h; simp only [cc] at hi
   simp only [aZ,IW p A x.1 y hi h,ar]
 | .r::p,.pair A C,x,y,hi,h=>by
   simp only [aF] at h; simp only [cc] at hi
   simp only [aZ,IW p C x.2 y hi h,ar]
 | .ix _::_,_,_,_,hi,_=>by simp [cc] at hi
 | .l::_,.int _,_,_,_,h | .l::_,.bool,_,_,_,h | .l::_,.str,_,_,_,h | .l::_,.unit,_,_,_,h | .l::_,.sl _,_,_,_,h | .l::_,.arr _ _,_,_,_,h | .l::_,.fn _ _,_,_,_,h=>by simp [aF] at h
 | .r::_,.int _,_,_,_,h | .r::_,.bool,_,_,_,h | .r::_,.str,_,_,_,h | .r::_,.unit,_,_,_,h | .r::_,.sl _,_,_,_,h | .r::_,.arr _ _,_,_,_,h | .r::_,.fn _ _,_,_,_,h=>by simp [aF] at h
theorem amO (hC:ae P B G0 W0 n env a.tmps w ob) {k:Nat} {p:Path} {h:jE} {v:Value} {env2:Env} (hh:a8 env k p=some h) (hv:bj w a.tmps env k p=some v) (ho:h.o.pure=true) (ht:sw env k p=some env2):
  ∃ b1 b2 b3 cells,ob k=b1++b2++b3∧b2=bK v (if h.wr=true then 0 else h.xs.length * ax h.T)∧fM w B h.e (ax h.T) v h.xs.length cells∧aJ (Flat P h.T w (Gd B G0 ob) B .no) h.xs cells []∧
    (∀ s,s≠k→(look env2 s=.dead∧(look env s).home=false∧ob s=[])∨(look env2 s=look env s∧leads k (look env s)=false)∨
     (∃ q T o x o' x',look env s=.ptr k q∧look env2 s=.ptr k q∧look env k=.loc T o x∧look env2 k=.loc T o' x'))∧
    (∀ (w':World) (G':Nat→Nat→Prop) (tm':Array Value) (env':Env),(∀ b i,b < w.heap.size→Gd B G0 ob b i→G' b i∧w'.cell? ⟨b,i,none⟩=w.cell? ⟨b,i,none⟩)→bP B w w'→
     (∀ g∈blocks (b1++b3),w'.heap[g]?=w.heap[g]?)→bm P w' G' B tm' env' (look env2 k) (a.tmps.getD k undef) (b1++b3)):=by
 have hr:=hC.rep k
 have hh':=hh
 simp only [a8] at hh
 simp only [bj] at hv
 unfold sw at ht
 split at hh
 ·rename_i wr e T oa xs hk
  rw [hk] at hr hv ht
  split at hh
  ·simp only [av] at hh hv ht
   subst hh; subst hv; subst ht
   have hr':Flat P (.sl T) w (Gd B G0 ob) B (.own wr e oa) xs [a.tmps.getD k undef] (ob k):=hr
   unfold Flat at hr'
   obtain ⟨v',cells,b2,e1,h2,h3,h4⟩:=hr'
   simp only [gg,and_true] at e1
   subst e1
   obtain ⟨hb2,h5⟩:=aJ.pure P (o':=.no) ho rfl h3
   subst hb2
   refine ⟨[],_,[],cells,by rw [h4]; simp,rfl,h2,h5,fun s hs=>?_,fun w' G' tm' env' _ _ _=>?_⟩
   ·rw [aL,if_neg (bp hs),nx]
    by_cases hl:leads k (look env s)=true
    ·rw [if_pos hl]
     refine .inl ⟨rfl,?_,(bm.leads hl (hC.rep s)).2⟩
     cases hes:look env s<;>rw [hes] at hl<;>simp_all [leads,E.home]
    ·rw [if_neg hl]; exact .inr (.inl ⟨rfl,by simpa using hl⟩)
   ·rw [aL,if_pos rfl]; exact rfl
  ·exact absurd hh (by simp)
 ·rename_i T oa x hk
  rw [hk] at ht hv
  simp only [av] at ht
  subst ht
  split at hh
  ·rename_i wr e' o' T' xs he hg
   simp only [av] at hh
   subst hh
   obtain ⟨b,cur,e,v1,v2,v3,b1,b2,b3,k1,k2,k3,k4,k5,k6,k7,k8⟩:=kh hC hk hg
   rw [he] at k7
   have hv2:v2.length=1:=Flat.len P (.sl T') k7
   obtain ⟨u,rfl⟩:=nL.1 hv2
   have hcell:=mU k2 k4 0 u rfl
   rw [k5,ky] at hcell
   simp only [k1] at hv
   rw [hcell] at hv
   simp only [av] at hv
   subst hv
   have k7':=k7
   unfold Flat at k7'
   obtain ⟨v',cells,bb,e1,h2,h3,h4⟩:=k7'
   simp only [gg,and_true] at e1
   subst e1
   obtain ⟨hbb,h5⟩:=aJ.pure P (o':=.no) ho rfl h3
   subst hbb
   have hix:=mO p oa he
   have hole:Flat P T w (Gd B G0 ob) B (eI oa p .hole) x (v1++[u]++v3) (b1++[]++b3):=
    k8 .hole xs [u] [] x (fun hp=>by rw [hix] at hp; exact absurd hp (by simp)) (by unfold Flat; exact ⟨rfl,rfl⟩) (IW p T x _ hix hg)
   refine ⟨(b,0)::b1,b2,b3,cells,by rw [k6]; simp,by rw [h4]; simp,h2,h5,fun s hs=>?_,fun w' G' tm' env' hG hL hO=>?_⟩
   ·rw [aL,if_neg (bp hs),rZ]
    by_cases hl:ez k (look env s)=true
    ·rw [if_pos hl]
     have hl2:leads k (look env s)=true:=by
      cases hes:look env s<;>rw [hes] at hl<;>simp only [ez] at hl<;>first | exact hl | (simp at hl; done)
     refine .inl ⟨rfl,?_,(bm.leads hl2 (hC.rep s)).2⟩
     cases hes:look env s<;>rw [hes] at hl2<;>simp_all [leads,E.home]
    ·rw [if_neg hl]
     by_cases hl2:leads k (look env s)=true
     ·right; right
      cases hes:look env s with
      | ptr k' q=>
        rw [hes] at hl2
        simp only [leads,beq_iff_eq] at hl2; subst hl2
        exact ⟨q,T,oa,x,_,x,rfl,rfl,hk,by rw [aL,if_pos rfl]⟩
      | _=>rw [hes] at hl hl2; exact absurd hl2 (by simpa only [ez] using hl)
     ·exact .inr (.inl ⟨rfl,by simpa using hl2⟩)
   ·rw [aL,if_pos rfl]
    refine ⟨b,cur,e,b1++b3,k1,k3,?_,?_,by simp⟩
    ·rw [hO b (by simp)]; exact k2
    ·rw [k4]
     exact Flat.mono P T hG hL (fun g hg=>hO g (by simp only [List.cons_append,jt,List.mem_cons]; exact .inr (by simpa using hg))) (by simpa using hole)
  ·exact absurd hh (by simp)
 ·exact absurd hh (by simp)
theorem xc.wu {B:Nat} {e:TypeId} {size:Nat} {v v':Value} {m1 m2:Nat} {olds news:List Value} (h:xc w w' B e size v v' m1 m2 olds news) (hv:v.ownBlock=none):aM w w':=
 ⟨h.below.os,h.below.tape,h.below.output,h.below.size,fun b hb=>h.rest b hb (by rw [hv]; simp),h.below.drawn⟩
theorem Bd (v:Value) (l:Nat):∀ b,b∈blocks (bK v l)→v.ownBlock=some b:=by
 intro b hb
 unfold bK at hb
 cases hv:v.ownBlock with
 | none=>rw [hv] at hb; simp at hb
 | some g=>rw [hv] at hb; simp at hb; rw [hb]
theorem II (v:Value) (l:Nat):(blocks (bK v l)).Nodup:=by unfold bK; cases v.ownBlock<;>simp
set_option maxHeartbeats 800000 in
theorem agB {t e:TypeId} {T:Ty} {lim:Nat} {x s:Operand} {y sy:Od} {it:TypeInfo} {z:Value} (hC:ae P B G0 W0 n env a.tmps w ob) (hK:bA P B G0 W0 n a K r next) (hd:∀ k,o.dst=some k→bl W0 n k) (hdst:i.dst=o.dst)
  (ho:o.op=.call {callee:=.builtin .append,args:=#[s,x],argTypes:=#[t,t]}) (hi:i.op=.append e T lim sy y) (hu:P.underlying t=some (.slice e)) (hT:bC P e T) (hie:P.info? e=some it) (hz:it.zero=some z) (hzs:z.cells.size=ax T)
  (hlim:lim * it.bytes≤140737488355328) (hmax:lim≤maxLen) (hnb:e≠gD) (hx:aE x y=true) (hs:aE s sy=true) (h:step cl i env K=some r):o.wp P a w next Q:=by
 unfold step at h; rw [hi] at h; simp only [hdst,aj] at h
 obtain ⟨⟨env1,zz⟩,hp,ys,hys,h⟩:=h
 obtain ⟨ob1,hf1,hC1,vs,hv,hF⟩:=lJ hC hx hp
 have hzz:=cI hys
 simp only at hzz; subst hzz
 replace hF:Flat P (.sl T) w (Gd B G0 ob1) B .no ys vs []:=hF
 replace hv:a.eval x=bg (.sl T) vs:=hv
 have hF':=hF
 unfold Flat at hF'
 obtain ⟨_,A,c,rfl,hlc,hcm,hA⟩:=hF'
 rw [xJ] at hv
 have hsz:it.size=ax T:=by
  obtain ⟨i2,h2,h3⟩:=hT.size
  rw [hie] at h2; cases h2; exact h3
 -- the cells that are appended
 obtain ⟨news,hnE,hnA⟩:∃ news,aJ (Flat P T w (Gd B G0 ob1) B .no) ys news []∧(ys.length=0∨∃ b off,A=some ⟨b,off,none⟩∧∀ j u,news[j]?=some u→w.cell? ⟨b,off+j,none⟩=some u):=by
  rcases hA with rfl | ⟨b,off,cells,rfl,hE,hcell⟩
  ·exact ⟨[],⟨rfl,rfl⟩,.inl rfl⟩
  ·exact ⟨cells,hE,.inr ⟨b,off,rfl,fun j u hj=>(hcell j u hj).1⟩⟩
 have hnl:news.length=ys.length * ax T:=aJ.length (fun x v b hx=>Flat.len P T hx) hnE
 have hn1:∀ u∈news,u.oneCell'=true:=by
  have:∀ {xs:List (den T)} {vs:List Value} {ob:OB},aJ (Flat P T w (Gd B G0 ob1) B .no) xs vs ob→∀ u∈vs,u.oneCell'=true:=by
   intro xs
   induction xs with
   | nil=>rintro vs ob ⟨rfl,rfl⟩; simp
   | cons x xs ih=>
     rintro vs ob ⟨u1,u2,c1,c2,rfl,rfl,hr,ht⟩ u hu
     rcases dn.1 hu with hu | hu
     ·exact Flat.one P T (o:=.no) rfl hr u hu
     ·exact ih ht u hu
  exact this hnE
 have run:∀ {v v':Value} {w':World},a.eval s=v→(Builtin.append_ #[t,t] o.type #[v,.slice A ys.length c]).run P w=.ok v' w'→(execOp a.eval o).run P w=.ok (.value v') w':=by
  intro v v' w' hev hrun
  simp [execOp,ho,resolve,invoke,builtin,hev,hv,hrun]
 split at h
 ·-- onto nil
  rename_i e' T'
  split at h
  case isFalse=>simp at h
  rename_i hee
  split at h
  case isFalse=>simp at h
  rename_i hle
  have hev:a.eval s=.slice none 0 0:=by
   unfold aE at hs
   split at hs<;>first | (rename_i hh; cases hh; exact oy hs) | (rename_i hh; cases hh; done) | (exact absurd hs (by simp))
  obtain ⟨v',w',hrun,hgrew⟩:=JD (ty:=o.type) hu hie hz hsz hzs hlim hmax (World.ownsRow_nil w B e (ax T)) hC1.base hnl hnA hn1 (by omega)
  have hg:=hgrew.wu rfl
  refine bo (run hev hrun) ?_
  cases bN:o.dst with
  | none=>
    rw [bN] at h
    exact bu (e:=.dead) hC1 hK (d:=none) (by simp) hg (v:=v') rfl h
  | some d=>
    rw [bN] at h
    have hfresh:∀ b,b∈blocks (bK v' 0)→w.heap.size≤b∧b < w'.heap.size:=fun b hb=>by
     rcases hgrew.block b (Bd v' 0 b hb) with q | q
     ·simp [Value.ownBlock] at q
     ·exact q
    have h2:=ae.lK (e:=.own true e T .no ys) (v:=v') (bk:=bK v' 0) hC1 (hd d bN) hg ?_ hfresh (II _ _)
    ·exact hK _ _ _ _ h2 h
    ·rw [if_neg (by simp [leads])]
     show Flat P (.sl T) w' _ B (.own true e .no) ys [v'] _
     unfold Flat
     refine ⟨v',news,[],rfl,si (by simpa using hgrew.Bf),aJ.imp (fun x u b hb hx=>?_) hnE,by simp⟩
     have:b=[]:=by cases b with | nil=>rfl | cons q r=>exact absurd (hb q (by simp)) (by simp)
     subst this
     exact Flat.mono P T (fun b i hb h=>⟨pH (fun lim hl=>by have:=(hfresh b (aC.2 ⟨_,hl⟩)).1; omega) h,hg.cell hb⟩) ⟨hg.size,fun b hb=>hg.block b (dp hb hC1.base)⟩ (by simp) hx
 ·-- onto a slice that is held
  rename_i k0
  simp only [aj] at h
  obtain ⟨⟨k,p⟩,hpl,hh,hhe,xs,hxs,env2,htk,h⟩:=h
  split at h
  case h_2=>simp at h
  rename_i hcond
  split at h
  case isFalse=>simp at h
  rename_i hle
  simp only [aq] at hcond
  obtain ⟨⟨hap,hpure⟩,hee⟩:=hcond
  have hee':hh.e=e:=by simpa using hee
  have hTT:=cI hxs
  -- the header
  have hr1:=hC1.rep k0
  have hev:a.eval s=a.tmps.getD k0 undef:=jg hs a
  have hhead:bj w a.tmps env1 k p=some (a.eval s):=by
   unfold placeOf at hpl
   split at hpl
   ·rename_i he
    simp only [av,er] at hpl
    obtain ⟨rfl,rfl⟩:=hpl
    simp [bj,he,hev]
   ·rename_i k' p' he
    simp only [av,er] at hpl
    obtain ⟨rfl,rfl⟩:=hpl
    rw [he] at hr1
    rw [hev]; exact hr1.2.1
   ·exact absurd hpl (by simp)
  obtain ⟨wr,eh,Th,oh,xh⟩:=hh
  simp only at hee' hpure hTT hle h
  have hTh:Th=T:=by
   have:=congrArg Sigma.fst hTT
   simpa using this
  subst hTh
  have hxh:xh=xs:=by simpa using hTT
  subst hxh
  subst hee'
  obtain ⟨b1,b2,b3,cells,e1,e2,e3,e4,e5,e6⟩:=amO hC1 hhe hhead hpure htk
  simp only at e2 e3 e4
  obtain ⟨v',w',hrun,hgrew⟩:=JD (ty:=o.type) hu hie hz hsz hzs hlim hmax (e3.Bf hnb) hC1.base hnl hnA hn1 hle
  refine bo (run rfl hrun) ?_
  cases bN:o.dst with
  | none=>rw [bN] at hap; simp [apart] at hap
  | some d=>
    rw [bN] at hap h
    have hdk:d≠k:=by simpa [apart] using hap
    have hlook:∀ j,look (aK env2 (some d) (.own wr eh Th .no (xh++ys))) j=if d=j then .own wr eh Th .no (xh++ys) else if (look env2 d).home=true∧leads d (look env2 j)=true then .dead else look env2 j:=by
     intro j
     simp only [Fw.aK]
     rw [iE]
     simp only [leads,dN,if_false]
    have hlim':∀ lim',(∀ g,(a.eval s).ownBlock=some g→(g,lim')∈ob1 k→True):=fun _ _ _ _=>trivial
    have hC2:=ae.IP (k:=k) (d:=d) (w':=w') (v:=v') (bd:=bK v' (if wr=true then 0 else (xh++ys).length * ax Th)) (ek:=look env2 k) (ed:=.own wr eh Th .no (xh++ys))
     (env':=aK env2 (some d) (.own wr eh Th .no (xh++ys))) hC1 hdk (hd d bN) e1 rfl hgrew.below (fun b hb hnb=>hgrew.rest b hb (fun q=>hnb (by rw [e2]; exact aC.2 ⟨_,jw q⟩)))
     (fun b hb=>by
      rcases hgrew.block b (Bd v' _ b hb) with q | q
      ·exact .inl (by rw [e2]; exact aC.2 ⟨_,jw q⟩)
      ·exact .inr q) (II _ _) (fun b i hb hb2 hg=>?_) ?_ ?_ (fun j hjk hjd=>?_) (fun j hjk hjd hdead=>?_) (fun hG=>?_) (fun hG=>?_)
    ·exact hK _ _ _ _ hC2 h
    ·-- cells of the row that could be read
     have hbo:(a.eval s).ownBlock=some b:=by rw [e2] at hb2; exact Bd _ _ _ hb2
     have hrec:(b,if wr=true then 0 else xh.length * ax Th)∈ob1 k:=by
      rw [e1,e2]; simp [jw hbo]
     have hBb:=(hC1.low k b (aC.2 ⟨_,hrec⟩)).1
     have hi:i < if wr=true then 0 else xh.length * ax Th:=by
      rcases hg with ⟨q,_⟩ | ⟨_,_,q⟩
      ·omega
      ·exact q k _ hrec
     cases wr with
     | true=>simp at hi
     | false=>
       simp only [dN,if_false] at hi ⊢
       refine ⟨fun lim' hl=>?_,hgrew.cells b i hbo hi⟩
       have:lim'=(xh++ys).length * ax Th:=by
        unfold bK at hl
        cases hvb:v'.ownBlock with
        | none=>rw [hvb] at hl; simp at hl
        | some g=>rw [hvb] at hl; simp at hl; rw [hl.2]; simp
       rw [this,b5,pL]; omega
    ·rw [hlook,if_neg hdk]
     have:leads d (look env2 k)=false:=by
      unfold sw at htk
      split at htk
      ·simp only [av] at htk; subst htk; rw [aL,if_pos rfl]; rfl
      ·simp only [av] at htk; subst htk; rw [aL,if_pos rfl]; rfl
      ·exact absurd htk (by simp)
     simp [this]
    ·rw [hlook,if_pos rfl]
    ·rw [hlook,if_neg (bp hjd)]
     have hdhome:look env2 d=look env1 d∨(look env2 d).home=false:=by
      rcases e5 d hdk with ⟨q,_⟩ | ⟨q,_⟩ | ⟨_,_,_,_,_,_,q1,q2,_⟩
      ·right; rw [q]; rfl
      ·left; exact q
      ·right; rw [q2]; rfl
     rcases e5 j hjk with ⟨q1,q2,q3⟩ | ⟨q1,q2⟩ | ⟨q,Tq,oq,xq,oq',xq',q1,q2,q3,q4⟩
     ·left; rw [q1]; simp [leads]
     ·by_cases hkill:(look env2 d).home=true∧leads d (look env2 j)=true
      ·left; rw [if_pos hkill]
      ·right; left
       rw [if_neg hkill]
       refine ⟨q1,q2,fun hk2=>hkill ?_⟩
       rcases hdhome with hd1 | hd1
       ·rw [hd1,q1]; exact hk2
       ·exfalso
        rcases e5 d hdk with ⟨z1,z2,_⟩ | ⟨z1,_⟩ | ⟨_,_,_,_,_,_,z1,_⟩
        ·rw [z2] at hk2; exact absurd hk2.1 (by simp)
        ·rw [z1] at hd1; rw [hd1] at hk2; exact absurd hk2.1 (by simp)
        ·rw [z1] at hk2; simp [E.home] at hk2
     ·right; right
      have:leads d (look env2 j)=false:=by rw [q2]; simp [leads,bp hdk]
      rw [this]
      simp only [dN,and_false,if_false]
      exact ⟨q,Tq,oq,xq,oq',xq',q1,q2,q3,q4⟩
    ·rw [hlook,if_neg (bp hjd)] at hdead
     rcases e5 j hjk with ⟨q1,q2,q3⟩ | ⟨q1,q2⟩ | ⟨q,Tq,oq,xq,oq',xq',q1,q2,q3,q4⟩
     ·exact ⟨q3,q2⟩
     ·by_cases hkill:(look env2 d).home=true∧leads d (look env2 j)=true
      ·have hl:=hkill.2
       rw [q1] at hl
       refine ⟨(bm.leads hl (hC1.rep j)).2,?_⟩
       cases hes:look env1 j<;>rw [hes] at hl<;>simp_all [leads,E.home]
      ·rw [if_neg hkill,q1] at hdead
       have:=hC1.rep j
       rw [hdead] at this ⊢
       exact ⟨this,rfl⟩
     ·rw [q2] at hdead
      have:leads d (E.ptr k q)=false:=by simp [leads,bp hdk]
      rw [this] at hdead; simp at hdead
    ·refine e6 w' _ _ _ hG ⟨hgrew.below.size,hgrew.below.block⟩ (fun g hg=>hgrew.rest g ?_ ?_)
     ·obtain ⟨l,hl⟩:=aC.1 hg
      refine (hC1.low k g (aC.2 ⟨l,?_⟩)).2
      rw [e1]; rcases dn.1 hl with q | q<;>simp [q]
     ·intro q
      have hnd:=hC1.nodup k
      rw [e1] at hnd
      simp only [eF] at hnd hg
      rw [bI,iP] at hnd
      obtain ⟨n1,n2,n3⟩:=hnd
      rw [iP] at n2
      have hg2:g∈blocks b2:=by rw [e2]; exact aC.2 ⟨_,jw q⟩
      rcases dn.1 hg with q' | q'
      ·exact n3 g q' g (fR _ hg2) rfl
      ·exact n2.2.2 g hg2 g q' rfl
    ·show Flat P (.sl Th) w' _ B (.own wr eh .no) (xh++ys) [v'] _
     unfold Flat
     refine ⟨v',cells++news,[],rfl,si (by simpa [b5] using hgrew.Bf),?_,by simp⟩
     have hm:∀ {xs:List (den Th)} {vs:List Value},aJ (Flat P Th w (Gd B G0 ob1) B .no) xs vs []→aJ (Flat P Th w' (Gd B G0 _) B .no) xs vs []:=fun hE=>aJ.imp (fun x u b hb hx=>by
      have:b=[]:=by cases b with | nil=>rfl | cons q r=>exact absurd (hb q (by simp)) (by simp)
      subst this
      exact Flat.mono P Th hG ⟨hgrew.below.size,hgrew.below.block⟩ (by simp) hx) hE
     simpa using aJ.append (hm e4) (hm hnE)
 ·exact absurd h (by simp)
end
end Go.Fw
/- Soundness, part 16: arguments of a call; what a callee answers. -/
namespace Go.Fw
open Go Go.RowKit
theorem Flat.eH (P:Program):∀ (T:Ty) {w:World} {G:Nat→Nat→Prop} {B:Nat} {o:aw} {x:den T} {vs:List Value} {ob:OB},b7 T=true→Flat P T w G B o x vs ob→
  ob=[]∧∀ (w':World) (G':Nat→Nat→Prop) (B':Nat) (o':aw),Flat P T w' G' B' o' x vs []
 | .int k,_,_,_,_,_,_,_,_,h=>by unfold Flat at h; exact ⟨h.2.2,fun _ _ _ _=>by unfold Flat; exact ⟨h.1,h.2.1,rfl⟩⟩
 | .bool,_,_,_,_,_,_,_,_,h=>by unfold Flat at h; exact ⟨h.2,fun _ _ _ _=>by unfold Flat; exact ⟨h.1,rfl⟩⟩
 | .str,_,_,_,_,_,_,_,_,h=>by unfold Flat at h; exact ⟨h.2.2,fun _ _ _ _=>by unfold Flat; exact ⟨h.1,h.2.1,rfl⟩⟩
 | .unit,_,_,_,_,_,_,_,_,h=>by unfold Flat at h; exact ⟨h.2,fun _ _ _ _=>by unfold Flat; exact ⟨h.1,rfl⟩⟩
 | .pair A C,_,_,_,_,_,_,_,hs,h=>by
   simp only [b7,aq] at hs
   unfold Flat at h
   obtain ⟨v1,v2,b1,b2,rfl,rfl,h1,h2⟩:=h
   obtain ⟨e1,k1⟩:=Flat.eH P A hs.1 h1
   obtain ⟨e2,k2⟩:=Flat.eH P C hs.2 h2
   exact ⟨by rw [e1,e2]; rfl,fun w' G' B' o'=>by unfold Flat; exact ⟨v1,v2,[],[],rfl,rfl,k1 _ _ _ _,k2 _ _ _ _⟩⟩
 | .arr n T,w,G,B,_,_,_,_,hs,h=>by
   simp only [b7] at hs
   unfold Flat at h
   have key:∀ {xs:List (den T)} {vs:List Value} {ob:OB},aJ (Flat P T w G B .no) xs vs ob→ob=[]∧∀ (w':World) (G':Nat→Nat→Prop) (B':Nat),aJ (Flat P T w' G' B' .no) xs vs []:=by
    intro xs
    induction xs with
    | nil=>rintro vs ob ⟨rfl,rfl⟩; exact ⟨rfl,fun _ _ _=>⟨rfl,rfl⟩⟩
    | cons x xs ih=>
      rintro vs ob ⟨u1,u2,c1,c2,rfl,rfl,hr,ht⟩
      obtain ⟨e1,k1⟩:=Flat.eH P T hs hr
      obtain ⟨e2,k2⟩:=ih ht
      exact ⟨by rw [e1,e2]; rfl,fun w' G' B'=>⟨u1,u2,[],[],rfl,rfl,k1 _ _ _ _,k2 _ _ _⟩⟩
   obtain ⟨e,k⟩:=key h.2
   exact ⟨e,fun w' G' B' o'=>by unfold Flat; exact ⟨h.1,k _ _ _⟩⟩
 | .sl T,_,_,_,_,_,_,_,hs,_=>by simp [b7] at hs
 | .fn A C,_,_,_,_,_,_,_,hs,_=>by simp [b7] at hs
 | .map K V,_,_,_,_,_,_,_,hs,_=>by simp [b7] at hs
theorem Flat.up (P:Program):∀ (T:Ty) {w:World} {G:Nat→Nat→Prop} {B B':Nat} {x:den T} {vs:List Value} {ob:OB},B≤B'→Flat P T w G B .no x vs ob→Flat P T w G B' .no x vs ob
 | .int k,_,_,_,_,_,_,_,_,h=>by unfold Flat at h ⊢; exact h
 | .bool,_,_,_,_,_,_,_,_,h=>by unfold Flat at h ⊢; exact h
 | .str,_,_,_,_,_,_,_,_,h=>by unfold Flat at h ⊢; exact h
 | .unit,_,_,_,_,_,_,_,_,h=>by unfold Flat at h ⊢; exact h
 | .pair A C,_,_,_,_,_,_,_,hB,h=>by
   unfold Flat at h ⊢
   obtain ⟨v1,v2,b1,b2,rfl,rfl,h1,h2⟩:=h
   exact ⟨v1,v2,b1,b2,rfl,rfl,Flat.up P A hB h1,Flat.up P C hB h2⟩
 | .arr n T,_,_,_,_,_,_,_,hB,h=>by
   unfold Flat at h ⊢
   exact ⟨h.1,aJ.imp (fun x v b _ hx=>Flat.up P T hB hx) h.2⟩
 | .sl T,_,_,_,_,_,_,_,hB,h=>by
   unfold Flat at h ⊢
   obtain ⟨h0,A,c,h1,h2,h3,h4⟩:=h
   refine ⟨h0,A,c,h1,h2,h3,?_⟩
   rcases h4 with h4 | ⟨b,off,cells,h5,h6,h7⟩
   ·exact .inl h4
   ·exact .inr ⟨b,off,cells,h5,aJ.imp (fun x v b _ hx=>Flat.up P T hB hx) h6,h7⟩
 | .map K V,_,_,_,_,_,_,_,hB,h=>by unfold Flat at h ⊢; exact h
 | .fn A C,_,_,_,_,_,_,_,hB,h=>by
   unfold Flat at h ⊢
   obtain ⟨h0,hs,f,caps,h1,h2⟩:=h
   refine ⟨h0,hs,f,caps,h1,fun w' G' x vals hl hx r hr=>?_⟩
   have h3:=h2 w' G' x vals ⟨hl.1,fun b hb=>hl.2 b (dp hb hB)⟩ hx r hr
   refine ⟨h3.1,Calls.mono h3.2 ?_⟩
   rintro e w'' ⟨rs,k1,k2⟩
   exact ⟨rs,(Flat.eH P C hs k1).2 _ _ _ _,k2⟩
theorem Flat.down (P:Program):∀ (T:Ty) {w:World} {G:Nat→Nat→Prop} {B B':Nat} {o:aw} {x:den T} {vs:List Value} {ob:OB},ea T=true→B'≤B→Flat P T w G B o x vs ob→Flat P T w G B' o x vs ob
 | .int k,_,_,_,_,_,_,_,_,_,_,h=>by unfold Flat at h ⊢; exact h
 | .bool,_,_,_,_,_,_,_,_,_,_,h=>by unfold Flat at h ⊢; exact h
 | .str,_,_,_,_,_,_,_,_,_,_,h=>by unfold Flat at h ⊢; exact h
 | .unit,_,_,_,_,_,_,_,_,_,_,h=>by unfold Flat at h ⊢; exact h
 | .pair A C,_,_,_,_,_,_,_,_,hn,hB,h=>by
   simp only [ea,aq] at hn
   unfold Flat at h ⊢
   obtain ⟨v1,v2,b1,b2,rfl,rfl,h1,h2⟩:=h
   exact ⟨v1,v2,b1,b2,rfl,rfl,Flat.down P A hn.1 hB h1,Flat.down P C hn.2 hB h2⟩
 | .arr n T,_,_,_,_,_,_,_,_,hn,hB,h=>by
   simp only [ea] at hn
   unfold Flat at h ⊢
   exact ⟨h.1,aJ.imp (fun x v b _ hx=>Flat.down P T hn hB hx) h.2⟩
 | .sl T,w,G,B,B',o,xs,vs,ob,hn,hB,h=>by
   simp only [ea] at hn
   have cS:(ob=[]∧∃ A c,vs=[.slice A xs.length c]∧xs.length≤c∧c≤maxLen∧
    (xs=[]∨∃ b off cells,A=some ⟨b,off,none⟩∧aJ (Flat P T w G B .no) xs cells []∧∀ j v,cells[j]?=some v→w.cell? ⟨b,off+j,none⟩=some v∧G b (off+j)))→
    (ob=[]∧∃ A c,vs=[.slice A xs.length c]∧xs.length≤c∧c≤maxLen∧
    (xs=[]∨∃ b off cells,A=some ⟨b,off,none⟩∧aJ (Flat P T w G B' .no) xs cells []∧∀ j v,cells[j]?=some v→w.cell? ⟨b,off+j,none⟩=some v∧G b (off+j))):=by
    rintro ⟨h0,A,c,h1,h2,h3,h4⟩
    refine ⟨h0,A,c,h1,h2,h3,?_⟩
    rcases h4 with h4 | ⟨b,off,cells,h5,h6,h7⟩
    ·exact .inl h4
    ·exact .inr ⟨b,off,cells,h5,aJ.imp (fun x v b _ hx=>Flat.down P T hn hB hx) h6,h7⟩
   cases o with
   | no=>unfold Flat at h ⊢; exact cS h
   | hole=>unfold Flat at h ⊢; exact h
   | pair a b=>unfold Flat at h ⊢; exact cS h
   | mp=>unfold Flat at h ⊢; exact cS h
   | own wr e o=>
     unfold Flat at h ⊢
     obtain ⟨v,cells,ob',h1,h2,h3,h4⟩:=h
     refine ⟨v,cells,ob',h1,⟨h2.1,?_⟩,aJ.imp (fun x v b _ hx=>Flat.down P T hn hB hx) h3,h4⟩
     rcases h2.2 with k | ⟨g,cap,cur,e1,fz,k1,k2,k3⟩
     ·exact .inl k
     ·exact .inr ⟨g,cap,cur,e1,fz,k1,dV hB k2,k3⟩
 | .fn A C,_,_,_,_,_,_,_,_,hn,_,_=>by simp [ea] at hn
 | .map K V,w,G,B,B',o,xs,vs,ob,hn,hB,h=>by
   cases o with
   | mp=>
     unfold Flat at h ⊢
     obtain ⟨h1,h2,b,ents,clk,h3,h4,h5,h6,h7⟩:=h
     refine ⟨h1,h2,b,ents,clk,h3,dV hB h4,h5,h6,eb.imp (fun x m=>?_) h7⟩
     rintro ⟨ks,us,k1,k2,k3⟩
     exact ⟨ks,us,(Flat.eH P K h1 k1).2 _ _ _ _,(Flat.eH P V h2 k2).2 _ _ _ _,k3⟩
   | no | hole | pair | own=>unfold Flat at h ⊢; exact h
def iK (P:Program) (w:World) (G:Nat→Nat→Prop):E→Value→Prop
 | .v T x,v=>∃ vs,Flat P T w G w.heap.size .no x vs []∧v=bg T vs
 | .at T x,v=>∃ b off vs,v=.pointer (some ⟨b,off,none⟩)∧Flat P T w G w.heap.size .no x vs []∧∀ j u,vs[j]?=some u→w.cell? ⟨b,off+j,none⟩=some u
 | .dead,v=>v=.slice none 0 0
 | _,_=>False
inductive dI (P:Program) (w:World) (G:Nat→Nat→Prop):List E→List Value→Prop
 | nil:dI P w G [] []
 | cons {e:E} {v:Value} {es:List E} {vs:List Value}:iK P w G e v→dI P w G es vs→dI P w G (e::es) (v::vs)
theorem dI.append {P:Program} {w:World} {G:Nat→Nat→Prop} {es fs:List E} {vs us:List Value} (h:dI P w G es vs) (k:dI P w G fs us):dI P w G (es++fs) (vs++us):=by
 induction h with
 | nil=>exact k
 | cons h _ ih=>exact .cons h ih
theorem iK.A2 {P:Program} {w w':World} {G G':Nat→Nat→Prop} {e:E} {v:Value} (hL:bP w.heap.size w w') (hG:∀ b i,b < w.heap.size→G b i→G' b i) (h:iK P w G e v):iK P w' G' e v:=by
 have cell:∀ b i,b < w.heap.size→w'.cell? ⟨b,i,none⟩=w.cell? ⟨b,i,none⟩:=fun b i hb=>NP hL hb
 cases e<;>first | exact (h:False).elim | skip
 ·exact h
 ·obtain ⟨vs,h1,h2⟩:=h
  exact ⟨vs,Flat.up P _ hL.1 (Flat.mono P _ (fun b i hb hg=>⟨hG b i hb hg,cell b i hb⟩) hL (by simp) h1),h2⟩
 ·obtain ⟨b,off,vs,h1,h2,h3⟩:=h
  refine ⟨b,off,vs,h1,Flat.up P _ hL.1 (Flat.mono P _ (fun b i hb hg=>⟨hG b i hb hg,cell b i hb⟩) hL (by simp) h2),fun j u hj=>?_⟩
  rw [cell b _ (World.block_lt_of_cell? w _ (h3 j u hj))]
  exact h3 j u hj
theorem dI.A2 {P:Program} {w w':World} {G G':Nat→Nat→Prop} {es:List E} {vs:List Value} (hL:bP w.heap.size w w') (hG:∀ b i,b < w.heap.size→G b i→G' b i) (h:dI P w G es vs):dI P w' G' es vs:=by
 induction h with
 | nil=>exact .nil
 | cons h _ ih=>exact .cons (iK.A2 hL hG h) ih
def Gr (B:Nat) (G:Nat→Nat→Prop) (rob:OB) (b i:Nat):Prop:=(b < B∧G b i)∨(B≤b∧∀ lim,(b,lim)∈rob→i < lim)
structure kB (P:Program) (w w':World) (G:Nat→Nat→Prop) (res:List E) (v:Value) (rob:OB):Prop where
 rep:bm P w' (Gr w.heap.size G rob) w.heap.size #[] [] (eg res) v rob
 back:res.all E.back=true
 nodup:(blocks rob).Nodup
 new:∀ b∈blocks rob,w.heap.size≤b∧b < w'.heap.size
def BR (w w':World) (v:Value) (k:Nat) (cells:List Value):Prop:=
 (v.ownBlock=none∧aM w w'∧k=0)∨∃ g cur e fz cs w1,v.ownBlock=some g∧w.heap[g]?=some (.cells cur e fz)∧aM w w1∧w'=w1.setRow g cs∧cs.size=cur.size∧cs.toList.take k=cells
structure ia (v:Value) (w w1:World):Prop where
 os:w1.os=w.os
 tape:w1.tape=w.tape
 output:w1.output=w.output
 size:w.heap.size≤w1.heap.size
 drawn:w.drawn≤w1.drawn
 rest:∀ b,b < w.heap.size→v.ownBlock≠some b→w1.heap[b]?=w.heap[b]?
def xd (P:Program) (w:World) (G:Nat→Nat→Prop) (T:Ty) (o:aw) (x:den T) (v:Value) (lob:OB):Prop:=
 ∃ b cur e ob',v=.pointer (some ⟨b,0,none⟩)∧w.heap[b]?=some (.cells cur e (0,0))∧Flat P T w G 0 o x cur.toList ob'∧lob=(b,0)::ob'
def Gl (w:World) (G:Nat→Nat→Prop) (lob nob:OB) (b i:Nat):Prop:=
 (b < w.heap.size∧b∉blocks lob∧G b i)∨((w.heap.size≤b∨b∈blocks lob)∧∀ lim,(b,lim)∈nob→i < lim)
structure sE (P:Program) (w w':World) (G:Nat→Nat→Prop) (lob lob':OB) (T:Ty) (o':aw) (x':den T) (v:Value) (res:List E) (rv:Value) (rob:OB):Prop where
 os:w'.os=w.os
 tape:w'.tape=w.tape
 output:w'.output=w.output
 size:w.heap.size≤w'.heap.size
 drawn:w.drawn≤w'.drawn
 rest:∀ b,b < w.heap.size→b∉blocks lob→w'.heap[b]?=w.heap[b]?
 cells:∀ b i,b < w.heap.size→G b i→w'.cell? ⟨b,i,none⟩=w.cell? ⟨b,i,none⟩∧∀ lim,(b,lim)∈lob'++rob→i < lim
 shown:xd P w' (Gl w G lob (lob'++rob)) T o' x' v lob'
 rep:bm P w' (Gl w G lob (lob'++rob)) 0 #[] [] (eg res) rv rob
 back:res.all E.back=true
 nodup:(blocks (lob'++rob)).Nodup
 new:∀ b∈blocks (lob'++rob),b < w'.heap.size∧(b∈blocks lob∨w.heap.size≤b)
structure nP (w w':World) (ob ob':OB):Prop where
 os:w'.os=w.os
 tape:w'.tape=w.tape
 output:w'.output=w.output
 size:w.heap.size≤w'.heap.size
 drawn:w.drawn≤w'.drawn
 rest:∀ b,b < w.heap.size→b∉blocks ob→w'.heap[b]?=w.heap[b]?
 new:∀ b∈blocks ob',b < w'.heap.size∧(b∈blocks ob∨w.heap.size≤b)
 nodup:(blocks ob').Nodup
structure Good (P:Program) (t:fm) (cl:ay):Prop where
 call:∀ f as res,cl f as=some res→∀ (w:World) (G:Nat→Nat→Prop) (vals:List Value),t.ok w→dI P w G as vals→
  fE P f∧Calls P f vals.toArray w fun e w'=>∃ v rob,e=.returned v∧Below w.heap.size w w'∧kB P w w' G res v rob
 wr:∀ f e T (xs:List (den T)) res,cl f [.bE,.own true e T .no xs]=some res→b7 T=true→∃ ys:List (den T),res=[.own true e T .no ys]∧ys.length=xs.length∧fE P f∧
  ∀ (w:World) (B:Nat) (G:Nat→Nat→Prop) (v:Value) (cells:List Value),e≠gD→fM w B e (ax T) v xs.length cells→aJ (Flat P T w G B .no) xs cells []→
    Calls P f #[v] w fun en w'=>en=.returned (.tuple #[])∧∃ cells',cells'.length=cells.length∧aJ (Flat P T w G B .no) ys cells' []∧BR w w' v (xs.length * ax T) cells'
 lend:∀ f T o (x:den T) as res,cl f (.loc T o x::as)=some res→fE P f∧
  ∀ (w:World) (G:Nat→Nat→Prop) (v:Value) (vals:List Value) (lob:OB),ea T=true→t.ok w→(∀ b∈blocks lob,t.tb≤b)→xd P w G T o x v lob→(blocks lob).Nodup→(∀ b∈blocks lob,b < w.heap.size)→(∀ b lim i,(b,lim)∈lob→G b i→i < lim)→
    dI P w G as vals→as.all rX=true→
    Calls P f (v::vals).toArray w fun e w'=>∃ (T':Ty) (o':aw) (x':den T') (rs:List E) (rv:Value) (lob' rob:OB),res=.loc T' o' x'::rs∧e=.returned rv∧sE P w w' G lob lob' T' o' x' v rs rv rob
 bN:∀ f e T (xs:List (den T)) A C (gf:den (.fn A C)) res,cl f [.bE,.own true e T .no xs,.v (.fn A C) gf]=some res→∃ ys:List (den T),res=[.own true e T .no ys]∧fE P f∧
  ∀ (w:World) (B:Nat) (G:Nat→Nat→Prop) (v gv:Value) (cells:List Value),e≠gD→fM w B e (ax T) v xs.length cells→aJ (Flat P T w G B .no) xs cells []→
    (∀ g i,v.ownBlock=some g→¬ G g i)→B≤w.heap.size→
    (∀ w1,ia v w w1→Flat P (.fn A C) w1 (fun _ _=>True) w1.heap.size .no gf [gv] [])→
    Calls P f #[v,gv] w fun en w'=>∃ v' cells',en=.returned v'∧ia v w w'∧v'.ownBlock=v.ownBlock∧fM w' B e (ax T) v' ys.length cells'∧aJ (Flat P T w' G B .no) ys cells' []
 iD:∀ f e T (xs:List (den T)) A C (gf:den (.fn A C)) res,cl f [.bE,.v (.fn A C) gf,.own true e T .no xs]=some res→∃ ys:List (den T),res=[.own true e T .no ys]∧fE P f∧
  ∀ (w:World) (B:Nat) (G:Nat→Nat→Prop) (v gv:Value) (cells:List Value),e≠gD→fM w B e (ax T) v xs.length cells→aJ (Flat P T w G B .no) xs cells []→
    (∀ g i,v.ownBlock=some g→¬ G g i)→B≤w.heap.size→
    (∀ w1,ia v w w1→Flat P (.fn A C) w1 (fun _ _=>True) w1.heap.size .no gf [gv] [])→
    Calls P f #[v,gv] w fun en w'=>∃ cells',en=.returned (.tuple #[])∧ia v w w'∧fM w' B e (ax T) v ys.length cells'∧aJ (Flat P T w' G B .no) ys cells' []
 hZ:∀ f t e s x res,cl f [.bE,.sb t e s,.v .str x]=some res→res=[.sb t e (s++x)]∧s.length+x.length≤140737488355328∧fE P f∧
  ∀ (w:World) (B:Nat) (v:Value) (ob:OB),B≤w.heap.size→jo w B t e s v ob→Calls P f #[v,.string ⟨⟨x⟩⟩] w fun en w'=>∃ rv ob',en=.returned rv∧jo w' B t e (s++x) v ob'∧nP w w' ob ob'
 ji:∀ f t e s res,cl f [.bE,.sb t e s]=some res→res=[.v .str s]∧fE P f∧
  ∀ (w:World) (B:Nat) (v:Value) (ob:OB),B≤w.heap.size→jo w B t e s v ob→Calls P f #[v] w fun en w'=>en=.returned (.string ⟨⟨s⟩⟩)∧nP w w' ob []
theorem kB.eH {P:Program} {w w':World} {G:Nat→Nat→Prop} {C:Ty} {r:den C} {v:Value} {rob:OB} (hs:b7 C=true) (h:kB P w w' G [.v C r] v rob):
  ∃ rs,v=bg C rs∧∀ (w':World) (G':Nat→Nat→Prop) (B':Nat),Flat P C w' G' B' .no r rs []:=by
 obtain ⟨_,vs,h1,h2⟩:=h.rep
 exact ⟨vs,h2,fun w' G' B'=>(Flat.eH P C hs h1).2 _ _ _ _⟩
theorem amT {C:Ty} {es:List E} {r:den C} (h:jA C es=some r):es=[.v C r]:=by
 unfold jA at h
 split at h
 ·have:=cI h; cases this; rfl
 ·exact absurd h (by simp)
theorem ic.args {P:Program} {w:World} {G:Nat→Nat→Prop}:∀ (A:Ty) {x:den A} {vals:List Value},ic P A w G x vals→dI P w G (unpack A x) vals
 | .pair A C,x,vals,h=>by
   unfold ic at h
   obtain ⟨v1,rest,h1,rfl,h2⟩:=h
   exact .cons ⟨v1,h1,rfl⟩ (ic.args C h2)
 | .unit,_,_,h=>by unfold ic at h; subst h; exact .nil
 | .int _,_,_,h | .bool,_,_,h | .str,_,_,h | .sl _,_,_,h | .arr _ _,_,_,h | .fn _ _,_,_,h=>by unfold ic at h; exact h.elim
theorem S5 {P:Program} {w:World} {G:Nat→Nat→Prop}:∀ (A:Ty) {as:List E} {x:den A} {vals:List Value},tuple A as=some x→dI P w G as vals→ic P A w G x vals
 | .unit,[],x,vals,_,h=>by cases h; unfold ic; rfl
 | .unit,_::_,_,_,h,_=>by simp [tuple] at h
 | .pair A C,e::es,x,vals,ht,h=>by
   cases h with
   | cons h1 h2=>
     cases e with
     | v T y=>
       simp only [tuple,aj,av] at ht
       obtain ⟨y',hy,z,hz,rfl⟩:=ht
       have:=cI hy; cases this
       obtain ⟨v1,k1,rfl⟩:=h1
       unfold ic
       exact ⟨v1,_,k1,rfl,S5 C hz h2⟩
     | _=>simp [tuple] at ht
 | .pair A C,[],_,_,h,_=>by simp [tuple] at h
 | .int _,_,_,_,h,_ | .bool,_,_,_,h,_ | .str,_,_,_,h,_ | .sl _,_,_,_,h,_ | .arr _ _,_,_,_,h,_ | .fn _ _,_,_,_,h,_=>by simp [tuple] at h
end Go.Fw
/- Soundness, part 17: the arguments of a call, from a state of the machine. -/
namespace Go.Fw
open Go Go.RowKit
theorem Ah (o:aw):o.bn.bn=o.bn:=by
 induction o with
 | no=>rfl
 | hole=>rfl
 | own wr e o ih=>simp [aw.bn,ih]
 | mp=>rfl
 | pair a b iha ihb=>simp [aw.bn,iha,ihb]
section
variable {P:Program} {B:Nat} {G0:Nat→Nat→Prop} {W0:cZ} {n:Nat} {env env':Env} {a:Act} {w:World} {ob:Nat→OB} {cl:ay}
def iM (e e':E):Prop:=e'=e∨(∃ wr ed T o xs,e=.own wr ed T o xs∧e'=.own false ed T o.bn xs)∨(∃ T o x,e=.loc T o x∧e'=.loc T o.bn x)
def Fz (env env':Env):Prop:=∀ k,iM (look env k) (look env' k)
theorem iM.trans {e1 e2 e3:E} (h:iM e1 e2) (k:iM e2 e3):iM e1 e3:=by
 rcases h with rfl | ⟨wr,ed,T,o,xs,rfl,rfl⟩ | ⟨T,o,x,rfl,rfl⟩
 ·exact k
 ·rcases k with rfl | ⟨wr',ed',T',o',xs',h1,rfl⟩ | ⟨T',o',x',h1,_⟩
  ·exact .inr (.inl ⟨_,_,_,_,_,rfl,rfl⟩)
  ·cases h1; exact .inr (.inl ⟨_,_,_,_,_,rfl,by rw [Ah]⟩)
  ·cases h1
 ·rcases k with rfl | ⟨wr',ed',T',o',xs',h1,_⟩ | ⟨T',o',x',h1,rfl⟩
  ·exact .inr (.inr ⟨_,_,_,rfl,rfl⟩)
  ·cases h1
  ·cases h1; exact .inr (.inr ⟨_,_,_,rfl,by rw [Ah]⟩)
theorem Fz.freeze (env:Env) (s:Nat):Fz env (freeze env s):=by
 intro k
 by_cases hk:k=s
 ·subst hk
  rcases aaM env k with h | ⟨wr,e,T,o,xs,h1,h2⟩ | ⟨T,o,x,h1,h2⟩
  ·exact .inl h
  ·exact .inr (.inl ⟨_,_,_,_,_,h1,h2⟩)
  ·exact .inr (.inr ⟨_,_,_,h1,h2⟩)
 ·left
  unfold Fw.freeze
  split
  ·rw [aL,if_neg (bp hk)]
  ·split
   ·rfl
   ·rw [aL,if_neg (bp hk)]
  ·rfl
theorem Fz.refl (env:Env):Fz env env:=fun _=>.inl rfl
theorem Fz.trans {e1 e2 e3:Env} (h:Fz e1 e2) (k:Fz e2 e3):Fz e1 e3:=fun j=>(h j).trans (k j)
theorem Fz.held (h:Fz env env') {s:Nat} {p:Path} {hh:jE} (hl:a8 env s p=some hh):∃ wr o,a8 env' s p=some ⟨wr,hh.e,hh.T,o,hh.xs⟩∧o.pure=hh.o.pure:=by
 rcases h s with h | ⟨wr,ed,T,o,xs,h1,h2⟩ | ⟨T,o,x,h1,h2⟩
 ·exact ⟨hh.wr,hh.o,by rw [H5 h]; exact hl,rfl⟩
 ·simp only [a8,h1] at hl
  simp only [a8,h2]
  cases p with
  | nil=>simp only [av] at hl; subst hl; exact ⟨_,_,rfl,tI⟩
  | cons=>exact absurd hl (by simp)
 ·have:=H4 h1 p hl
  have h3:a8 env' s p=a8 ((s,.loc T o.bn x)::env) s p:=H5 (by rw [aL,if_pos rfl,h2]) p
  exact ⟨false,hh.o.bn,by rw [h3,this],tI⟩
theorem Fz.cO (h:Fz env env') {e e':E} {x:E} (he:iM e e') (ha:cO env e=some x):cO env' e'=some x:=by
 rcases he with rfl | ⟨wr,ed,T,o,xs,rfl,rfl⟩ | ⟨T,o,x,rfl,rfl⟩
 ·cases e' with
  | v T x=>exact ha
  | own=>exact ha
  | «at»=>exact ha
  | ref s p=>
    simp only [Fw.cO,aj] at ha ⊢
    obtain ⟨hh,h1,h2⟩:=ha
    obtain ⟨wr,o,h3,h4⟩:=h.held h1
    exact ⟨_,h3,by simp only [h4]; exact h2⟩
  | ptr s p=>
    simp only [Fw.cO] at ha ⊢
    rcases h s with h1 | ⟨wr,ed,T,o,xs,h1,h2⟩ | ⟨T,o,x,h1,h2⟩
    ·rw [h1]; exact ha
    ·rw [h1] at ha; simp at ha
    ·rw [h1] at ha; rw [h2]
     simp only [l8,OO] at ha ⊢
     exact ha
  | cN s p i q=>
    simp only [Fw.cO,aj] at ha ⊢
    obtain ⟨hh,h1,h2⟩:=ha
    obtain ⟨wr,o,h3,h4⟩:=h.held h1
    exact ⟨_,h3,by simp only [h4]; exact h2⟩
  | _=>simp [Fw.cO] at ha
 ·simp only [Fw.cO,tI] at ha ⊢; exact ha
 ·simp [Fw.cO] at ha
theorem Fz.gW (h:Fz env env'):∀ {es xs:List E},gW env es=some xs→gW env' es=some xs
 | [],_,ha=>ha
 | e::es,xs,ha=>by
   simp only [Fw.gW,aj,av] at ha ⊢
   obtain ⟨x,h1,y,h2,rfl⟩:=ha
   exact ⟨x,h.cO (.inl rfl) h1,y,h.gW h2,rfl⟩
theorem iM.au (h:Fz env env') (y:Od):iM (au env y) (au env' y):=by
 cases y<;>first | exact h _ | exact .inl rfl
theorem Fz.fu (h:Fz env env'):∀ {ys:List Od} {xs:List E},fu cl env ys=some xs→fu cl env' ys=some xs
 | [],_,ha=>ha
 | y::ys,xs,ha=>by
   simp only [Fw.fu,aj,av] at ha ⊢
   obtain ⟨x,h1,z,h2,rfl⟩:=ha
   refine ⟨x,?_,z,h.fu h2,rfl⟩
   have he:=iM.au h y
   split at h1
   ·rename_i T o x' he1
    rw [he1] at he
    rcases he with he | ⟨wr,ed,T',o',xs',h3,_⟩ | ⟨T',o',x',h3,he⟩
    ·rw [he]; exact h1
    ·cases h3
    ·cases h3; rw [he]; simp only [OO]; exact h1
   ·rename_i f A C caps he1
    rw [he1] at he
    rcases he with he | ⟨wr,ed,T',o',xs',h3,_⟩ | ⟨T',o',x',h3,_⟩
    ·rw [he]
     simp only [ju] at h1 ⊢
     split at h1
     ·rename_i hs
      rw [if_pos hs]
      simp only [aj] at h1 ⊢
      obtain ⟨cs,h4,h5⟩:=h1
      exact ⟨cs,h.gW h4,h5⟩
     ·simp at h1
    ·cases h3
    ·cases h3
   ·rename_i n1 n2
    have h2:=h.cO he h1
    split
    ·rename_i T o x' he2
     rw [he2] at h2; simp [Fw.cO] at h2
    ·rename_i f A C caps he2
     rw [he2] at h2; simp [Fw.cO] at h2
    ·exact h2
def jD (env:Env) (s:Nat):Prop:=(∀ wr ed T o xs,look env s=.own wr ed T o xs→wr=false)∧(∀ T o x,look env s=.loc T o x→o.bn=o)
theorem jD.freeze (env:Env) (s:Nat):jD (freeze env s) s:=by
 unfold Fw.freeze
 cases hs:look env s with
 | own wr e T o xs=>
   refine ⟨fun wr' ed T' o' xs' h=>?_,fun T' o' x' h=>?_⟩<;>rw [aL,if_pos rfl] at h<;>cases h
   rfl
 | loc T o x=>
   cases ho:o.stays with
   | true=>refine ⟨fun wr' ed T' o' xs' h=>?_,fun T' o' x' h=>?_⟩<;>simp only [ho] at h<;>rw [hs] at h<;>cases h; exact aw.su ho
   | false=>
     refine ⟨fun wr' ed T' o' xs' h=>?_,fun T' o' x' h=>?_⟩<;>simp only [ho] at h<;>rw [aL,if_pos rfl] at h<;>cases h
     exact Ah o
 | _=>
   refine ⟨fun wr' ed T' o' xs' h=>?_,fun T' o' x' h=>?_⟩<;>(have h2:=hs.symm.trans h; cases h2)
theorem jD.fz (h:Fz env env') {s:Nat} (k:jD env s):jD env' s:=by
 rcases h s with h1 | ⟨wr,ed,T,o,xs,h1,h2⟩ | ⟨T,o,x,h1,h2⟩
 ·exact ⟨fun wr ed T o xs hh=>k.1 wr ed T o xs (by rw [←h1]; exact hh),fun T o x hh=>k.2 T o x (by rw [←h1]; exact hh)⟩
 ·refine ⟨fun wr' ed T' o' xs' hh=>?_,fun T' o' x' hh=>?_⟩<;>rw [h2] at hh<;>cases hh
  rfl
 ·refine ⟨fun wr' ed T' o' xs' hh=>?_,fun T' o' x' hh=>?_⟩<;>rw [h2] at hh<;>cases hh
  exact Ah o
theorem AW {y:Od} {e e':E} (h:iM e e'):fa y e'=fa y e:=by
 rcases h with rfl | ⟨wr,ed,T,o,xs,rfl,rfl⟩ | ⟨T,o,x,rfl,rfl⟩<;>rfl
theorem Af:∀ (ys:List Od) (env:Env),Fz env (jb env ys)∧∀ y∈ys,∀ s,fa y (au env y)=some s→jD (jb env ys) s
 | [],env=>⟨Fz.refl _,by simp⟩
 | y::ys,env=>by
   simp only [jb]
   have h1:Fz env (match fa y (au env y) with | some s=>Fw.freeze env s | none=>env):=by
    split
    ·exact Fz.freeze _ _
    ·exact Fz.refl _
   obtain ⟨h2,h3⟩:=Af ys (match fa y (au env y) with | some s=>Fw.freeze env s | none=>env)
   refine ⟨h1.trans h2,fun z hz s hs=>?_⟩
   rcases List.mem_cons.1 hz with rfl | hz
   ·simp only [hs] at h2 ⊢
    exact jD.fz h2 (jD.freeze _ _)
   ·exact h3 z hz s (by rw [AW (iM.au h1 z)]; exact hs)
theorem tH:∀ (ys:List Od) {env:Env} {ob:Nat→OB},ae P B G0 W0 n env a.tmps w ob→∃ ob',eB ob ob'∧ae P B G0 W0 n (jb env ys) a.tmps w ob'
 | [],_,ob,hC=>⟨ob,eB.refl _,hC⟩
 | y::ys,env,ob,hC=>by
   simp only [jb]
   split
   ·rename_i s _
    obtain ⟨o1,h1,h2⟩:=Ag hC s
    obtain ⟨o2,h3,h4⟩:=tH ys h2
    exact ⟨o2,h1.trans h3,h4⟩
   ·exact tH ys hC
theorem jD.held {s:Nat} (h:jD env s) {p:Path} {hh:jE} (hl:a8 env s p=some hh):hh.wr=false:=by
 unfold a8 at hl
 split at hl
 ·rename_i wr e T o xs hs
  split at hl
  ·simp only [av] at hl; subst hl; exact h.1 _ _ _ _ _ hs
  ·exact absurd hl (by simp)
 ·rename_i T o x hs
  have:=h.2 _ _ _ hs
  split at hl
  ·rename_i wr e o' T' xs ha hg
   simp only [av] at hl; subst hl
   rw [←this,l8] at ha
   cases hq:bU o p with
   | own=>rw [hq] at ha; simp only [aw.bn,aw.own.injEq] at ha; exact ha.1.symm
   | _=>rw [hq] at ha; simp [aw.bn] at ha
  ·exact absurd hl (by simp)
 ·exact absurd hl (by simp)
structure nO (P:Program) (B:Nat) (G0:Nat→Nat→Prop) (env:Env) (ob:Nat→OB) (w:World) (G':Nat→Nat→Prop) (S:Nat→Prop):Prop where
 sub:∀ b i,b < w.heap.size→Gd B G0 ob b i→G' b i
 froz:(∀ b i,G' b i)∨∀ s,S s→jD env s
variable {G':Nat→Nat→Prop} {S:Nat→Prop}
theorem RO (hC:ae P B G0 W0 n env a.tmps w ob) (hG:nO P B G0 env ob w G' S) {s:Nat} (hS:S s) {T0 T:Ty} {o:aw} {x:den T0} (hs:look env s=.loc T0 o x) {p:Path} {y:den T} (hw:(bU o p).whole=true) (hg:aF T0 p x=some ⟨T,y⟩):
  ∃ b vs,a.tmps.getD s undef=.pointer (some ⟨b,0,none⟩)∧Flat P T w G' w.heap.size .no y vs []∧∀ j u,vs[j]?=some u→w.cell? ⟨b,a7 T0 p+j,none⟩=some u:=by
 obtain ⟨b,cur,e,v1,v2,v3,b1,b2,b3,k1,k2,k3,k4,k5,k6,k7,_⟩:=kh hC hs hg
 have hcell:=mU k2 k4
 rw [k5] at hcell
 refine ⟨b,v2,k1,Flat.up P T hC.base ?_,hcell⟩
 rcases hG.froz with ht | hf
 ·obtain ⟨b2',k8,_⟩:=Flat.bn P T k7
  exact Flat.shared P T hw (fun _ _ _ _ _ _=>ht _ _) (fun _ _ _ _=>ht _ _) k8
 ·have he:=(hf s hS).2 _ _ _ hs
  have k8:=k7
  rw [←he,l8] at k8
  refine Flat.shared P T hw (fun b lim i hb hi hB=>?_) hG.sub k8
  have hm:(b,lim)∈ob s:=by rw [k6]; simp [hb]
  exact hG.sub b i (hC.low s b (aC.2 ⟨_,hm⟩)).2 (sD hC hm hi hB)
theorem JG (hC:ae P B G0 W0 n env a.tmps w ob) {e x:E} {v:Value} {obe:OB} (hr:cd P w (Gd B G0 ob) B a.tmps env e v obe) (ha:cO env e=some x)
  (hno:(∀ b i,G' b i)∨∀ wr ed T o xs,e≠.own wr ed T o xs) (hG:nO P B G0 env ob w G' S) (hS:∀ s,fa (.nil 0 .bool) e=some s→S s):iK P w G' x v:=by
 cases e with
 | v T y=>
   simp only [cO,av] at ha; subst ha
   obtain ⟨_,vs,h1,h2⟩:=hr
   exact ⟨vs,Flat.up P T hC.base (Flat.mono P T (fun b i hb h=>⟨hG.sub b i hb h,rfl⟩) (bP.refl _ _) (by simp) h1),h2⟩
 | own wr ed T o xs=>
   rcases hno with ht | hno
   ·simp only [cO] at ha
    split at ha
    ·rename_i ho
     simp only [av] at ha; subst ha
     exact ⟨[v],Flat.up P _ hC.base (pt hr ho hG.sub (fun _ _ _ _ _=>ht _ _)),rfl⟩
    ·exact absurd ha (by simp)
   ·exact absurd rfl (hno _ _ _ _ _)
 | ref s p=>
   simp only [cO,aj] at ha
   obtain ⟨hh,h1,h2⟩:=ha
   split at h2
   ·rename_i ho
    simp only [av] at h2; subst h2
    obtain ⟨_,h3,_⟩:=hr
    refine ⟨[v],Flat.up P _ hC.base (AV hC h1 h3 ho hG.sub ?_),rfl⟩
    rcases hG.froz with ht | hf
    ·exact .inr ht
    ·exact .inl (jD.held (hf s (hS s rfl)) h1)
   ·exact absurd h2 (by simp)
 | it s pos=>simp [cO] at ha
 | sb t e s=>simp [cO] at ha
 | nw=>simp [cO] at ha
 | nm=>simp [cO] at ha
 | ptr s p=>
   simp only [cO] at ha
   split at ha
   ·rename_i T0 o y0 hs
    split at ha
    ·rename_i hw
     simp only [aj,av] at ha
     obtain ⟨z,hz,rfl⟩:=ha
     obtain ⟨_,T1,o1,x1,b,h1,h2,_,h3⟩:=hr
     obtain ⟨b',vs,k1,k2,k3⟩:=RO hC hG (hS s rfl) hs hw hz
     rw [hs] at h1; cases h1
     rw [h2] at k1; cases k1
     exact ⟨b,_,vs,h3,k2,k3⟩
    ·exact absurd ha (by simp)
   ·exact absurd ha (by simp)
 | cN s p i q=>
   simp only [cO,aj] at ha
   obtain ⟨hh,h1,h2⟩:=ha
   split at h2
   ·rename_i hoi
    simp only [aq,decide_eq_true_eq] at hoi
    simp only [aj,av] at h2
    obtain ⟨z,hz,rfl⟩:=h2
    obtain ⟨_,h',g,m,c,k1,k2,k3,k4,k5⟩:=hr
    rw [h1] at k1; cases k1
    obtain ⟨cells,b2,hrow,hel,hob⟩:=wx hC h1 k2
    obtain ⟨_,hel⟩:=aJ.pure P (o':=.no) hoi.1 rfl hel
    obtain ⟨v1,v2,v3,c1,c2,c3,e1,e2,e3,e4,_⟩:=aJ.split (fun x v b hx=>Flat.len P _ hx) i (zero hh.T) hel hoi.2
    have hnil:c2=[]:=by
     have:c1++c2++c3=[]:=e2.symm
     simp at this; exact this.2.1
    subst hnil
    obtain ⟨u1,u2,u3,d1,d2,d3,f1,f2,f3,f4,_⟩:=Flat.lens P q hh.T e4 (y:=z.2) (by rw [hz])
    have hnil:d2=[]:=by
     have:d1++d2++d3=[]:=f2.symm
     simp at this; exact this.2.1
    subst hnil
    rw [pQ] at f4
    refine ⟨g,_,u2,k5,Flat.up P _ hC.base (Flat.mono P _ (fun b i hb h=>⟨hG.sub b i hb h,rfl⟩) (bP.refl _ _) (by simp) f4),fun j u hj=>?_⟩
    have hcell:=hrow.cells (g:=g) rfl (i * ax hh.T+a7 hh.T q+j) u ?_
    ·rw [kD] at hcell; simpa [Nat.add_assoc] using hcell
    ·rw [e1,f1]
     have hj':=(jF.1 hj).1
     rw [bI,eC (by omega),fP (by simp; omega),bI,eC (by omega),fP (by omega)]
     rw [←hj]; congr 1; omega
   ·exact absurd h2 (by simp)
 | «at» T y=>
   simp only [cO,av] at ha; subst ha
   obtain ⟨_,b,off,vs,h1,h2,h3⟩:=hr
   exact ⟨b,off,vs,h1,Flat.up P T hC.base (Flat.mono P T (fun b i hb h=>⟨hG.sub b i hb h,rfl⟩) (bP.refl _ _) (by simp) h2),fun j u hj=>(h3 j u hj).1⟩
 | dead=>simp [cO] at ha
 | bE=>simp [cO] at ha
 | loc=>simp [cO] at ha
 | cC=>simp [cO] at ha
 | cK=>simp [cO] at ha
theorem BX (hC:ae P B G0 W0 n env a.tmps w ob) (hG:nO P B G0 env ob w G' (fun _=>True)):∀ {es xs:List E} {vs:List Value},dF (cd P w (Gd B G0 ob) B a.tmps env) es vs []→gW env es=some xs→
  (∀ b i,G' b i)→dI P w G' xs vs
 | [],xs,vs,hr,ha,_=>by
   obtain ⟨rfl,_⟩:=hr
   simp only [gW,av] at ha; subst ha
   exact .nil
 | e::es,xs,vs,hr,ha,hno=>by
   obtain ⟨v,r,b1,b2,rfl,_,h1,h2⟩:=hr
   simp only [gW,aj,av] at ha
   obtain ⟨x,h3,y,h4,rfl⟩:=ha
   have hb2:b2=[]:=by
    have:b1++b2=[]:=by rename_i hh; exact hh.symm
    simp at this; exact this.2
   subst hb2
   exact .cons (JG hC h1 h3 (.inl hno) hG (fun _ _=>trivial)) (BX hC hG h2 h4 hno)
end
end Go.Fw
/- Soundness, part 18: calls. -/
namespace Go.Fw
open Go Go.RowKit
section
variable {P:Program} {B:Nat} {G0:Nat→Nat→Prop} {W0:cZ} {n:Nat} {env env':Env} {a:Act} {w:World} {ob:Nat→OB} {cl:ay}
variable {G':Nat→Nat→Prop} {S:Nat→Prop}
variable {R:Type} {K:cH R} {r:R} {next:Act→World→Prop} {Q:Exit→Act→World→Prop} {o:Oper} {i:AI}
theorem NV (hgood:Good P W0.t cl) (hC:ae P B G0 W0 n env a.tmps w ob) {f:FuncId} {A C:Ty} {caps:List E} {v:Value} {x:E} {obe:OB} (hr:bm P w (Gd B G0 ob) B a.tmps env (.cK f A C caps) v obe) (h:ju cl env f A C caps=some x):iK P w G' x v:=by
 unfold ju at h
 split at h
 ·rename_i hs
  simp only [aj,av] at h
  obtain ⟨cs,hcs,rfl⟩:=h
  obtain ⟨_,cv,rfl,hcap⟩:=hr
  refine ⟨[.func (.func f) #[] cv],?_,rfl⟩
  unfold Flat
  refine ⟨rfl,hs,f,cv,rfl,fun w' G2 y vals hL hargs r hr=>?_⟩
  simp only [aj] at hr
  obtain ⟨res,h1,h2⟩:=hr
  have:=amT h2
  subst this
  have hT:nO P B G0 env ob w (fun _ _=>True) (fun _=>True):=⟨fun _ _ _ _=>trivial,.inl fun _ _=>trivial⟩
  have hA:=(dI.A2 (bP.refl _ _) (fun _ _ _ _=>trivial) (ic.args A hargs)).append (dI.A2 (G':=fun _ _=>True) hL (fun _ _ _ _=>trivial) (BX hC hT hcap hcs (fun _ _=>trivial)))
  have hcall:=hgood.call f _ _ h1 w' (fun _ _=>True) _ (hC.amN ⟨hL.1,fun b hb=>hL.2 b (dp hb hC.base)⟩) hA
  refine ⟨hcall.1,?_⟩
  have e:(vals++cv.toList).toArray=vals.toArray++cv:=by apply jm.1; simp
  rw [←e]
  refine Calls.mono hcall.2 ?_
  rintro e w'' ⟨v,rob,rfl,hb,hres⟩
  obtain ⟨rs,rfl,h3⟩:=hres.eH hs
  exact ⟨rs,h3 _ _ _,rfl,hb⟩
 ·simp at h
theorem mQ (hgood:Good P W0.t cl) (hC:ae P B G0 W0 n env a.tmps w ob):∀ {us:List Operand} {ys:List Od} {as:List E},ey us ys=true→fu cl env ys=some as→
  nO P B G0 env ob w G' (fun s=>∃ y∈ys,fa y (au env y)=some s)→dI P w G' as (us.map a.eval)
 | [],[],as,_,h,_=>by simp only [fu,av] at h; subst h; exact .nil
 | [],_::_,_,h,_,_=>by simp [ey] at h
 | _::_,[],_,h,_,_=>by simp [ey] at h
 | u::us,y::ys,as,ho,h,hG=>by
   simp only [ey,aq] at ho
   simp only [fu,aj,av] at h
   obtain ⟨x,h1,z,h2,rfl⟩:=h
   have hG2:nO P B G0 env ob w G' (fun s=>∃ y∈ys,fa y (au env y)=some s):=⟨hG.sub,hG.froz.imp id fun hf s hs=>hf s (by obtain ⟨y',hy,hh⟩:=hs; exact ⟨y',List.mem_cons_of_mem _ hy,hh⟩)⟩
   refine .cons ?_ (mQ hgood hC ho.2 h2 hG2)
   have hr:=eS hC ho.1
   split at h1
   ·rename_i T oa x' he
    split at h1
    ·rename_i hw
     simp only [av] at h1; subst h1
     cases y with
     | t k=>
       simp only [au] at he
       obtain ⟨b,vs,k1,k2,k3⟩:=RO (p:=[]) hC hG (s:=k) ⟨.t k,by simp,by simp [au,he,fa]⟩ he hw (y:=x') (by cases T<;>rfl)
       have e0:a7 T []=0:=by cases T<;>rfl
       rw [e0] at k3
       exact ⟨b,0,vs,by rw [jg ho.1 a]; exact k1,k2,k3⟩
     | c T x=>simp [au] at he
     | nil e T=>simp [au] at he
     | fn f A C=>simp [au] at he
    ·simp at h1
   ·rename_i f A C caps he
    rw [he] at hr
    exact NV hgood hC hr h1
   ·rename_i hn1 hn2
    by_cases hown:∃ wr ed T oa xs,au env y=.own wr ed T oa xs
    ·obtain ⟨wr,ed,T,oa,xs,he⟩:=hown
     rw [he] at hr h1
     simp only [cO] at h1
     split at h1
     ·rename_i hp
      simp only [av] at h1; subst h1
      refine ⟨[a.eval u],Flat.up P _ hC.base (pt hr hp hG.sub ?_),rfl⟩
      intro g j hg hB hj
      rcases hG.froz with ht | hf
      ·exact ht _ _
      ·cases y with
       | t k=>
         simp only [au] at he
         have hwr:=(hf k ⟨.t k,by simp,by simp [au,he,fa]⟩).1 _ _ _ _ _ he
         subst hwr
         have hr':=hr
         change Flat P (.sl T) w (Gd B G0 ob) B (.own false ed oa) xs [a.eval u] (ob k) at hr'
         unfold Flat at hr'
         obtain ⟨v',cells,ob',e1,_,_,e2⟩:=hr'
         simp only [gg,and_true] at e1
         subst e1
         have hm:(g,xs.length * ax T)∈ob k:=by rw [e2]; exact fR _ (by simp [bK,hg])
         exact hG.sub g j (hC.low k g (aC.2 ⟨_,hm⟩)).2 (sD hC hm hj hB)
       | c T x=>simp [au] at he
       | nil e T=>simp only [au] at he; cases he; simp at hj
       | fn f A C=>simp [au] at he
     ·simp at h1
    ·have hr1:cd P w (Gd B G0 ob) B a.tmps env (au env y) (a.eval u) (pj ob y):=bm.one (fun es he=>by rw [he] at h1; simp [cO] at h1) (fun f A C c he=>hn2 f A C c he) hr
     refine JG hC hr1 h1 (.inr fun wr ed T oa xs he=>hown ⟨wr,ed,T,oa,xs,he⟩) hG (fun s hs=>⟨y,by simp,?_⟩)
     rw [←hs]
     cases he:au env y<;>first | rfl | exact absurd he (hn1 _ _ _) | exact (hown ⟨_,_,_,_,_,he⟩).elim
theorem B0 {w':World} {G1 G2:Nat→Nat→Prop} {B1 B2:Nat} {tm1 tm2:Array Value} {env1 env2:Env} {e:E} {v:Value} {b:OB} (hB:B2≤B1) (hb:e.back=true)
  (hG:(∀ b i,b < w'.heap.size→G1 b i→G2 b i)∨e.plain=true) (h:cd P w' G1 B1 tm1 env1 e v b):cd P w' G2 B2 tm2 env2 e v b:=by
 cases e with
 | v T x=>
   obtain ⟨h0,vs,h1,h2⟩:=h
   refine ⟨h0,vs,?_,h2⟩
   rcases hG with hG | hG
   ·exact Flat.mono P T (fun b i hb h=>⟨hG b i hb h,rfl⟩) (bP.refl _ _) (by simp) (Flat.down P T hb hB h1)
   ·exact (Flat.eH P T hG h1).2 _ _ _ _
 | own wr ed T o xs=>
   simp only [E.back,aq] at hb
   have h1:Flat P (.sl T) w' G1 B2 (.own wr ed o) xs [v] b:=Flat.down P (.sl T) (by simpa only [ea] using hb.1) hB h
   change Flat P (.sl T) w' G2 B2 (.own wr ed o) xs [v] b
   rcases hG with hG | hG
   ·exact Flat.mono P (.sl T) (fun b i hb h=>⟨hG b i hb h,rfl⟩) (bP.refl _ _) (fun _ _=>rfl) h1
   ·unfold Flat at h1 ⊢
    obtain ⟨v',cells,ob',k1,k2,k3,k4⟩:=h1
    refine ⟨v',cells,ob',k1,k2,aJ.imp (fun x u c _ hx=>?_) k3,k4⟩
    obtain ⟨e1,hx2⟩:=Flat.eH P T hG hx
    subst e1
    exact hx2 _ _ _ _
 | _=>simp [E.back] at hb
theorem TY {w':World} {G1 G2:Nat→Nat→Prop} {B1 B2:Nat} {tm1 tm2:Array Value} {env1 env2:Env} {es:List E} {v:Value} {b:OB} (hB:B2≤B1) (hb:es.all E.back=true)
  (hG:(∀ b i,b < w'.heap.size→G1 b i→G2 b i)∨es.all E.plain=true) (h:bm P w' G1 B1 tm1 env1 (eg es) v b):bm P w' G2 B2 tm2 env2 (eg es) v b:=by
 have key:∀ {es:List E} {vs:List Value} {b:OB},es.all E.back=true→((∀ b i,b < w'.heap.size→G1 b i→G2 b i)∨es.all E.plain=true)→dF (cd P w' G1 B1 tm1 env1) es vs b→dF (cd P w' G2 B2 tm2 env2) es vs b:=by
  intro es
  induction es with
  | nil=>intro vs b _ _ h; exact h
  | cons e es ih=>
    rintro vs b hb hG ⟨v,rr,b1,b2,rfl,rfl,h1,h2⟩
    simp only [dy,aq] at hb hG
    exact ⟨v,rr,b1,b2,rfl,rfl,B0 hB hb.1 (hG.imp id And.left) h1,ih hb.2 (hG.imp id And.right) h2⟩
 match es,hb,hG,h with
 | [e],hb,hG,h=>
   simp only [dy,List.all_nil,Bool.and_true] at hb hG
   cases e with
   | v T x=>exact B0 (tm1:=tm1) (tm2:=tm2) (env1:=env1) (env2:=env2) (e:=.v T x) hB hb hG h
   | own wr ed T o xs=>exact B0 (tm1:=tm1) (tm2:=tm2) (env1:=env1) (env2:=env2) (e:=.own wr ed T o xs) hB hb hG h
   | _=>simp [E.back] at hb
 | [],hb,hG,h=>obtain ⟨h0,vs,h1,h2⟩:=h; exact ⟨h0,vs,h1,key hb hG h2⟩
 | e1::e2::es,hb,hG,h=>obtain ⟨h0,vs,h1,h2⟩:=h; exact ⟨h0,vs,h1,key hb hG h2⟩
theorem JL {es:List E} (hb:es.all E.back=true) (k:Nat):leads k (eg es)=false:=by
 match es,hb with
 | [e],hb=>
   simp only [dy,List.all_nil,Bool.and_true] at hb
   cases e<;>simp_all [E.back,eg,leads]
 | [],_=>rfl
 | _::_::_,_=>rfl
theorem Below.wu {w':World} (h:Below w.heap.size w w'):aM w w':=⟨h.os,h.tape,h.output,h.size,fun k hk=>h.block k hk,h.drawn⟩
theorem tF {w':World} {res:List E} {v:Value} {rob:OB} {d:Option Nat} {G:Nat→Nat→Prop} (hC:ae P B G0 W0 n env a.tmps w ob) (hK:bA P B G0 W0 n a K r next) (hd:∀ k,d=some k→bl W0 n k)
  (hb:Below w.heap.size w w') (hres:kB P w w' G res v rob) (hG:(∀ b i,G b i→Gd B G0 ob b i)∨res.all E.plain=true) (hk:K (aK env d (eg res))=some r):next (a.put d v) w':=by
 cases d with
 | none=>exact bu (e:=.dead) hC hK (by simp) (Below.wu hb) rfl hk
 | some k=>
   have h:=ae.lK (e:=eg res) (v:=v) (bk:=rob) hC (hd k rfl) (Below.wu hb) ?_ hres.new hres.nodup
   ·have:=hK _ _ _ _ h hk
    exact this
   ·rw [if_neg (by rw [JL hres.back k]; simp)]
    refine TY hC.base hres.back ?_ hres.rep
    refine hG.imp (fun hG b i hb' hg=>?_) id
    rcases hg with ⟨h1,h2⟩ | ⟨h1,h2⟩
    ·exact pH (fun lim hl=>by have:=(hres.new b (aC.2 ⟨_,hl⟩)).1; omega) (hG b i h2)
    ·refine .inr ⟨dV hC.base h1,hC.free _ _ (dV hC.base h1) (fun hx=>by have:=hC.oldx _ hx; omega),fun j lim hj=>?_⟩
     by_cases hjk:j=k
     ·subst hjk; rw [ej] at hj; exact h2 lim hj
     ·rw [dH _ _ hjk] at hj
      have:=(hC.low j b (aC.2 ⟨_,hj⟩)).2
      omega
theorem lM {f:FuncId} (h:fE P f) (args:Array Value) (w:World):(callFunc f args).run P w=.ok (.enter f args) w:=by
 obtain ⟨fn,h1,h2,h3⟩:=h
 have h2' : ¬ fn.name = "runtime.NumGoroutine" := by simpa using h2
 have h3':¬ fn.body=none:=by intro e; rw [e] at h3; simp at h3
 simp [callFunc,h1,h2',h3']
theorem jX {f:FuncId} {args:Array Value} (hrun:(execOp a.eval o).run P w=.ok (.enter f args) w) (h:Calls P f args w fun e w'=>∃ v,e=.returned v∧next (a.put o.dst v) w'):o.wp P a w next Q:=by
 unfold Oper.wp; rw [hrun]; exact Calls.mono h (by rintro e w' ⟨v,rfl,h⟩; exact h)
theorem SX {f:FuncId} {us:Array Operand} {ats:Array TypeId} {ys:List Od} (hgood:Good P W0.t cl) (hC:ae P B G0 W0 n env a.tmps w ob) (hK:bA P B G0 W0 n a K r next) (hd:∀ k,o.dst=some k→bl W0 n k) (hdst:i.dst=o.dst)
  (ho:o.op=.call {callee:=.value (.func f),args:=us,argTypes:=ats}) (hi:i.op=.call f ys) (hx:ey us.toList ys=true) (h:step cl i env K=some r):o.wp P a w next Q:=by
 unfold step at h; rw [hi] at h; simp only [hdst,ay.eqn,aj] at h
 obtain ⟨as,h1,res,h2,h3⟩:=h
 have hrun:fE P f→(execOp a.eval o).run P w=.ok (.enter f (us.map a.eval)) w:=by
  intro hc
  have:=lM hc (us.map a.eval) w
  simp [execOp,ho,resolve,Deferred.ofValue,invoke,Act.eval,this]
 have e:(us.toList.map a.eval).toArray=us.map a.eval:=by apply jm.1; simp
 by_cases hp:res.all E.plain=true
 ·rw [if_pos hp] at h3
  have hA:=mQ (G':=fun _ _=>True) hgood hC hx h1 ⟨fun _ _ _ _=>trivial,.inl fun _ _=>trivial⟩
  have hcall:=hgood.call f _ _ h2 w _ _ hC.nG hA
  rw [e] at hcall
  refine jX (hrun hcall.1) (Calls.mono hcall.2 ?_)
  rintro e w' ⟨v,rob,rfl,hb,hres⟩
  exact ⟨v,rfl,tF hC hK hd hb hres (.inr hp) h3⟩
 ·rw [if_neg hp] at h3
  obtain ⟨ob',hf,hC'⟩:=tH (a:=a) ys hC
  have hz:=Af ys env
  have hA:=mQ (G':=Gd B G0 ob') hgood hC' hx (Fz.fu hz.1 h1) ⟨fun _ _ _ h=>h,.inr fun s ⟨y,hy,hs⟩=>hz.2 y hy s (by rw [←AW (iM.au hz.1 y)]; exact hs)⟩
  have hcall:=hgood.call f _ _ h2 w _ _ hC.nG hA
  rw [e] at hcall
  refine jX (hrun hcall.1) (Calls.mono hcall.2 ?_)
  rintro e w' ⟨v,rob,rfl,hb,hres⟩
  exact ⟨v,rfl,tF hC' hK hd hb hres (.inl fun _ _ h=>h) h3⟩
theorem agL {f:FuncId} {us:Array Operand} {ats:Array TypeId} {u:Operand} {us':List Operand} {ys:List Od} (hgood:Good P W0.t cl) (hC:ae P B G0 W0 n env a.tmps w ob) (hK:bA P B G0 W0 n a K r next) (hd:∀ k,o.dst=some k→bl W0 n k) (hdst:i.dst=o.dst)
  (ho:o.op=.call {callee:=.value (.func f),args:=us,argTypes:=ats}) (hi:i.op=.Fe f ys) (hus:us.toList=u::us') (hu:a.eval u=.slice none 0 0) (hx:ey us' ys=true) (h:step cl i env K=some r):o.wp P a w next Q:=by
 unfold step at h; rw [hi] at h; simp only [hdst,ay.eqn,aj] at h
 obtain ⟨as,h1,res,h2,h3⟩:=h
 have hrun:fE P f→(execOp a.eval o).run P w=.ok (.enter f (us.map a.eval)) w:=by
  intro hc
  have:=lM hc (us.map a.eval) w
  simp [execOp,ho,resolve,Deferred.ofValue,invoke,Act.eval,this]
 have e:(a.eval u::us'.map a.eval).toArray=us.map a.eval:=by
  apply jm.1
  simp [hus]
 by_cases hp:res.all E.plain=true
 ·rw [if_pos hp] at h3
  have hA:=mQ (G':=fun _ _=>True) hgood hC hx h1 ⟨fun _ _ _ _=>trivial,.inl fun _ _=>trivial⟩
  have hcall:=hgood.call f _ _ h2 w _ _ hC.nG (.cons (e:=.dead) hu hA)
  rw [e] at hcall
  refine jX (hrun hcall.1) (Calls.mono hcall.2 ?_)
  rintro e w' ⟨v,rob,rfl,hb,hres⟩
  exact ⟨v,rfl,tF hC hK hd hb hres (.inr hp) h3⟩
 ·rw [if_neg hp] at h3
  obtain ⟨ob',hf,hC'⟩:=tH (a:=a) ys hC
  have hz:=Af ys env
  have hA:=mQ (G':=Gd B G0 ob') hgood hC' hx (Fz.fu hz.1 h1) ⟨fun _ _ _ h=>h,.inr fun s ⟨y,hy,hs⟩=>hz.2 y hy s (by rw [←AW (iM.au hz.1 y)]; exact hs)⟩
  have hcall:=hgood.call f _ _ h2 w _ _ hC.nG (.cons (e:=.dead) hu hA)
  rw [e] at hcall
  refine jX (hrun hcall.1) (Calls.mono hcall.2 ?_)
  rintro e w' ⟨v,rob,rfl,hb,hres⟩
  exact ⟨v,rfl,tF hC' hK hd hb hres (.inl fun _ _ h=>h) h3⟩
theorem dF.fz {G:Nat→Nat→Prop}:∀ {es:List E} {vs:List Value} {b:OB},dF (cd P w G B a.tmps env) es vs b→∃ b2,dF (cd P w G B a.tmps env) (es.map oC) vs b2∧cJ b2 b
 | [],_,b,h=>⟨b,h,cJ.refl _⟩
 | e::es,_,_,h=>by
   obtain ⟨v,r,b1,b2,rfl,rfl,h1,h2⟩:=h
   obtain ⟨c2,k1,k2⟩:=dF.fz h2
   have key:∃ c1,cd P w G B a.tmps env (oC e) v c1∧cJ c1 b1:=by
    cases e with
    | own wr e T o xs=>exact Flat.bn P (.sl T) (o:=.own wr e o) h1
    | _=>exact ⟨b1,h1,cJ.refl _⟩
   obtain ⟨c1,k3,k4⟩:=key
   exact ⟨c1++c2,⟨v,r,c1,c2,rfl,rfl,k3,k1⟩,cJ.append k4 k2⟩
theorem aan (s:Nat) (e:E):leads s (oC e)=leads s e:=by cases e<;>rfl
theorem Uz (hC:ae P B G0 W0 n env a.tmps w ob) {s:Nat} {es:List E} (hs:look env s=.cC es):∃ ob',ae P B G0 W0 n ((s,.cC (es.map oC))::env) a.tmps w ob':=by
 have hr:=hC.rep s
 rw [hs] at hr
 obtain ⟨h0,vs,hv,ht⟩:=hr
 obtain ⟨bs,h1,h2⟩:=dF.fz ht
 have hl:∀ e∈es.map oC,∀ s',leads s' e=false:=by
  intro e he s'
  obtain ⟨e',he',rfl⟩:=List.mem_map.1 he
  rw [aan]; exact h0 e' he' s'
 refine ⟨_,ae.relabel hC h2.1 h2.2 ?_ ⟨hl,vs,hv,dF.imp (fun e he v b hb hr=>cd.ak (fun b i _ h=>⟨?_,rfl⟩) (bP.refl _ _) (fun _ _=>rfl) (fun s' hs'=>?_) hr) h1⟩⟩
 ·refine ⟨fun p v _ hv=>?_,fun p h hh=>?_,fun T' o' x' hx=>?_,fun p v hm _=>by simp [ew,hs] at hm⟩
  ·simp [bj,hs] at hv
  ·simp [a8,hs] at hh
  ·rw [hs] at hx; exact absurd hx (by simp)
 ·refine nI (fun j b lim hj=>?_) h
  by_cases hjs:j=s
  ·subst hjs; rw [ej] at hj; obtain ⟨l,h3,h4⟩:=h2.2 b lim hj; exact ⟨j,l,h3,h4⟩
  ·rw [dH _ _ hjs] at hj; exact ⟨j,lim,hj,cE _⟩
 ·rw [hl e he s'] at hs'; exact absurd hs' (by simp)
theorem UA (hC:ae P B G0 W0 n env a.tmps w ob) (d:Option Nat):∃ ob',ae P B G0 W0 n (oD d env) a.tmps w ob':=by
 unfold oD
 split
 ·rename_i k e r
  have hl:look ((k,e)::r) k=e:=by rw [aL,if_pos rfl]
  have ext:∀ {e':E} {ob':Nat→OB},ae P B G0 W0 n ((k,e')::(k,e)::r) a.tmps w ob'→∃ ob',ae P B G0 W0 n ((k,e')::r) a.tmps w ob':=fun h=>ae.forget h (fun j=>.inl <| by
   simp only [aL]
   by_cases h:k=j
   ·rw [if_pos h,if_pos h]
   ·rw [if_neg h,if_neg h,if_neg h])
  cases e with
  | cC es=>obtain ⟨ob',h⟩:=Uz hC hl; exact ext h
  | own wr e T o xs=>obtain ⟨bs,_,h⟩:=ON hC hl; exact ext h
  | _=>exact ⟨ob,hC⟩
 ·exact ⟨ob,hC⟩
theorem agK {f:FuncId} {us:Array Operand} {ats:Array TypeId} {ys:List Od} (hgood:Good P W0.t cl) (hC:ae P B G0 W0 n env a.tmps w ob) (hK:bA P B G0 W0 n a K r next) (hd:∀ k,o.dst=some k→bl W0 n k) (hdst:i.dst=o.dst)
  (ho:o.op=.call {callee:=.value (.func f),args:=us,argTypes:=ats}) (hi:i.op=.s7 f ys) (hx:ey us.toList ys=true) (h:step cl i env K=some r):o.wp P a w next Q:=by
 refine SX (r:=r) (i:={i with op:=.call f ys}) (K:=fun env=>K (oD i.dst env)) hgood hC (fun env' tm' w' ob' hC' hk=>?_) hd hdst ho rfl hx ?_
 ·obtain ⟨ob2,h2⟩:=UA (a:={a with tmps:=tm'}) hC' i.dst
  exact hK _ _ _ _ h2 hk
 ·unfold step at h ⊢; rw [hi] at h; exact h
theorem agM {x:Operand} {y:Od} {us:Array Operand} {ats:Array TypeId} {ys:List Od} (hgood:Good P W0.t cl) (hC:ae P B G0 W0 n env a.tmps w ob) (hK:bA P B G0 W0 n a K r next) (hd:∀ k,o.dst=some k→bl W0 n k) (hdst:i.dst=o.dst)
  (ho:o.op=.call {callee:=.value x,args:=us,argTypes:=ats}) (hi:i.op=.mS y ys) (hxy:aE x y=true) (hx:ey us.toList ys=true) (h:step cl i env K=some r):o.wp P a w next Q:=by
 unfold step at h; rw [hi] at h; simp only [hdst] at h
 have hr:=eS hC hxy
 have hrun:∀ {f:FuncId} {cv:Array Value},fE P f→a.eval x=.func (.func f) #[] cv→(execOp a.eval o).run P w=.ok (.enter f (us.map a.eval++cv)) w:=by
  intro f cv hc hv
  have:=lM hc (us.map a.eval++cv) w
  simp [execOp,ho,resolve,Deferred.ofValue,invoke,hv,this]
 have e:(us.toList.map a.eval).toArray=us.map a.eval:=by apply jm.1; simp
 split at h
 ·rename_i A C g he
  simp only [aj] at h
  obtain ⟨as,h1,x',h2,z,h3,h4⟩:=h
  split at h4
  ·rename_i hs
   have hA:=mQ (G':=fun _ _=>True) hgood hC hx h1 ⟨fun _ _ _ _=>trivial,.inl fun _ _=>trivial⟩
   have hF:=S5 A h2 hA
   rw [he] at hr
   obtain ⟨_,vs,hr1,hr2⟩:=hr
   unfold Flat at hr1
   obtain ⟨_,_,f,cv,rfl,hfn⟩:=hr1
   have hcall:=hfn w _ _ _ (bP.refl _ _) hF z h3
   refine jX (hrun hcall.1 hr2) ?_
   rw [e] at hcall
   refine Calls.mono hcall.2 ?_
   rintro e w' ⟨rs,k1,rfl,k2⟩
   refine ⟨_,rfl,bu (e:=.v C z) hC hK hd (Below.wu k2) ?_ h4⟩
   exact ⟨rfl,rs,(Flat.eH P C hs k1).2 _ _ _ _,rfl⟩
  ·simp at h4
 ·rename_i f A C caps he
  simp only [ay.eqn,aj] at h
  obtain ⟨as,h1,cs,h2,res,h3,h4⟩:=h
  split at h4
  ·rename_i hp
   rw [he] at hr
   obtain ⟨_,cv,hv,hcap⟩:=hr
   have hT:nO P B G0 env ob w (fun _ _=>True) (fun _=>True):=⟨fun _ _ _ _=>trivial,.inl fun _ _=>trivial⟩
   have hA:=(mQ (G':=fun _ _=>True) hgood hC hx h1 ⟨fun _ _ _ _=>trivial,.inl fun _ _=>trivial⟩).append (BX hC hT hcap h2 (fun _ _=>trivial))
   have hcall:=hgood.call f _ _ h3 w _ _ hC.nG hA
   have e2:(us.toList.map a.eval++cv.toList).toArray=us.map a.eval++cv:=by apply jm.1; simp
   rw [e2] at hcall
   refine jX (hrun hcall.1 hv) (Calls.mono hcall.2 ?_)
   rintro e w' ⟨v,rob,rfl,hb,hres⟩
   exact ⟨v,rfl,tF hC hK hd hb hres (.inr hp) h4⟩
  ·simp at h4
 ·exact absurd h (by simp)
end
end Go.Fw
