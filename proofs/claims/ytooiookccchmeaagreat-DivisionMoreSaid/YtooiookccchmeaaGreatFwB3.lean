/- Own work: the value machine, part 3. -/
import Derived.Test.YtooiookccchmeaaGreatFwB2
set_option linter.unusedVariables false
set_option linter.unusedSimpArgs false
open Array renaming ext' → LG, size_setIfInBounds → rb, length_toList → zw, getElem?_eq_none → tY, getElem?_toList → jd, toList_inj → jO
open Bool renaming and_eq_true → au, false_eq_true → eo
open List renaming length_take → nE, length_drop → nC, getElem?_eq_some_iff → kc, getElem?_take_of_lt → uj, length_eq_one_iff → oR, append_assoc → bO, mem_append → dD, nodup_append → jh, mem_append_left → gp, mem_append_right → iK, all_cons → dJ, length_cons → fk, length_append → cm, eq_nil_of_length_eq_zero → lh, getElem?_cons_zero → iI, getElem?_map → lj, size_toArray → nF, take_left → DS, getElem?_append_left → fW, getElem?_append_right → eU
open List.cons renaming injEq → gC
open Nat renaming le_refl → cE, add_zero → kL, le_trans → ep, lt_of_lt_of_le → dK, mul_le_mul_right → zK, add_mul → oT
open Ne renaming symm → bu
open Option renaming bind_eq_some_iff → aq, getD_some → rl, getD_none → LZ, bind_some → ar
open Option.some renaming injEq → aw
open Prod.mk renaming injEq → eN
/- Soundness, part 12: slices of slices, parts of values, several results, function literals. -/
namespace Go.Fw
open Go Go.RowKit
section
variable {P:Program} {B:Nat} {G0:Nat→Nat→Prop} {W0:dc} {n:Nat} {env:Env} {a:Act} {w:World} {ob:Nat→OB}
variable {R:Type} {K:cM R} {r:R} {next:Act→World→Prop} {Q:Exit→Act→World→Prop} {o:Oper} {i:AI} {cl:az}
def eQ:List Operand→List Od→Bool
 | [],[]=>true
 | u::us,y::ys=>aF u y&&eQ us ys
 | _,_=>false
theorem akR {T:Ty} {G:Nat→Nat→Prop} {xs:List (den T)} {A:Option Addr} {c l h m:Nat} (hF:Flat P (.sl T) w G B .no xs [.slice A xs.length c] []) (h1:l≤h) (h2:h≤m) (h3:m≤c) (h4:h≤xs.length):
  Flat P (.sl T) w G B .no ((xs.drop l).take (h - l)) [.slice (if m=l then A else A.map (·.add (l * ay T))) (h - l) (m - l)] []:=by
 unfold Flat at hF ⊢
 obtain ⟨_,A',c',e1,hc,hm,hx⟩:=hF
 simp only [gC,Value.slice.injEq,and_true] at e1
 obtain ⟨rfl,_,rfl⟩:=e1
 have hlen:((xs.drop l).take (h - l)).length=h - l:=by rw [nE,nC]; omega
 refine ⟨rfl,_,m - l,by rw [hlen],by rw [hlen]; omega,by omega,?_⟩
 by_cases hml:m=l
 ·left
  have:h - l=0:=by omega
  rw [this]; rfl
 ·rw [if_neg hml]
  rcases hx with rfl | ⟨b,off,cells,rfl,hE,hcell⟩
  ·left; simp
  ·right
   refine ⟨b,off+l * ay T,_,by simp [lr],aL.drop_take (fun x v b hx=>Flat.len P _ hx) l (h - l) hE,fun j v hj=>?_⟩
   have hj':=(kc.1 hj).1
   rw [nE,nC] at hj'
   rw [uj (by omega),List.getElem?_drop] at hj
   have:=hcell _ v hj
   rw [Nat.add_assoc]
   exact this
theorem alI {t e:TypeId} {T:Ty} {x:Operand} {y:Od} {lo hi' mx:Option Operand} {lo' hi'' mx':Option Od} (hC:ah P B G0 W0 n env a.tmps w ob) (hK:bE P B G0 W0 n a K r next) (hd:∀ k,o.dst=some k→bl W0 n k) (hdst:i.dst=o.dst)
  (ho:o.op=.slice t x lo hi' mx) (hi:i.op=.kF T y lo' hi'' mx') (hu:P.underlying t=some (.slice e)) (hT:bH P e T) (hx:aF x y=true) (hlo:jZ lo lo'=true) (hhi:jZ hi' hi''=true) (hmx:jZ mx mx'=true) (hhm:mx.isSome=true→hi'.isSome=true)
  (h:step cl i env K=some r):o.wp P a w next Q:=by
 unfold step at h; rw [hi] at h; simp only [hdst,aq] at h
 obtain ⟨l,hl,m,hm,q,hq,⟨env',z⟩,hz,xs,hxs,h⟩:=h
 obtain ⟨ob',hf,hC',vs,hv,hF⟩:=la hC hx hz
 have hzz:=cL hxs
 simp only at hzz; subst hzz
 replace hF:Flat P (.sl T) w (Gd B G0 ob') B .no xs vs []:=hF
 replace hv:a.eval x=bh (.sl T) vs:=hv
 split at h
 case isFalse=>simp at h
 rename_i hb
 have hF':=hF
 unfold Flat at hF'
 obtain ⟨_,A,c,rfl,hc,hcm,_⟩:=hF'
 rw [z8] at hv
 have fin:∀ (mm:Nat),mm≤c→(m.getD (xs.length:Int)).toNat≤mm→
   (Instr.sliceBounds true xs.length c (lo.map a.eval) (hi'.map a.eval) (mx.map a.eval)).run P w=.ok ((l.getD 0).toNat,(m.getD (xs.length:Int)).toNat,mm) w→o.wp P a w next Q:=by
  intro mm hmm hmh hrun
  refine bp (w':=w) (v:=.slice (if mm=(l.getD 0).toNat then A else A.map (·.add ((l.getD 0).toNat * ay T))) ((m.getD (xs.length:Int)).toNat - (l.getD 0).toNat) (mm - (l.getD 0).toNat)) ?_
   (bz (e:=.v (.sl T) _) hC' hK hd (aO.refl w) (nv (akR (m:=mm) hF (by omega) hmh hmm (by omega))) h)
  simp [execOp,ho,hv,Instr.sliceAt,Instr.slice,run_underlying hu,hrun,nt hT]
 rcases qM hC hmx hq with ⟨rfl,rfl⟩ | ⟨um,km,zm,rfl,rfl,hum⟩
 ·rcases qM hC hlo hl with ⟨rfl,rfl⟩ | ⟨u,ku,zu,rfl,rfl,hu'⟩<;>rcases qM hC hhi hm with ⟨rfl,rfl⟩ | ⟨v,kv,zv,rfl,rfl,hvv⟩<;>simp only [rl,LZ] at hb fin
  ·refine fin c (cE _) (by omega) ?_
   simp [Instr.sliceBounds]
  ·refine fin c (cE _) (by omega) ?_
   simp [Instr.sliceBounds,hvv,run_sliceBound w kv zv c .sliceAcap (by omega) (by omega)]
  ·refine fin c (cE _) (by omega) ?_
   simp [Instr.sliceBounds,hu',run_sliceBound w ku zu xs.length .sliceB (by omega) (by omega)]
  ·refine fin c (cE _) (by omega) ?_
   simp [Instr.sliceBounds,hvv,hu',run_sliceBound w kv zv c .sliceAcap (by omega) (by omega),run_sliceBound w ku zu zv.toNat .sliceB (by omega) (by omega)]
 ·rcases qM hC hhi hm with ⟨rfl,rfl⟩ | ⟨v,kv,zv,rfl,rfl,hvv⟩
  ·exact absurd (hhm rfl) (by simp)
  ·rcases qM hC hlo hl with ⟨rfl,rfl⟩ | ⟨u,ku,zu,rfl,rfl,hu'⟩<;>simp only [rl,LZ] at hb fin
   ·refine fin zm.toNat (by omega) (by omega) ?_
    simp [Instr.sliceBounds,hum,hvv,run_sliceBound w km zm c .slice3Acap (by omega) (by omega),run_sliceBound w kv zv zm.toNat .slice3B (by omega) (by omega)]
   ·refine fin zm.toNat (by omega) (by omega) ?_
    simp [Instr.sliceBounds,hum,hvv,hu',run_sliceBound w km zm c .slice3Acap (by omega) (by omega),run_sliceBound w kv zv zm.toNat .slice3B (by omega) (by omega),run_sliceBound w ku zu zv.toNat .slice3C (by omega) (by omega)]
theorem zb {t:TypeId} {T:Ty} (h:bH P t T) (w:World) {v1 v2 v3:List Value} (hl:v2.length=ay T):(part t (v1++v2++v3).toArray v1.length).run P w=.ok (bh T v2) w:=by
 unfold part bh
 simp only [Sem.run_bind,Wh h,Result.andThen_ok]
 by_cases ha:cA T=true
 ·rw [if_pos ha,if_pos ha]
  simp only [Sem.run_bind,nt h,Result.andThen_ok,Sem.run_pure]
  congr 2
  apply LG
  simp [←hl]
 ·rw [if_neg ha,if_neg ha]
  have h1:v2.length=1:=by rw [hl]; cases T<;>simp_all [cA,ay]
  obtain ⟨u,rfl⟩:=oR.1 h1
  simp
theorem o4 {T:Ty} (h:cA T=true) (vs:List Value):bh T vs=.agg vs.toArray:=by unfold bh; rw [if_pos h]
theorem alj {t e:TypeId} {m:Nat} {T:Ty} {x ix:Operand} {y iy:Od} (hC:ah P B G0 W0 n env a.tmps w ob) (hK:bE P B G0 W0 n a K r next) (hd:∀ k,o.dst=some k→bl W0 n k) (hdst:i.dst=o.dst)
  (ho:o.op=.index t x ix) (hi:i.op=.yQ m T y iy) (hu:P.underlying t=some (.array m e)) (hT:bH P e T) (hx:aF x y=true) (hix:aF ix iy=true) (h:step cl i env K=some r):o.wp P a w next Q:=by
 unfold step at h; rw [hi] at h; simp only [hdst,aq] at h
 obtain ⟨q,hq,h⟩:=h
 have hvi:=s9 hC hix hq
 have hr:=fr hC hx
 split at h
 ·rename_i T' xs he
  simp only [aq] at h
  obtain ⟨xs',hxs,h⟩:=h
  have:=cL hxs
  rw [he] at hr
  cases this
  split at h
  case isFalse=>simp at h
  rename_i hb
  obtain ⟨_,vs,h1,h2⟩:=hr
  unfold Flat at h1
  obtain ⟨hlen,h1⟩:=h1
  obtain ⟨v1,v2,v3,c1,c2,c3,e1,e2,e3,e4,_⟩:=aL.split (fun x v b hx=>Flat.len P _ hx) q.2.toNat (zero T) h1 (by omega)
  have hnil:c2=[]:=by
   have:c1++c2++c3=[]:=e2.symm
   simp at this; exact this.2.1
  subst hnil
  rw [o4 rfl,e1] at h2
  refine bp (v:=bh T v2) (w':=w) ?_ (bz hC hK hd (aO.refl w) (nv e4) h)
  have hp:=zb hT w (v1:=v1) (v3:=v3) (Flat.len P T e4)
  rw [e3,bO] at hp
  simp [execOp,ho,h2,hvi.1,Instr.index,asIntOf,run_underlying hu,hb.1,hb.2,nt hT,hp]
 ·exact absurd h (by simp)
theorem alf {t:TypeId} {S A:Ty} {f:Nat} {x:Operand} {y:Od} {fs:Array Field} {fd:Field} (hC:ah P B G0 W0 n env a.tmps w ob) (hK:bE P B G0 W0 n a K r next) (hd:∀ k,o.dst=some k→bl W0 n k) (hdst:i.dst=o.dst)
  (ho:o.op=.field t x f) (hi:i.op=.field S (eX f) y) (hS:bH P t S) (hu:P.underlying t=some (.struct fs)) (hf:fs[f]?=some fd) (hsc:cB S=true) (hx:aF x y=true)
  (h:step cl i env K=some r):o.wp P a w next Q:=by
 unfold step at h; rw [hi] at h; simp only [hdst,aq] at h
 obtain ⟨z,hz,s,hs,u,hu',h⟩:=h
 have hr:=fr hC hx
 have hzz:=cL hs
 subst hzz
 obtain ⟨A',h1,h2,h3⟩:=hS.struct hu hf
 have hSagg:cA S=true:=by
  obtain ⟨d,hd1,hd2⟩:=hS.agg
  rw [hu] at hd1; cases hd1; exact hd2.symm
 unfold cZ at hz
 split at hz
 ·rename_i T x' he
  simp only [aw] at hz
  rw [he] at hr
  cases hz
  obtain ⟨_,vs,k1,k2⟩:=hr
  obtain ⟨v1,v2,v3,b1,b2,b3,e1,e2,e3,e4,_⟩:=Flat.lens P (eX f) S k1 hu'
  have hnil:b2=[]:=by
   have:b1++b2++b3=[]:=e2.symm
   simp at this; exact this.2.1
  subst hnil
  rw [rp] at e4
  have hsub:=qo (eX f) S k1 hu'
  rw [h1] at hsub
  simp only [aw] at hsub
  rw [o4 hSagg,e1] at k2
  refine bp (v:=bh u.1 v2) (w':=w) ?_ (bz hC hK hd (aO.refl w) (nv e4) h)
  have hp:=zb (hsub▸h2) w (v1:=v1) (v3:=v3) (Flat.len P u.1 e4)
  rw [e3,h3,bO] at hp
  simp [execOp,ho,k2,Instr.field,run_underlying hu,hf,asAgg,hp]
 ·split at hz
  ·simp only [aw] at hz; cases hz; simp [cA] at hSagg
  ·exact absurd hz (by simp)
 ·simp only [aq] at hz
  obtain ⟨hh,_,hz⟩:=hz
  split at hz
  ·simp only [aw] at hz; cases hz; simp [cA] at hSagg
  ·exact absurd hz (by simp)
 ·exact absurd hz (by simp)
theorem ah.part {k d:Nat} {tm:Array Value} (hC:ah P B G0 W0 n env tm w ob) (hkd:d≠k) (hd:bl W0 n d) {b1 b2 b3:OB} (hob:ob k=b1++b2++b3) {ek ed:E} {v:Value} {env':Env} {ob':Nat→OB}
  (hob':ob'=fun s=>if s=d then b2 else if s=k then b1++b3 else ob s) (hlook:∀ s,look env' s=if s=d then ed else if s=k then ek else if (look env d).home=true∧leads d (look env s)=true then .dead else look env s)
  (hnh:(look env k).home=false) (hk:(∀ b i,Gd B G0 ob b i→Gd B G0 ob' b i)→bn P w (Gd B G0 ob') B (tm.setIfInBounds d v) env' ek (tm.getD k undef) (b1++b3))
  (hdd:(∀ b i,Gd B G0 ob b i→Gd B G0 ob' b i)→bn P w (Gd B G0 ob') B (tm.setIfInBounds d v) env' ed v b2):ah P B G0 W0 n env' (tm.setIfInBounds d v) w ob':=by
 have hdt:d < tm.size:=by rw [hC.size]; exact hd.1
 have hd':ob' d=b2:=by rw [hob']; simp
 have hk':ob' k=b1++b3:=by rw [hob']; simp [bu hkd]
 have ho':∀ s,s≠d→s≠k→ob' s=ob s:=fun s h1 h2=>by rw [hob']; simp [h1,h2]
 have hsub2:∀ q,q∈b2→q∈ob k:=fun q hq=>by rw [hob]; simp [hq]
 have hsub13:∀ q,q∈b1++b3→q∈ob k:=fun q hq=>by rw [hob]; rcases dD.1 hq with hq | hq<;>simp [hq]
 have hfrom:∀ s q,q∈ob' s→(s=d∧q∈b2)∨(s=k∧q∈b1++b3)∨(s≠d∧s≠k∧q∈ob s):=by
  intro s q hq
  by_cases h1:s=d
  ·subst h1; rw [hd'] at hq; exact .inl ⟨rfl,hq⟩
  ·by_cases h2:s=k
   ·subst h2; rw [hk'] at hq; exact .inr (.inl ⟨rfl,hq⟩)
   ·rw [ho' s h1 h2] at hq; exact .inr (.inr ⟨h1,h2,hq⟩)
 have hGd:∀ b i,Gd B G0 ob b i→Gd B G0 ob' b i:=fun b i h=>oP (fun s b lim hb=>by
  rcases hfrom s _ hb with ⟨_,hq⟩ | ⟨_,hq⟩ | ⟨_,_,hq⟩
  ·exact ⟨k,lim,hsub2 _ hq,cE _⟩
  ·exact ⟨k,lim,hsub13 _ hq,cE _⟩
  ·exact ⟨s,lim,hq,cE _⟩) h
 have hnd:=hC.nodup k
 rw [hob] at hnd
 simp only [eW] at hnd
 rw [bO,jh] at hnd
 obtain ⟨n1,n2,n3⟩:=hnd
 rw [jh] at n2
 obtain ⟨n21,n22,n23⟩:=n2
 have hap:∀ b,b∈blocks b2→b∈blocks (b1++b3)→False:=by
  intro b h1 h2
  rw [eW,dD] at h2
  rcases h2 with h2 | h2
  ·exact n3 b h2 b (gp _ h1) rfl
  ·exact n23 b h1 b h2 rfl
 have hold:∀ s b,b∈blocks (ob' s)→∃ j,b∈blocks (ob j):=by
  intro s b hb
  obtain ⟨l,hb⟩:=aE.1 hb
  rcases hfrom s _ hb with ⟨_,hq⟩ | ⟨_,hq⟩ | ⟨_,_,hq⟩
  ·exact ⟨k,aE.2 ⟨_,hsub2 _ hq⟩⟩
  ·exact ⟨k,aE.2 ⟨_,hsub13 _ hq⟩⟩
  ·exact ⟨s,aE.2 ⟨_,hq⟩⟩
 refine ah.step hC (.less (aO.refl _) hold) (Below.refl _ _) (fun b i _ h=>⟨hGd b i h,rfl⟩) (fun s=>?_) ?_ ?_ ?_ (by rw [rb]; exact hC.size) (fun _ h=>hd.aj h _ _)
 ·by_cases h1:s=d
  ·subst h1; right
   rw [hlook,if_pos rfl,nk _ _ _ hdt,hd']
   exact hdd hGd
  ·by_cases h2:s=k
   ·subst h2; right
    rw [hlook,if_neg h1,if_pos rfl,gU _ _ h1,hk']
    exact hk hGd
   ·rw [hlook,if_neg h1,if_neg h2,gU _ _ h1,ho' s h1 h2]
    by_cases hkill:(look env d).home=true∧leads d (look env s)=true
    ·right; rw [if_pos hkill]; exact (bn.leads hkill.2 (hC.rep s)).2
    ·left; rw [if_neg hkill]
     refine ⟨rfl,rfl,rfl,fun _ _=>rfl,fun s' hs'=>?_⟩
     have hh:=bn.leads hs' (hC.rep s)
     have e1:s'≠d:=by rintro rfl; exact hkill ⟨hh.1,hs'⟩
     have e2:s'≠k:=by rintro rfl; rw [hnh] at hh; exact absurd hh.1 (by simp)
     refine eL.same (P:=P) ?_ (gU _ _ e1) (hC.rep s') (fun _ _=>rfl)
     rw [hlook,if_neg e1,if_neg e2,qE hh.1]; simp
 ·intro x y b hx hy
  obtain ⟨l1,hx⟩:=aE.1 hx
  obtain ⟨l2,hy⟩:=aE.1 hy
  rcases hfrom x _ hx with ⟨e1,q1⟩ | ⟨e1,q1⟩ | ⟨e1,f1,q1⟩<;>rcases hfrom y _ hy with ⟨e2,q2⟩ | ⟨e2,q2⟩ | ⟨e2,f2,q2⟩
  ·rw [e1,e2]
  ·exact (hap b (aE.2 ⟨_,q1⟩) (aE.2 ⟨_,q2⟩)).elim
  ·exact absurd (hC.dist _ _ b (aE.2 ⟨_,q2⟩) (aE.2 ⟨_,hsub2 _ q1⟩)) f2
  ·exact (hap b (aE.2 ⟨_,q2⟩) (aE.2 ⟨_,q1⟩)).elim
  ·rw [e1,e2]
  ·exact absurd (hC.dist _ _ b (aE.2 ⟨_,q2⟩) (aE.2 ⟨_,hsub13 _ q1⟩)) f2
  ·exact absurd (hC.dist _ _ b (aE.2 ⟨_,q1⟩) (aE.2 ⟨_,hsub2 _ q2⟩)) f1
  ·exact absurd (hC.dist _ _ b (aE.2 ⟨_,q1⟩) (aE.2 ⟨_,hsub13 _ q2⟩)) f1
  ·exact hC.dist _ _ b (aE.2 ⟨_,q1⟩) (aE.2 ⟨_,q2⟩)
 ·intro s
  by_cases h1:s=d
  ·subst h1; rw [hd']; exact n21
  ·by_cases h2:s=k
   ·subst h2; rw [hk',eW,jh]
    exact ⟨n1,n22,fun x hx y hy=>n3 x hx y (iK _ hy)⟩
   ·rw [ho' s h1 h2]; exact hC.nodup s
 ·intro s b hb
  obtain ⟨l,hb⟩:=aE.1 hb
  rcases hfrom s _ hb with ⟨_,hq⟩ | ⟨_,hq⟩ | ⟨_,_,hq⟩
  ·exact hC.low k b (aE.2 ⟨_,hsub2 _ hq⟩)
  ·exact hC.low k b (aE.2 ⟨_,hsub13 _ hq⟩)
  ·exact hC.low s b (aE.2 ⟨_,hq⟩)
theorem ale {k j:Nat} (hC:ah P B G0 W0 n env a.tmps w ob) (hK:bE P B G0 W0 n a K r next) (hd:∀ k,o.dst=some k→bl W0 n k) (hdst:i.dst=o.dst)
  (ho:o.op=.extract (.tmp k) j) (hi:i.op=.extract k j) (hkd:∃ d,o.dst=some d∧d≠k) (h:step cl i env K=some r):o.wp P a w next Q:=by
 unfold step at h; rw [hi] at h; simp only [hdst] at h
 have hr:=hC.rep k
 split at h
 ·rename_i es he
  rw [he] at hr
  obtain ⟨h0,vs,hv,ht⟩:=hr
  split at h
  ·rename_i e hej
   obtain ⟨u,b1,b2,b3,hu,hob,hre,hset⟩:=dX.split ht hej
   have hu':vs[j]?=some u:=by simpa using hu
   have hrun:(execOp a.eval o).run P w=.ok (.value u) w:=by
    have:a.eval (.tmp k)=.tuple vs:=hv
    simp [execOp,ho,this,Instr.extract,hu']
   cases e with
   | v T x'=>
     obtain ⟨rfl,vs',h1,h2⟩:=hre
     exact bp hrun (bz (e:=.v T x') hC hK hd (aO.refl w) ⟨rfl,vs',h1,h2⟩ h)
   | own wr e' T oa xs=>
     simp only at h
     split at h
     ·rename_i hwo
      simp only [au,Bool.not_eq_true'] at hwo
      obtain ⟨rfl,hpu⟩:=hwo
      have hF:=hre
      have hF2:Flat P (.sl T) w (Gd B G0 ob) B (.own false e' oa) xs [u] b2:=hre
      unfold cD Flat at hF
      obtain ⟨v',cells,ob',e1,_,_,hb2⟩:=hF
      simp only [gC,and_true] at e1
      subst e1
      have himm:Flat P (.sl T) w (Gd B G0 ob) B .no xs [u] []:=qP hF2 hpu (fun _ _ _ h=>h) (fun g i hg hB hi=>ue hC (s:=k) (lim:=xs.length * ay T) (by rw [hob,hb2]; simp [bN,hg]) hi hB)
      exact bp hrun (bz (e:=.v (.sl T) xs) hC hK hd (aO.refl w) ⟨rfl,[u],himm,rfl⟩ h)
     refine bp hrun ?_
     obtain ⟨d,bU,hdk⟩:=hkd
     rw [bU] at h ⊢
     have:=ah.part (ek:=.cI (es.set j .dead)) (ed:=.own wr e' T oa xs) (v:=u) (env':=aM ((k,.cI (es.set j .dead))::env) (some d) (.own wr e' T oa xs)) hC hdk (hd d bU) hob rfl ?_ (by rw [he]; rfl) ?_ ?_
     ·exact hK _ _ _ _ this h
     ·intro s
      simp only [Fw.aM]
      rw [iZ,aP,aP,if_neg (bu hdk)]
      by_cases h1:s=d
      ·subst h1; rw [if_pos rfl,if_pos rfl,if_neg (by simp [leads])]
      ·rw [if_neg (bu h1),if_neg h1]
       by_cases h2:s=k
       ·subst h2; rw [if_pos rfl,if_pos rfl]; simp [leads]
       ·rw [if_neg (bu h2),if_neg h2]
     ·intro hGd
      refine ⟨fun e he' s'=>?_,vs,hv,dX.imp (fun e he' v b hb hr=>cD.aj (tm:=a.tmps) (env:=env) (fun b i _ h=>⟨hGd b i h,rfl⟩) (bV.refl _ _) (fun _ _=>rfl) (fun s' hs'=>?_) hr) (hset .dead rfl)⟩
      ·rcases List.mem_or_eq_of_mem_set he' with he' | rfl
       ·exact h0 e he' s'
       ·rfl
      ·rcases List.mem_or_eq_of_mem_set he' with he' | rfl
       ·rw [h0 e he' s'] at hs'; exact absurd hs' (by simp)
       ·simp [leads] at hs'
     ·intro hGd
      exact Flat.mono P (.sl T) (fun b i _ h=>⟨hGd b i h,rfl⟩) (bV.refl _ _) (fun _ _=>rfl) hre
   | _=>simp at h
  ·exact absurd h (by simp)
 ·exact absurd h (by simp)
theorem bn.one {G:Nat→Nat→Prop} {tm:Array Value} {e:E} {v:Value} {b:OB} (h1:∀ es,e≠.cI es) (h2:∀ f A C c,e≠.cP f A C c) (h:bn P w G B tm env e v b):cD P w G B tm env e v b:=by
 cases e with
 | cI es=>exact absurd rfl (h1 es)
 | cP f A C c=>exact absurd rfl (h2 f A C c)
 | _=>exact h
theorem alw {f:FuncId} {A C:Ty} {caps:List Od} {cs:Array Operand} (hC:ah P B G0 W0 n env a.tmps w ob) (hK:bE P B G0 W0 n a K r next) (hd:∀ k,o.dst=some k→bl W0 n k) (hdst:i.dst=o.dst)
  (ho:o.op=.makeFunc (.func f) #[] cs) (hi:i.op=.qH f A C caps) (hcs:eQ cs.toList caps=true) (h:step cl i env K=some r):o.wp P a w next Q:=by
 unfold step at h; rw [hi] at h; simp only [hdst] at h
 split at h
 case isFalse=>simp at h
 rename_i hcap
 refine bp (v:=.func (.func f) #[] (cs.map a.eval)) (w':=w) (by simp [execOp,ho,Instr.makeFunc]) (bz (e:=.cP f A C (caps.map fun y=>fB y (av env y))) hC hK hd (aO.refl w) ⟨rfl,_,rfl,?_⟩ h)
 have key:∀ (us:List Operand) (ys:List Od),eQ us ys=true→(ys.all fun a=>(av env a).cap)=true→dX (cD P w (Gd B G0 ob) B a.tmps env) (ys.map fun y=>fB y (av env y)) (us.map a.eval) []:=by
  intro us
  induction us with
  | nil=>
    intro ys hy _
    cases ys with
    | nil=>exact ⟨rfl,rfl⟩
    | cons=>simp [eQ] at hy
  | cons u us ih=>
    intro ys hy hc
    cases ys with
    | nil=>simp [eQ] at hy
    | cons y ys=>
      simp only [eQ,au] at hy
      simp only [dJ,au] at hc
      refine ⟨a.eval u,us.map a.eval,[],[],rfl,rfl,?_,ih ys hy.2 hc.2⟩
      have hc1:=hc.1
      rcases HS hC hy.1 with hh | ⟨wr,e,T,o',xs,h1,_⟩
      ·refine bn.one ?_ ?_ hh
       ·intro es he
        change fB y (av env y)=_ at he
        generalize av env y=e at *
        cases e<;>simp only [E.cap,eo] at hc1<;>cases y<;>simp [fB] at he
       ·intro f A C cs he
        change fB y (av env y)=_ at he
        generalize av env y=e at *
        cases e<;>simp only [E.cap,eo] at hc1<;>cases y<;>simp [fB] at he
      ·exfalso
       generalize av env y=e at *
       cases e<;>simp only [E.cap,eo] at hc1<;>cases y<;>simp [fB] at h1
 have:=key cs.toList caps hcs hcap
 simpa using this
end
end Go.Fw
/- Soundness, part 13: values that are built. -/
namespace Go.Fw
open Go Go.RowKit
theorem RZ:∀ (vs:List Value) (k off:Nat) (cs:Array Value),off+k+vs.length≤cs.size→
  ((vs.zipIdx k).foldl (fun cs (q:Value×Nat)=>cs.setIfInBounds (off+q.2) q.1) cs).toList=cs.toList.take (off+k)++vs++cs.toList.drop (off+k+vs.length)
 | [],k,off,cs,_=>by simp
 | v::vs,k,off,cs,h=>by
   simp only [fk] at h
   simp only [List.zipIdx_cons,List.foldl_cons]
   rw [RZ vs (k+1) off (cs.setIfInBounds (off+k) v) (by rw [rb]; omega)]
   rw [Array.toList_setIfInBounds]
   apply List.ext_getElem?
   intro j
   simp only [List.getElem?_append,cm,nE,List.length_set,fk,zw,List.getElem?_take,List.getElem?_set,List.getElem?_drop]
   have hs:off+k < cs.size:=by omega
   by_cases h1:j < off+k
   ·simp [h1,show j < off+(k+1) by omega,show min (off+k) cs.size=off+k by omega,show min (off+(k+1)) cs.size=off+(k+1) by omega,show ¬ off+k=j by omega,show j < off+(k+1)+vs.length by omega,show j < off+k+(vs.length+1) by omega]
   ·by_cases h2:j=off+k
    ·subst h2
     simp [show min (off+k) cs.size=off+k by omega,show min (off+(k+1)) cs.size=off+(k+1) by omega,show off+k < off+(k+1) by omega,show off+k < off+(k+1)+vs.length by omega,hs]
    ·simp only [show ¬ j < off+(k+1) by omega,show min (off+k) cs.size=off+k by omega,show min (off+(k+1)) cs.size=off+(k+1) by omega,h1,if_false]
     by_cases h3:j < off+(k+1)+vs.length
     ·simp only [h3,if_true,show j < off+k+(vs.length+1) by omega]
      rw [show j - (off+k)=(j - (off+(k+1)))+1 by omega,List.getElem?_cons_succ]
     ·simp only [h3,if_false,show ¬ j < off+k+(vs.length+1) by omega]
      rw [if_neg (by omega)]
      congr 1; omega
theorem Ck {place:Nat→Option (Nat×Nat)} {cells:Array Value} {f off size:Nat} {v:Value} {vs v1 v2 v3:List Value} {rest:List (Nat×Value)} (hp:place f=some (off,size)) (hv:v.cells=vs.toArray) (hl:vs.length=size)
  (hc:cells.toList=v1++v2++v3) (h1:v1.length=off) (h2:v2.length=size):Instr.fill place cells ((f,v)::rest)=Instr.fill place (v1++vs++v3).toArray rest:=by
 have hsz:cells.size=v1.length+v2.length+v3.length:=by
  have:=congrArg List.length hc
  simp at this; omega
 simp only [Instr.fill,hp,hv]
 rw [if_neg (by simp; omega)]
 congr 1
 apply LG
 have:=RZ vs 0 off cells (by omega)
 rw [←Array.foldl_toList,Array.toList_zipIdx]
 simp only [kL] at this
 rw [this,hc]
 simp [←h1,←hl▸h2,List.drop_append]
section
variable {P:Program} {B:Nat} {G0:Nat→Nat→Prop} {W0:dc} {n:Nat} {env:Env} {a:Act} {w:World} {ob:Nat→OB}
variable {R:Type} {K:cM R} {r:R} {next:Act→World→Prop} {Q:Exit→Act→World→Prop} {o:Oper} {i:AI} {cl:az}
theorem eT.trans {o1 o2 o3:Nat→OB} (h:eT o1 o2) (k:eT o2 o3):eT o1 o3:=⟨fun j=>⟨(k.less j).1.trans (h.less j).1,fun b lim hb=>by
 obtain ⟨l1,h1,h2⟩:=(k.less j).2 b lim hb
 obtain ⟨l2,h3,h4⟩:=(h.less j).2 b l1 h1
 exact ⟨l2,h3,ep h4 h2⟩⟩⟩
def gJ (T:Ty) (place:Nat→Option (Nat×Nat)):List (Nat×Operand)→List (Path×Od)→Bool
 | [],[]=>true
 | (f,x)::us,(p,y)::ys=>aF x y&&(match cR T p with | some A=>(match place f with | some q=>q.1==a8 T p&&q.2==ay A | none=>false) | none=>false)&&gJ T place us ys
 | _,_=>false
theorem uH {T:Ty} {place:Nat→Option (Nat×Nat)}:∀ {us:List (Nat×Operand)} {ys:List (Path×Od)} {env env':Env} {ob:Nat→OB} {x x':den T} {cells:Array Value},ah P B G0 W0 n env a.tmps w ob→gJ T place us ys=true→
  Flat P T w (Gd B G0 ob) B .no x cells.toList []→il T x env ys=some (env',x')→
  ∃ ob' cells',eT ob ob'∧ah P B G0 W0 n env' a.tmps w ob'∧Instr.fill place cells (us.map fun q=>(q.1,a.eval q.2))=some cells'∧Flat P T w (Gd B G0 ob') B .no x' cells'.toList []
 | [],[],env,env',ob,x,x',cells,hC,_,hF,h=>by
   simp only [il,aw,eN] at h
   obtain ⟨rfl,rfl⟩:=h
   exact ⟨ob,cells,eT.refl _,hC,rfl,hF⟩
 | (f,u)::us,(p,y)::ys,env,env',ob,x,x',cells,hC,hok,hF,h=>by
   simp only [gJ,au] at hok
   simp only [il,aq] at h
   obtain ⟨⟨env1,z⟩,hz,x1,hx1,h⟩:=h
   obtain ⟨ob1,hf1,hC1,vs,hv,hFz⟩:=la hC hok.1.1 hz
   have hp:=hok.1.2
   obtain ⟨A,hA⟩:∃ A,cR T p=some A:=by
    cases hA:cR T p with
    | none=>simp [hA] at hp
    | some A=>exact ⟨A,rfl⟩
   obtain ⟨q,hq⟩:∃ q,place f=some q:=by
    cases hq:place f with
    | none=>simp [hA,hq] at hp
    | some q=>exact ⟨q,rfl⟩
   rw [hA,hq] at hp
   simp only [au,beq_iff_eq] at hp
   have hF1:Flat P T w (Gd B G0 ob1) B .no x cells.toList []:=Flat.mono P T (fun b i _ hg=>⟨hf1.Gd hg,rfl⟩) (bV.refl _ _) (fun _ _=>rfl) hF
   -- the part's own type
   obtain ⟨old,hold⟩:=fU p T x z x1 hx1
   obtain ⟨v1,v2,v3,b1,b2,b3,e1,e2,e3,e4,e5⟩:=Flat.lens P p T hF1 hold
   have hnil:b1=[]∧b2=[]∧b3=[]:=by
    have:b1++b2++b3=[]:=e2.symm
    simpa using this
   obtain ⟨rfl,rfl,rfl⟩:=hnil
   have hF2:=e5 .no z.2 vs [] x1 (fun _=>rfl) hFz hx1
   have hann:fa .no p .no=.no∨(fa .no p .no).pure=true:=.inr (qV p _ _ rfl rfl)
   obtain ⟨_,hF3⟩:=Flat.pure P T (qV p .no .no rfl rfl) (o':=.no) rfl hF2
   have hsub:=qo p T hF1 hold
   rw [hA] at hsub; simp only [aw] at hsub
   have hvl:vs.length=ay z.1:=Flat.len P z.1 hFz
   have hcells:(a.eval u).cells=vs.toArray:=by rw [hv]; exact kj hvl (Flat.one P z.1 rfl hFz)
   have hstep:=Ck (rest:=us.map fun q=>(q.1,a.eval q.2)) (f:=f) (v:=a.eval u) (hq) hcells (by rw [hvl,hp.2,hsub]) e1 (by rw [e3,hp.1]) (by rw [Flat.len P z.1 e4,hp.2,hsub])
   obtain ⟨ob2,cells',hf2,hC2,h3,h4⟩:=uH (cells:=(v1++vs++v3).toArray) hC1 hok.2 hF3 h
   exact ⟨ob2,cells',hf1.trans hf2,hC2,by rw [List.map_cons,hstep]; exact h3,h4⟩
 | [],_::_,_,_,_,_,_,_,_,hok,_,_=>by simp [gJ] at hok
 | _::_,[],_,_,_,_,_,_,_,hok,_,_=>by simp [gJ] at hok
where
 fU:∀ (p:Path) (T:Ty) (x:den T) (z:TV) (x1:den T),a6 T p x z=some x1→∃ y:den z.1,aH T p x=some ⟨z.1,y⟩
  | [],T,x,z,x1,h=>by
    have hs':bg T z=some x1:=by cases T<;>exact h
    have:=cL hs'
    subst this
    exact ⟨x,by simp only [aH]⟩
  | .l::p,.pair A C,x,z,x1,h=>by
    simp only [a6,aq] at h
    obtain ⟨y,hy,_⟩:=h
    obtain ⟨u,hu⟩:=fU p A x.1 z y hy
    exact ⟨u,by simp only [aH]; exact hu⟩
  | .r::p,.pair A C,x,z,x1,h=>by
    simp only [a6,aq] at h
    obtain ⟨y,hy,_⟩:=h
    obtain ⟨u,hu⟩:=fU p C x.2 z y hy
    exact ⟨u,by simp only [aH]; exact hu⟩
  | .ix i::p,.arr m T,x,z,x1,h=>by
    simp only [a6] at h
    split at h
    ·rename_i hi
     simp only [aq] at h
     obtain ⟨y,hy,_⟩:=h
     obtain ⟨u,hu⟩:=fU p T _ z y hy
     exact ⟨u,by simp only [aH]; rw [if_pos hi]; exact hu⟩
    ·simp at h
  | .l::_,.int _,_,_,_,h | .l::_,.bool,_,_,_,h | .l::_,.str,_,_,_,h | .l::_,.unit,_,_,_,h | .l::_,.sl _,_,_,_,h | .l::_,.arr _ _,_,_,_,h | .l::_,.fn _ _,_,_,_,h=>by simp [a6] at h
  | .r::_,.int _,_,_,_,h | .r::_,.bool,_,_,_,h | .r::_,.str,_,_,_,h | .r::_,.unit,_,_,_,h | .r::_,.sl _,_,_,_,h | .r::_,.arr _ _,_,_,_,h | .r::_,.fn _ _,_,_,_,h=>by simp [a6] at h
  | .ix _::_,.int _,_,_,_,h | .ix _::_,.bool,_,_,_,h | .ix _::_,.str,_,_,_,h | .ix _::_,.unit,_,_,_,h | .ix _::_,.sl _,_,_,_,h | .ix _::_,.pair _ _,_,_,_,h | .ix _::_,.fn _ _,_,_,_,h=>by simp [a6] at h
theorem Ec {T:Ty} {place:Nat→Option (Nat×Nat)}:∀ {us:List (Nat×Operand)} {ys:List (Path×Od)} {env env':Env} {ob:Nat→OB} {oa:ax} {x x':den T} {cells:Array Value},ah P B G0 W0 n env a.tmps w ob→gJ T place us ys=true→
  Flat P T w (Gd B G0 ob) B oa x cells.toList []→il T x env ys=some (env',x')→
  ∃ ob' cells',eT ob ob'∧ah P B G0 W0 n env' a.tmps w ob'∧Instr.fill place cells (us.map fun q=>(q.1,a.eval q.2))=some cells'∧Flat P T w (Gd B G0 ob') B (ru oa ys) x' cells'.toList []
 | [],[],env,env',ob,oa,x,x',cells,hC,_,hF,h=>by
   simp only [il,aw,eN] at h
   obtain ⟨rfl,rfl⟩:=h
   exact ⟨ob,cells,eT.refl _,hC,rfl,hF⟩
 | (f,u)::us,(p,y)::ys,env,env',ob,oa,x,x',cells,hC,hok,hF,h=>by
   simp only [gJ,au] at hok
   simp only [il,aq] at h
   obtain ⟨⟨env1,z⟩,hz,x1,hx1,h⟩:=h
   obtain ⟨ob1,hf1,hC1,vs,hv,hFz⟩:=la hC hok.1.1 hz
   have hp:=hok.1.2
   obtain ⟨A,hA⟩:∃ A,cR T p=some A:=by
    cases hA:cR T p with
    | none=>simp [hA] at hp
    | some A=>exact ⟨A,rfl⟩
   obtain ⟨q,hq⟩:∃ q,place f=some q:=by
    cases hq:place f with
    | none=>simp [hA,hq] at hp
    | some q=>exact ⟨q,rfl⟩
   rw [hA,hq] at hp
   simp only [au,beq_iff_eq] at hp
   have hF1:Flat P T w (Gd B G0 ob1) B oa x cells.toList []:=Flat.mono P T (fun b i _ hg=>⟨hf1.Gd hg,rfl⟩) (bV.refl _ _) (fun _ _=>rfl) hF
   -- the part's own type
   obtain ⟨old,hold⟩:=uH.fU p T x z x1 hx1
   obtain ⟨v1,v2,v3,b1,b2,b3,e1,e2,e3,e4,e5⟩:=Flat.lens P p T hF1 hold
   have hnil:b1=[]∧b2=[]∧b3=[]:=by
    have:b1++b2++b3=[]:=e2.symm
    simpa using this
   obtain ⟨rfl,rfl,rfl⟩:=hnil
   have hF2:=e5 .no z.2 vs [] x1 (fun _=>rfl) hFz hx1
   have hsub:=qo p T hF1 hold
   rw [hA] at hsub; simp only [aw] at hsub
   have hvl:vs.length=ay z.1:=Flat.len P z.1 hFz
   have hcells:(a.eval u).cells=vs.toArray:=by rw [hv]; exact kj hvl (Flat.one P z.1 rfl hFz)
   have hstep:=Ck (rest:=us.map fun q=>(q.1,a.eval q.2)) (f:=f) (v:=a.eval u) (hq) hcells (by rw [hvl,hp.2,hsub]) e1 (by rw [e3,hp.1]) (by rw [Flat.len P z.1 e4,hp.2,hsub])
   obtain ⟨ob2,cells',hf2,hC2,h3,h4⟩:=Ec (cells:=(v1++vs++v3).toArray) hC1 hok.2 hF2 h
   exact ⟨ob2,cells',hf1.trans hf2,hC2,by rw [List.map_cons,hstep]; exact h3,h4⟩
 | [],_::_,_,_,_,_,_,_,_,_,hok,_,_=>by simp [gJ] at hok
 | _::_,[],_,_,_,_,_,_,_,_,hok,_,_=>by simp [gJ] at hok
theorem ak4 {t:TypeId} {T:Ty} {us:Array (Nat×Operand)} {ys:List (Path×Od)} (hC:ah P B G0 W0 n env a.tmps w ob) (hK:bE P B G0 W0 n a K r next) (hd:∀ k,o.dst=some k→bl W0 n k) (hdst:i.dst=o.dst)
  (ho:o.op=.build t us) (hi:i.op=.build T ys) (hz:mV P t T) (hagg:cA T=true) (hT:bH P t T)
  (hok:(∃ fs places,P.underlying t=some (.struct fs)∧fs.toList.mapM (fun f=>(P.info? f.type).map fun i=>(f.offset,i.size))=some places∧gJ T (places.toArray[·]?) us.toList ys=true)∨
   (∃ m e T',P.underlying t=some (.array m e)∧bH P e T'∧gJ T (fun i=>some (i * ay T',ay T')) us.toList ys=true)) (h:step cl i env K=some r):o.wp P a w next Q:=by
 unfold step at h; rw [hi] at h; simp only [hdst,aq] at h
 obtain ⟨⟨env',x⟩,hx,h⟩:=h
 obtain ⟨it,z,vs,h1,h2,h3,h4⟩:=hz.ok
 have hcells:z.cells=vs.toArray:=by rw [h4]; exact kj (uR h3) (uS h3)
 have hF0:Flat P T w (Gd B G0 ob) B .no (zero T) vs.toArray.toList []:=by simpa using gw P T w _ B .no (gw.annOk_no T) h3
 rcases hok with ⟨fs,places,hu,hpl,hok⟩ | ⟨m,e,T',hu,hT',hok⟩
 ·obtain ⟨ob',cells',hf,hC',h5,h6⟩:=uH hC hok hF0 hx
  refine bp (v:=.agg cells') (w':=w) ?_ ?_
  ·have hb:P.built t ((us.map fun (i,x)=>(i,a.eval x))).toList=some cells':=by
    simp only [Program.built,h1,hu,h2,hpl,hcells]
    rw [←h5]; congr 1; simp
   have:=run_build (P:=P) w t (us.map fun (i,x)=>(i,a.eval x)) cells' hb
   simp [execOp,ho,this]
  ·have hr:=nv (tm:=a.tmps) (env:=env') h6
   rw [o4 hagg] at hr
   exact bz hC' hK hd (aO.refl w) (by simpa using hr) h
 ·obtain ⟨ie,hie,hse⟩:=hT'.size
  obtain ⟨ob',cells',hf,hC',h5,h6⟩:=uH hC hok hF0 hx
  refine bp (v:=.agg cells') (w':=w) ?_ ?_
  ·have hb:P.built t ((us.map fun (i,x)=>(i,a.eval x))).toList=some cells':=by
    simp only [Program.built,h1,hu,h2,hie,hcells,hse]
    rw [←h5]; congr 1; simp
   have:=run_build (P:=P) w t (us.map fun (i,x)=>(i,a.eval x)) cells' hb
   simp [execOp,ho,this]
  ·have hr:=nv (tm:=a.tmps) (env:=env') h6
   rw [o4 hagg] at hr
   exact bz hC' hK hd (aO.refl w) (by simpa using hr) h
theorem ak6 {t:TypeId} {T:Ty} {oa:ax} {us:Array (Nat×Operand)} {ys:List (Path×Od)} (hC:ah P B G0 W0 n env a.tmps w ob) (hK:bE P B G0 W0 n a K r next) (hd:∀ k,o.dst=some k→bl W0 n k) (hdst:i.dst=o.dst)
  (ho:o.op=.build t us) (hi:i.op=.kh T oa ys) (hoa:iS T oa=true) (hz:mV P t T) (hagg:cA T=true) (hT:bH P t T)
  (hok:(∃ fs places,P.underlying t=some (.struct fs)∧fs.toList.mapM (fun f=>(P.info? f.type).map fun i=>(f.offset,i.size))=some places∧gJ T (places.toArray[·]?) us.toList ys=true)∨
   (∃ m e T',P.underlying t=some (.array m e)∧bH P e T'∧gJ T (fun i=>some (i * ay T',ay T')) us.toList ys=true)) (h:step cl i env K=some r):o.wp P a w next Q:=by
 unfold step at h; rw [hi] at h; simp only [hdst,aq] at h
 obtain ⟨⟨env',x⟩,hx,h⟩:=h
 obtain ⟨it,z,vs,h1,h2,h3,h4⟩:=hz.ok
 have hcells:z.cells=vs.toArray:=by rw [h4]; exact kj (uR h3) (uS h3)
 have hF0:Flat P T w (Gd B G0 ob) B oa (zero T) vs.toArray.toList []:=by simpa using gw P T w _ B oa hoa h3
 rcases hok with ⟨fs,places,hu,hpl,hok⟩ | ⟨m,e,T',hu,hT',hok⟩
 ·obtain ⟨ob',cells',hf,hC',h5,h6⟩:=Ec hC hok hF0 hx
  refine bp (v:=.agg cells') (w':=w) ?_ ?_
  ·have hb:P.built t ((us.map fun (i,x)=>(i,a.eval x))).toList=some cells':=by
    simp only [Program.built,h1,hu,h2,hpl,hcells]
    rw [←h5]; congr 1; simp
   have:=run_build (P:=P) w t (us.map fun (i,x)=>(i,a.eval x)) cells' hb
   simp [execOp,ho,this]
  ·have hr:bn P w (Gd B G0 ob') B a.tmps env' (.nw T (ru oa ys) x) (bh T cells'.toList) []:=⟨rfl,_,h6,rfl⟩
   rw [o4 hagg] at hr
   exact bz hC' hK hd (aO.refl w) (by simpa using hr) h
 ·obtain ⟨ie,hie,hse⟩:=hT'.size
  obtain ⟨ob',cells',hf,hC',h5,h6⟩:=Ec hC hok hF0 hx
  refine bp (v:=.agg cells') (w':=w) ?_ ?_
  ·have hb:P.built t ((us.map fun (i,x)=>(i,a.eval x))).toList=some cells':=by
    simp only [Program.built,h1,hu,h2,hie,hcells,hse]
    rw [←h5]; congr 1; simp
   have:=run_build (P:=P) w t (us.map fun (i,x)=>(i,a.eval x)) cells' hb
   simp [execOp,ho,this]
  ·have hr:bn P w (Gd B G0 ob') B a.tmps env' (.nw T (ru oa ys) x) (bh T cells'.toList) []:=⟨rfl,_,h6,rfl⟩
   rw [o4 hagg] at hr
   exact bz hC' hK hd (aO.refl w) (by simpa using hr) h
end
end Go.Fw
/- Soundness, part 14: slices that are made and that grow. -/
namespace Go.Fw
open Go Go.RowKit
section
variable {P:Program} {B:Nat} {G0:Nat→Nat→Prop} {W0:dc} {n:Nat} {env:Env} {a:Act} {w w':World} {ob:Nat→OB}
variable {R:Type} {K:cM R} {r:R} {next:Act→World→Prop} {Q:Exit→Act→World→Prop} {o:Oper} {i:AI} {cl:az}
theorem ah.Lf {k d:Nat} {tm:Array Value} (hC:ah P B G0 W0 n env tm w ob) (hkd:d≠k) (hd:bl W0 n d) {b1 b2 b3 bd:OB} (hob:ob k=b1++b2++b3) {ek ed:E} {v:Value} {env':Env} {ob':Nat→OB}
  (hob':ob'=fun s=>if s=d then bd else if s=k then b1++b3 else ob s) (hbel:Below B w w') (hw:∀ b,b < w.heap.size→b∉blocks b2→w'.heap[b]?=w.heap[b]?)
  (hbd:∀ b,b∈blocks bd→b∈blocks b2∨(w.heap.size≤b∧b < w'.heap.size)) (hbdn:(blocks bd).Nodup)
  (hcell:∀ b i,b < w.heap.size→b∈blocks b2→Gd B G0 ob b i→(∀ lim,(b,lim)∈bd→i < lim)∧w'.cell? ⟨b,i,none⟩=w.cell? ⟨b,i,none⟩)
  (hlk:look env' k=ek) (hld:look env' d=ed)
  (hls:∀ s,s≠k→s≠d→look env' s=.dead∨(look env' s=look env s∧leads k (look env s)=false∧¬ ((look env d).home=true∧leads d (look env s)=true))∨
   (∃ p T o x o' x',look env s=.ptr k p∧look env' s=.ptr k p∧look env k=.loc T o x∧ek=.loc T o' x'))
  (hsd:∀ s,s≠k→s≠d→look env' s=.dead→ob s=[]∧(look env s).home=false)
  (hk:(∀ b i,b < w.heap.size→Gd B G0 ob b i→Gd B G0 ob' b i∧w'.cell? ⟨b,i,none⟩=w.cell? ⟨b,i,none⟩)→bn P w' (Gd B G0 ob') B (tm.setIfInBounds d v) env' ek (tm.getD k undef) (b1++b3))
  (hdd:(∀ b i,b < w.heap.size→Gd B G0 ob b i→Gd B G0 ob' b i∧w'.cell? ⟨b,i,none⟩=w.cell? ⟨b,i,none⟩)→bn P w' (Gd B G0 ob') B (tm.setIfInBounds d v) env' ed v bd):ah P B G0 W0 n env' (tm.setIfInBounds d v) w' ob':=by
 have hdt:d < tm.size:=by rw [hC.size]; exact hd.1
 have hd':ob' d=bd:=by rw [hob']; simp
 have hk':ob' k=b1++b3:=by rw [hob']; simp [bu hkd]
 have ho':∀ s,s≠d→s≠k→ob' s=ob s:=fun s h1 h2=>by rw [hob']; simp [h1,h2]
 have hsub2:∀ q,q∈b2→q∈ob k:=fun q hq=>by rw [hob]; simp [hq]
 have hsub13:∀ q,q∈b1++b3→q∈ob k:=fun q hq=>by rw [hob]; rcases dD.1 hq with hq | hq<;>simp [hq]
 have hfrom:∀ s q,q∈ob' s→(s=d∧q∈bd)∨(s=k∧q∈b1++b3)∨(s≠d∧s≠k∧q∈ob s):=by
  intro s q hq
  by_cases h1:s=d
  ·subst h1; rw [hd'] at hq; exact .inl ⟨rfl,hq⟩
  ·by_cases h2:s=k
   ·subst h2; rw [hk'] at hq; exact .inr (.inl ⟨rfl,hq⟩)
   ·rw [ho' s h1 h2] at hq; exact .inr (.inr ⟨h1,h2,hq⟩)
 have hnd:=hC.nodup k
 rw [hob] at hnd
 simp only [eW] at hnd
 rw [bO,jh] at hnd
 obtain ⟨n1,n2,n3⟩:=hnd
 rw [jh] at n2
 obtain ⟨n21,n22,n23⟩:=n2
 have hap2:∀ b,b∈blocks b2→b∈blocks (b1++b3)→False:=by
  intro b h1 h2
  rw [eW,dD] at h2
  rcases h2 with h2 | h2
  ·exact n3 b h2 b (gp _ h1) rfl
  ·exact n23 b h1 b h2 rfl
 have hlowk:∀ b,b∈blocks (b1++b3)→b < w.heap.size:=fun b hb=>by
  obtain ⟨l,hl⟩:=aE.1 hb
  exact (hC.low k b (aE.2 ⟨l,hsub13 _ hl⟩)).2
 have hap:∀ b,b∈blocks bd→b∈blocks (b1++b3)→False:=by
  intro b h1 h2
  rcases hbd b h1 with h | h
  ·exact hap2 b h h2
  ·have:=hlowk b h2; omega
 have hap':∀ s b,s≠k→b∈blocks bd→b∈blocks (ob s)→False:=by
  intro s b hs h1 h2
  rcases hbd b h1 with h | h
  ·obtain ⟨l,hl⟩:=aE.1 h
   exact hs (hC.dist _ _ b h2 (aE.2 ⟨l,hsub2 _ hl⟩))
  ·have:=(hC.low s b h2).2; omega
 have hG:∀ b i,b < w.heap.size→Gd B G0 ob b i→Gd B G0 ob' b i∧w'.cell? ⟨b,i,none⟩=w.cell? ⟨b,i,none⟩:=by
  intro b i hb hg
  by_cases hb2:b∈blocks b2
  ·obtain ⟨hc1,hc2⟩:=hcell b i hb hb2 hg
   refine ⟨?_,hc2⟩
   rcases hg with hg | ⟨g1,g0,g2⟩
   ·exact .inl hg
   ·refine .inr ⟨g1,g0,fun s lim hs=>?_⟩
    rcases hfrom s _ hs with ⟨_,hq⟩ | ⟨_,hq⟩ | ⟨_,_,hq⟩
    ·exact hc1 lim hq
    ·exact g2 k lim (hsub13 _ hq)
    ·exact g2 s lim hq
  ·refine ⟨?_,World.cell?_of_block (w:=w) (hw b hb hb2)⟩
   rcases hg with hg | ⟨g1,g0,g2⟩
   ·exact .inl hg
   ·refine .inr ⟨g1,g0,fun s lim hs=>?_⟩
    rcases hfrom s _ hs with ⟨_,hq⟩ | ⟨_,hq⟩ | ⟨_,_,hq⟩
    ·rcases hbd b (aE.2 ⟨lim,hq⟩) with h | h
     ·exact absurd h hb2
     ·omega
    ·exact g2 k lim (hsub13 _ hq)
    ·exact g2 s lim hq
 have hheap:∀ s,s≠k→∀ g∈blocks (ob s),w'.heap[g]?=w.heap[g]?:=by
  intro s hs g hg
  refine hw g (hC.low s g hg).2 (fun h=>?_)
  obtain ⟨l,hl⟩:=aE.1 h
  exact hs (hC.dist _ _ g hg (aE.2 ⟨l,hsub2 _ hl⟩))
 have hst:Steps ob ob' w w':=by
  refine ⟨fun s b hb=>?_,fun b hb hn=>hw b hb fun h=>?_⟩
  ·obtain ⟨l,hb⟩:=aE.1 hb
   rcases hfrom s _ hb with ⟨_,hq⟩ | ⟨_,hq⟩ | ⟨_,_,hq⟩
   ·rcases hbd b (aE.2 ⟨_,hq⟩) with h | h
    ·obtain ⟨l2,h⟩:=aE.1 h
     exact .inl ⟨k,aE.2 ⟨_,hsub2 _ h⟩⟩
    ·exact .inr h.1
   ·exact .inl ⟨k,aE.2 ⟨_,hsub13 _ hq⟩⟩
   ·exact .inl ⟨s,aE.2 ⟨_,hq⟩⟩
  ·obtain ⟨l,h⟩:=aE.1 h
   exact hn k (aE.2 ⟨l,hsub2 _ h⟩)
 refine ah.step hC hst hbel hG (fun s=>?_) ?_ ?_ ?_ (by rw [rb]; exact hC.size) (fun _ h=>hd.aj h _ _)
 ·by_cases h1:s=d
  ·subst h1; right
   rw [hld,nk _ _ _ hdt,hd']
   exact hdd hG
  ·by_cases h2:s=k
   ·subst h2; right
    rw [hlk,gU _ _ h1,hk']
    exact hk hG
   ·rw [gU _ _ h1,ho' s h1 h2]
    rcases hls s h2 h1 with hdead | ⟨h3,h4,h5⟩ | ⟨p,T,oa,x,oa',x',e1,e2,e3,e4⟩
    ·right; rw [hdead]; exact (hsd s h2 h1 hdead).1
    ·left
     refine ⟨h3,rfl,rfl,hheap s h2,fun s' hs'=>?_⟩
     have hh:=bn.leads hs' (hC.rep s)
     have f1:s'≠d:=by rintro rfl; exact h5 ⟨hh.1,hs'⟩
     have f2:s'≠k:=by rintro rfl; rw [h4] at hs'; exact absurd hs' (by simp)
     have f3:look env' s'=look env s':=by
      rcases hls s' f2 f1 with q | ⟨q,_⟩ | ⟨p,_,_,_,_,_,q,_⟩
      ·exfalso
       have:=(hsd s' f2 f1 q).2
       rw [this] at hh; exact absurd hh.1 (by simp)
      ·exact q
      ·rw [q] at hh; exact absurd hh.1 (by simp [E.home])
     exact eL.same (P:=P) f3 (gU _ _ f1) (hC.rep s') (hheap s' f2)
    ·right
     rw [e2]
     have hr:=hC.rep s
     rw [e1] at hr
     obtain ⟨h6,T1,o1,x1,b,h7,h8,h9,h10⟩:=hr
     rw [e3] at h7; cases h7
     exact ⟨h6,T,oa',x',b,by rw [hlk,e4],by rw [gU _ _ (bu hkd)]; exact h8,h9,h10⟩
 ·intro x y b hx hy
  obtain ⟨l1,hx⟩:=aE.1 hx
  obtain ⟨l2,hy⟩:=aE.1 hy
  rcases hfrom x _ hx with ⟨e1,q1⟩ | ⟨e1,q1⟩ | ⟨e1,f1,q1⟩<;>rcases hfrom y _ hy with ⟨e2,q2⟩ | ⟨e2,q2⟩ | ⟨e2,f2,q2⟩
  ·rw [e1,e2]
  ·exact (hap b (aE.2 ⟨_,q1⟩) (aE.2 ⟨_,q2⟩)).elim
  ·exact (hap' y b f2 (aE.2 ⟨_,q1⟩) (aE.2 ⟨_,q2⟩)).elim
  ·exact (hap b (aE.2 ⟨_,q2⟩) (aE.2 ⟨_,q1⟩)).elim
  ·rw [e1,e2]
  ·exact absurd (hC.dist _ _ b (aE.2 ⟨_,q2⟩) (aE.2 ⟨_,hsub13 _ q1⟩)) f2
  ·exact (hap' x b f1 (aE.2 ⟨_,q2⟩) (aE.2 ⟨_,q1⟩)).elim
  ·exact absurd (hC.dist _ _ b (aE.2 ⟨_,q1⟩) (aE.2 ⟨_,hsub13 _ q2⟩)) f1
  ·exact hC.dist _ _ b (aE.2 ⟨_,q1⟩) (aE.2 ⟨_,q2⟩)
 ·intro s
  by_cases h1:s=d
  ·subst h1; rw [hd']; exact hbdn
  ·by_cases h2:s=k
   ·subst h2; rw [hk',eW,jh]
    exact ⟨n1,n22,fun x hx y hy=>n3 x hx y (iK _ hy)⟩
   ·rw [ho' s h1 h2]; exact hC.nodup s
 ·intro s b hb
  obtain ⟨l,hb⟩:=aE.1 hb
  rcases hfrom s _ hb with ⟨_,hq⟩ | ⟨_,hq⟩ | ⟨_,_,hq⟩
  ·rcases hbd b (aE.2 ⟨_,hq⟩) with h | h
   ·obtain ⟨l',hl'⟩:=aE.1 h
    have:=hC.low k b (aE.2 ⟨_,hsub2 _ hl'⟩)
    exact ⟨this.1,dK this.2 hbel.size⟩
   ·exact ⟨ep hC.base h.1,h.2⟩
  ·have:=hC.low k b (aE.2 ⟨_,hsub13 _ hq⟩)
   exact ⟨this.1,dK this.2 hbel.size⟩
  ·have:=hC.low s b (aE.2 ⟨_,hq⟩)
   exact ⟨this.1,dK this.2 hbel.size⟩
theorem VX {e:TypeId} {T:Ty} {xs:List (den T)} {css:List Value} {cur:Array Value} {cap:Nat} {d:Option Nat} (hC:ah P B G0 W0 n env a.tmps w ob) (hK:bE P B G0 W0 n a K r next) (hd:∀ k,d=some k→bl W0 n k)
  (hE:aL (Flat P T w (Gd B G0 ob) B .no) xs css []) (hcur:cur.toList.take (xs.length * ay T)=css) (hcap:cur.size=cap * ay T) (hle:xs.length≤cap) (hmax:cap≤maxLen)
  (hk:K (aM env d (.own true e T .no xs))=some r):next (a.put d (.slice (some ⟨w.heap.size,0,none⟩) xs.length cap)) (w.alloc (.cells cur e)):=by
 have hg:aO w (w.alloc (.cells cur e)):=aO.alloc w _
 cases d with
 | none=>exact bz (e:=.dead) hC hK hd hg (v:=undef) rfl hk
 | some k=>
   have h:=ah.mF (e:=.own true e T .no xs) (v:=.slice (some ⟨w.heap.size,0,none⟩) xs.length cap) (bk:=[(w.heap.size,0)]) hC (hd k rfl) hg ?_ (by simp) (by simp)
   ·exact hK _ _ _ _ h hk
   ·rw [if_neg (by simp [leads])]
    show Flat P (.sl T) _ _ B (.own true e .no) xs [_] _
    unfold Flat
    refine ⟨_,css,[],rfl,tN ⟨aL.length (fun x v b hx=>Flat.len P T hx) hE,.inr ⟨w.heap.size,cap,cur,rfl,hC.base,heap_alloc_new w _,hle,hmax,hcap,hcur⟩⟩,?_,by simp [bN,Value.ownBlock]⟩
    exact aL.imp (fun x v b hb hx=>by
     have:b=[]:=by cases b with | nil=>rfl | cons q r=>exact absurd (hb q (by simp)) (by simp)
     subst this
     exact Flat.mono P T (fun b i hb h=>⟨rh (fun lim hl=>by simp at hl; omega) h,hg.cell hb⟩) ⟨hg.size,fun b hb=>hg.block b (dK hb hC.base)⟩ (by simp) hx) hE
def tJ:List (Nat×Operand)→Nat→Bool
 | [],_=>true
 | (i,_)::r,k=>i==k&&tJ r (k+1)
theorem RR (size:Nat):∀ (parts:List (Nat×Value)) (k:Nat) (done:List Value) (vss:List (List Value)) (cells:Array Value),parts.length=vss.length→(∀ j q,parts[j]?=some q→q.1=k+j∧∃ vs,vss[j]?=some vs∧q.2.cells=vs.toArray∧vs.length=size)→
  (∃ rest,cells.toList=done++rest∧rest.length=parts.length * size)→done.length=k * size→Instr.fill (fun i=>some (i * size,size)) cells parts=some (done++vss.flatten).toArray
 | [],k,done,vss,cells,hl,_,⟨rest,hc,hr⟩,_=>by
   have hv:vss=[]:=lh (by simpa using hl.symm)
   have hr':rest=[]:=lh (by simpa using hr)
   subst hv; subst hr'
   simp only [Instr.fill,aw]
   apply LG
   simpa using hc
 | (f,v)::parts,k,done,vss,cells,hl,hp,⟨rest,hc,hr⟩,hd=>by
   cases vss with
   | nil=>simp at hl
   | cons vs vss=>
     obtain ⟨h1,vs',h2,h3,h4⟩:=hp 0 (f,v) rfl
     simp only [iI,aw] at h2
     subst h2
     simp only [kL] at h1
     subst h1
     simp only [fk,Nat.succ_mul] at hr
     have hsplit:cells.toList=done++rest.take size++rest.drop size:=by rw [hc,bO,List.take_append_drop]
     rw [Ck (rest:=parts) rfl h3 h4 hsplit hd (by rw [nE]; omega)]
     rw [RR size parts (f+1) (done++vs) vss _ (by simpa using hl) (fun j q hq=>?_) ⟨rest.drop size,by simp,by rw [nC]; omega⟩ (by rw [cm,hd,h4,Nat.succ_mul])]
     ·simp
     ·obtain ⟨g1,vs2,g2,g3⟩:=hp (j+1) q (by simpa using hq)
      exact ⟨by omega,vs2,by simpa using g2,g3⟩
theorem Mn {T:Ty}:∀ {us:List Operand} {ys:List Od} {env env':Env} {ob:Nat→OB} {xs:List (den T)},ah P B G0 W0 n env a.tmps w ob→eQ us ys=true→nO T env ys=some (env',xs)→
  ∃ (ob':Nat→OB) (vss:List (List Value)),eT ob ob'∧ah P B G0 W0 n env' a.tmps w ob'∧aL (Flat P T w (Gd B G0 ob') B .no) xs vss.flatten []∧vss.length=us.length∧(∀ (j:Nat) (u:Operand),us[j]?=some u→∃ vs:List Value,vss[j]?=some vs∧(a.eval u).cells=vs.toArray∧vs.length=ay T)∧xs.length=us.length
 | [],[],env,env',ob,xs,hC,_,h=>by
   simp only [nO,aw,eN] at h
   obtain ⟨rfl,rfl⟩:=h
   exact ⟨ob,[],eT.refl _,hC,⟨rfl,rfl⟩,rfl,fun j u hu=>by simp at hu,rfl⟩
 | u::us,y::ys,env,env',ob,xs,hC,hok,h=>by
   simp only [eQ,au] at hok
   simp only [nO,aq,aw,eN] at h
   obtain ⟨⟨env1,z⟩,hz,x,hx,⟨env2,xs2⟩,h2,rfl,rfl⟩:=h
   obtain ⟨ob1,hf1,hC1,vs,hv,hFz⟩:=la hC hok.1 hz
   have hzz:=cL hx
   simp only at hzz; subst hzz
   replace hFz:Flat P T w (Gd B G0 ob1) B .no x vs []:=hFz
   replace hv:a.eval u=bh T vs:=hv
   obtain ⟨ob2,vss,hf2,hC2,hE,hl,hcs,hxl⟩:=Mn hC1 hok.2 h2
   refine ⟨ob2,vs::vss,hf1.trans hf2,hC2,⟨vs,vss.flatten,[],[],rfl,rfl,Flat.mono P T (fun b i _ hg=>⟨hf2.Gd hg,rfl⟩) (bV.refl _ _) (fun _ _=>rfl) hFz,hE⟩,by simp [hl],fun j w' hj=>?_,by simp [hxl]⟩
   cases j with
   | zero=>
     simp only [iI,aw] at hj; subst hj
     exact ⟨vs,rfl,by rw [hv]; exact kj (Flat.len P T hFz) (Flat.one P T rfl hFz),Flat.len P T hFz⟩
   | succ j=>simpa using hcs j w' (by simpa using hj)
 | [],_::_,_,_,_,_,_,hok,_=>by simp [eQ] at hok
 | _::_,[],_,_,_,_,_,hok,_=>by simp [eQ] at hok
theorem VQ:∀ (l:List (Nat×Operand)) (k j:Nat) (q:Nat×Operand),tJ l k=true→l[j]?=some q→q.1=k+j
 | [],_,_,_,_,h=>by simp at h
 | (i,u)::r,k,0,q,h,hq=>by
   simp only [tJ,au,beq_iff_eq] at h
   simp only [iI,aw] at hq
   subst hq; exact h.1
 | (i,u)::r,k,j+1,q,h,hq=>by
   simp only [tJ,au,beq_iff_eq] at h
   have:=VQ r (k+1) j q h.2 (by simpa using hq)
   omega
theorem ak7 {t e:TypeId} {T:Ty} {m:Nat} {us:Array (Nat×Operand)} {ys:List Od} (hC:ah P B G0 W0 n env a.tmps w ob) (hK:bE P B G0 W0 n a K r next) (hd:∀ k,o.dst=some k→bl W0 n k) (hdst:i.dst=o.dst)
  (ho:o.op=.buildSlice t m us) (hi:i.op=.buildSlice e T ys) (hu:P.underlying t=some (.slice e)) (hT:bH P e T) (hz:mV P e T) (hm:us.size=m) (hidx:tJ us.toList 0=true) (hok:eQ (us.toList.map (·.2)) ys=true)
  (hlim:m * ay T≤2 ^ 24) (hm24:m≤2 ^ 24) (h:step cl i env K=some r):o.wp P a w next Q:=by
 unfold step at h; rw [hi] at h; simp only [hdst,aq] at h
 obtain ⟨⟨env',xs⟩,hx,h⟩:=h
 obtain ⟨ob',vss,hf,hC',hE,hl,hcs,hxl⟩:=Mn hC hok hx
 obtain ⟨it,z,zs,h1,h2,h3,h4⟩:=hz.ok
 have hml:xs.length=m:=by rw [hxl,List.length_map,zw,hm]
 have hfl:vss.flatten.length=m * ay T:=by rw [aL.length (fun x v b hx=>Flat.len P T hx) hE,hml]
 have hfill:∀ cells:Array Value,cells.size=m * ay T→Instr.fill (fun i=>some (i * ay T,ay T)) cells (us.map fun x=>(x.1,a.eval x.2)).toList=some vss.flatten.toArray:=by
  intro cells hsz
  have:=RR (ay T) (us.map fun x=>(x.1,a.eval x.2)).toList 0 [] vss cells (by simp [hl]) (fun j q hq=>?_) ⟨cells.toList,by simp,by simp [hm,hsz]⟩ (by simp)
  ·simpa using this
  ·simp only [Array.toList_map,lj,Option.map_eq_some_iff] at hq
   obtain ⟨p,hp,rfl⟩:=hq
   obtain ⟨vs,k1,k2,k3⟩:=hcs j p.2 (by simp only [lj,hp]; rfl)
   exact ⟨VQ _ _ _ _ hidx hp,vs,k1,k2,k3⟩
 refine bp (v:=.slice (some ⟨w.heap.size,0,none⟩) m m) (w':=w.alloc (.cells vss.flatten.toArray e)) ?_ ?_
 ·have hlim':¬ (2 ^ 24 < m * ay T):=by omega
  simp only [execOp,ho,Instr.buildSlice,Sem.run_bind,run_underlying hu,Result.andThen_ok,nt hT,gt_iff_lt,hlim',if_false]
  by_cases hmz:m * ay T=0
  ·rw [if_pos hmz]
   simp only [Sem.run_bind,Sem.run_pure,Result.andThen_ok]
   rw [hfill _ (by simp)]
   simp [newRow]
  ·rw [if_neg hmz]
   simp only [Sem.run_bind,zeroValue,typeInfo,run_program,h1,h2,Sem.run_pure,Result.andThen_ok]
   rw [hfill _ (by simp)]
   simp [newRow]
 ·rw [←hml]
  refine VX hC' hK hd hE (by rw [hml,←hfl]; exact List.take_length) (by simp only [nF]; rw [hfl,hml]) (cE _) ?_ h
  rw [hml]; unfold maxLen; omega
end
end Go.Fw
/- Soundness, part 15: append, make. -/
namespace Go.Fw
open Go Go.RowKit
section
variable {P:Program} {B:Nat} {G0:Nat→Nat→Prop} {W0:dc} {n:Nat} {env:Env} {a:Act} {w w':World} {ob:Nat→OB}
variable {R:Type} {K:cM R} {r:R} {next:Act→World→Prop} {Q:Exit→Act→World→Prop} {o:Oper} {i:AI} {cl:az}
structure zB (w w':World) (B:Nat) (e:TypeId) (size:Nat) (v v':Value) (m1 m2:Nat) (olds news:List Value):Prop where
 Di:w'.ownsRow B e size v' (m1+m2) (olds++news)
 below:Below B w w'
 rest:∀ b,b < w.heap.size→v.ownBlock≠some b→w'.heap[b]?=w.heap[b]?
 block:∀ g,v'.ownBlock=some g→v.ownBlock=some g∨(w.heap.size≤g∧g < w'.heap.size)
 cells:∀ g j,v.ownBlock=some g→j < m1 * size→w'.cell? ⟨g,j,none⟩=w.cell? ⟨g,j,none⟩
theorem Ma {t e ty:TypeId} {it:TypeInfo} {z:Value} {size lim:Nat} (hu:P.underlying t=some (.slice e)) (hi:P.info? e=some it) (hz:it.zero=some z) (hs:it.size=size) (hzs:z.cells.size=size)
  (hlim:lim * it.bytes≤140737488355328) (hmax:lim≤maxLen) {v:Value} {m1:Nat} {olds:List Value} (hown:w.ownsRow B e size v m1 olds) (hB:B≤w.heap.size) {A:Option Addr} {m2 c:Nat} {news:List Value}
  (hnl:news.length=m2 * size) (hA:m2=0∨∃ b off,A=some ⟨b,off,none⟩∧∀ j u,news[j]?=some u→w.cell? ⟨b,off+j,none⟩=some u) (h1:∀ u∈news,u.oneCell'=true) (hsum:m1+m2≤lim):
  ∃ v' w',(Builtin.append_ #[t,t] ty #[v,.slice A m2 c]).run P w=.ok v' w'∧zB w w' B e size v v' m1 m2 olds news:=by
 subst hs
 have hbytes:(m1+m2) * it.bytes≤140737488355328:=ep (zK _ hsum) hlim
 have h63:m1+m2≤9223372036854775807:=by unfold maxLen at hmax; omega
 by_cases h0:m2=0
 ·-- nothing is appended
  subst h0
  have hn:news=[]:=lh (by simpa using hnl)
  subst hn
  refine ⟨v,w,?_,⟨by simpa using hown,Below.refl _ _,fun _ _ _=>rfl,fun g hg=>.inl hg,fun _ _ _ _=>rfl⟩⟩
  rcases hown.2 with ⟨rfl,rfl⟩ | ⟨g,cap,cur,rfl,_,_,hnc,_⟩
  ·cases A<;>simp [Builtin.append_,run_underlying hu,sizeOf,typeInfo,hi,Builtin.lenOf,Builtin.firstCells,loadCells,loadCellsFrom]
  ·cases A<;>simp [Builtin.append_,run_underlying hu,sizeOf,typeInfo,hi,Builtin.lenOf,Builtin.firstCells,loadCells,loadCellsFrom,hnc,storeCells]
 ·obtain ⟨b,off,rfl,hc⟩:=hA.resolve_left h0
  have hc':∀ j u,news[j]?=some u→w.cell? ((⟨b,off,none⟩:Addr).add j)=some u:=fun j u hj=>by rw [lr]; exact hc j u hj
  have hlen:(olds++news).length=(m1+m2) * it.size:=by rw [cm,hown.1,hnl,oT]
  have grown:∀ (old:Nat),old < m1+m2→
    zB w (w.drew.alloc (.cells (olds.toArray++news.toArray++Builtin.zeroCells z.cells (grownCap w (m1+m2) old e - (m1+m2))) e)) B e it.size v (.slice (some ⟨w.heap.size,0,none⟩) (m1+m2) (grownCap w (m1+m2) old e)) m1 m2 olds news:=by
   intro old ho
   have hge:=grownCap_ge w (m1+m2) old e
   have hcm:grownCap w (m1+m2) old e≤maxLen:=grownCap_le_maxLen w (m1+m2) old e (by unfold maxLen; omega)
   have hg:aO w (w.drew.alloc (.cells (olds.toArray++news.toArray++Builtin.zeroCells z.cells (grownCap w (m1+m2) old e - (m1+m2))) e)):=(aO.drew w).trans (aO.alloc w.drew _)
   refine ⟨⟨hlen,.inr ⟨w.heap.size,_,_,rfl,hB,heap_alloc_new w.drew _,hge,hcm,?_,?_⟩⟩,hg.below hB,fun b hb _=>hg.block b hb,fun g hg'=>?_,fun g j hg' _=>?_⟩
   ·simp only [Array.size_append,nF,size_zeroCells,hzs,hown.1,hnl,←oT]
    congr 1; omega
   ·simp only [Array.toList_append,bO]
    rw [←bO,←hlen]
    exact DS
   ·simp only [Value.ownBlock,aw] at hg'
    subst hg'
    exact .inr ⟨cE _,by simp⟩
   ·refine hg.cell ?_
    rcases hown.2 with ⟨rfl,_⟩ | ⟨g2,cap,cur,rfl,_,hh,_⟩
    ·simp [Value.ownBlock] at hg'
    ·simp only [Value.ownBlock,aw] at hg'; subst hg'
     rcases Nat.lt_or_ge g2 w.heap.size with h | h
     ·exact h
     ·simp [tY h] at hh
  rcases hown.2 with ⟨rfl,hm0⟩ | ⟨g,cap,cur,rfl,hBg,hg,hnc,hcm,hcs,htake⟩
  ·subst hm0
   have ho:olds=[]:=lh (by simpa using hown.1)
   subst ho
   have hr:=run_append_nil (P:=P) w t ty e it z hu hi hz ⟨b,off,none⟩ m2 c news hnl hc' (by omega) (by omega) (by simp only [Nat.zero_add] at hbytes; omega)
   have hgr:=grown 0 (by omega)
   simp only [Nat.zero_add,List.nil_append,Array.empty_append] at hgr ⊢
   refine ⟨_,_,hr,?_⟩
   simpa using hgr
  ·by_cases hroom:m1+m2≤cap
   ·have hfit:m1 * it.size+news.length≤cur.size:=by rw [hnl,hcs,←oT]; exact zK _ hroom
    have hr:=run_append_room (P:=P) w t ty e it hu hi g m1 cap cur hg ⟨b,off,none⟩ m2 c news hnl hc' h1 hroom hfit
    have hglt:g < w.heap.size:=by
     rcases Nat.lt_or_ge g w.heap.size with h | h
     ·exact h
     ·simp [tY h] at hg
    refine ⟨_,_,hr,⟨⟨hlen,.inr ⟨g,cap,_,rfl,hBg,setRow_heap w g cur _ e _ hg,hroom,hcm,?_,?_⟩⟩,⟨rfl,rfl,rfl,by simp,fun k hk=>setRow_other w g k _ (by omega),cE _⟩,fun b hb hne=>setRow_other w g b _ (fun e=>hne (by simp [Value.ownBlock,e])),fun g' hg'=>.inl hg',fun g' j hg' hj=>?_⟩⟩
    ·simp only [nF,cm,nE,nC,zw]
     omega
    ·rw [htake,←hlen]
     exact DS
    ·simp only [Value.ownBlock,aw] at hg'
     subst hg'
     rw [cell_setRow_same w g j cur _ e (0,0) hg,cell_of_row w g j cur e (0,0) hg]
     rw [←jd,←jd]
     simp only [bO]
     rw [fW (by rw [nE,zw]; omega),uj hj]
   ·have holds:∀ j u,olds[j]?=some u→w.cell? ((⟨g,0,none⟩:Addr).add j)=some u:=hown.cells (g:=g) rfl
    have hr:=run_append_grow (P:=P) w t ty e it z hu hi hz ⟨g,0,none⟩ m1 cap olds hown.1 holds ⟨b,off,none⟩ m2 c news hnl hc' (by omega) (by omega) (growslice_fits (by omega) hbytes)
    exact ⟨_,_,hr,grown cap (by omega)⟩
theorem tD (s:Nat) (env:Env) (k:Nat):look (jC s env) k=if eS s (look env k) then .dead else look env k:=by
 have:jC s env=env.map fun q=>(q.1,if eS s q.2 then E.dead else q.2):=by
  unfold jC
  apply List.map_congr_left
  intro q _
  split<;>rfl
 rw [this,Db (fun e=>if eS s e then E.dead else e) (by simp)]
theorem nL:∀ (p:Path) (o:ax) {wr:Bool} {e:TypeId} {o':ax},cd o p=.own wr e o'→cC p=false
 | [],_,_,_,_,_=>rfl
 | .l::p,o,_,_,_,h=>by simp only [cd] at h; simp only [cC]; exact nL p o.l h
 | .r::p,o,_,_,_,h=>by simp only [cd] at h; simp only [cC]; exact nL p o.r h
 | .ix _::_,_,_,_,_,h=>by simp [cd] at h
theorem Lo:∀ (p:Path) (T:Ty) (x:den T) (y:TV),cC p=false→aH T p x=some y→a6 T p x y=some x
 | [],T,x,y,_,h=>by
   simp only [aH,aw] at h; subst h
   have:a6 T [] x ⟨T,x⟩=bg T ⟨T,x⟩:=by cases T<;>rfl
   rw [this,BK]
 | .l::p,.pair A C,x,y,hi,h=>by
   simp only [aH] at h; simp only [cC] at hi
   simp only [a6,Lo p A x.1 y hi h,ar]
 | .r::p,.pair A C,x,y,hi,h=>by
   simp only [aH] at h; simp only [cC] at hi
   simp only [a6,Lo p C x.2 y hi h,ar]
 | .ix _::_,_,_,_,hi,_=>by simp [cC] at hi
 | .l::_,.int _,_,_,_,h | .l::_,.bool,_,_,_,h | .l::_,.str,_,_,_,h | .l::_,.unit,_,_,_,h | .l::_,.sl _,_,_,_,h | .l::_,.arr _ _,_,_,_,h | .l::_,.fn _ _,_,_,_,h=>by simp [aH] at h
 | .r::_,.int _,_,_,_,h | .r::_,.bool,_,_,_,h | .r::_,.str,_,_,_,h | .r::_,.unit,_,_,_,h | .r::_,.sl _,_,_,_,h | .r::_,.arr _ _,_,_,_,h | .r::_,.fn _ _,_,_,_,h=>by simp [aH] at h
theorem ar0 (hC:ah P B G0 W0 n env a.tmps w ob) {k:Nat} {p:Path} {h:ka} {v:Value} {env2:Env} (hh:bc env k p=some h) (hv:bj w a.tmps env k p=some v) (ho:h.o.pure=true) (ht:tW env k p=some env2):
  ∃ b1 b2 b3 cells,ob k=b1++b2++b3∧b2=bN v (if h.wr=true then 0 else h.xs.length * ay h.T)∧gk w B h.e (ay h.T) v h.xs.length cells∧aL (Flat P h.T w (Gd B G0 ob) B .no) h.xs cells []∧
    (∀ s,s≠k→(look env2 s=.dead∧(look env s).home=false∧ob s=[])∨(look env2 s=look env s∧leads k (look env s)=false)∨
     (∃ q T o x o' x',look env s=.ptr k q∧look env2 s=.ptr k q∧look env k=.loc T o x∧look env2 k=.loc T o' x'))∧
    (∀ (w':World) (G':Nat→Nat→Prop) (tm':Array Value) (env':Env),(∀ b i,b < w.heap.size→Gd B G0 ob b i→G' b i∧w'.cell? ⟨b,i,none⟩=w.cell? ⟨b,i,none⟩)→bV B w w'→
     (∀ g∈blocks (b1++b3),w'.heap[g]?=w.heap[g]?)→bn P w' G' B tm' env' (look env2 k) (a.tmps.getD k undef) (b1++b3)):=by
 have hr:=hC.rep k
 have hh':=hh
 simp only [bc] at hh
 simp only [bj] at hv
 unfold tW at ht
 split at hh
 ·rename_i wr e T oa xs hk
  rw [hk] at hr hv ht
  split at hh
  ·simp only [aw] at hh hv ht
   subst hh; subst hv; subst ht
   have hr':Flat P (.sl T) w (Gd B G0 ob) B (.own wr e oa) xs [a.tmps.getD k undef] (ob k):=hr
   unfold Flat at hr'
   obtain ⟨v',cells,b2,e1,h2,h3,h4⟩:=hr'
   simp only [gC,and_true] at e1
   subst e1
   obtain ⟨hb2,h5⟩:=aL.pure P (o':=.no) ho rfl h3
   subst hb2
   refine ⟨[],_,[],cells,by rw [h4]; simp,rfl,h2,h5,fun s hs=>?_,fun w' G' tm' env' _ _ _=>?_⟩
   ·rw [aP,if_neg (bu hs),oA]
    by_cases hl:leads k (look env s)=true
    ·rw [if_pos hl]
     refine .inl ⟨rfl,?_,(bn.leads hl (hC.rep s)).2⟩
     cases hes:look env s<;>rw [hes] at hl<;>simp_all [leads,E.home]
    ·rw [if_neg hl]; exact .inr (.inl ⟨rfl,by simpa using hl⟩)
   ·rw [aP,if_pos rfl]; exact rfl
  ·exact absurd hh (by simp)
 ·rename_i T oa x hk
  rw [hk] at ht hv
  simp only [aw] at ht
  subst ht
  split at hh
  ·rename_i wr e' o' T' xs he hg
   simp only [aw] at hh
   subst hh
   obtain ⟨b,cur,e,v1,v2,v3,b1,b2,b3,k1,k2,k3,k4,k5,k6,k7,k8⟩:=kY hC hk hg
   rw [he] at k7
   have hv2:v2.length=1:=Flat.len P (.sl T') k7
   obtain ⟨u,rfl⟩:=oR.1 hv2
   have hcell:=nR k2 k4 0 u rfl
   rw [k5,kL] at hcell
   simp only [k1] at hv
   rw [hcell] at hv
   simp only [aw] at hv
   subst hv
   have k7':=k7
   unfold Flat at k7'
   obtain ⟨v',cells,bb,e1,h2,h3,h4⟩:=k7'
   simp only [gC,and_true] at e1
   subst e1
   obtain ⟨hbb,h5⟩:=aL.pure P (o':=.no) ho rfl h3
   subst hbb
   have hix:=nL p oa he
   have hole:Flat P T w (Gd B G0 ob) B (fa oa p .hole) x (v1++[u]++v3) (b1++[]++b3):=
    k8 .hole xs [u] [] x (fun hp=>by rw [hix] at hp; exact absurd hp (by simp)) (by unfold Flat; exact ⟨rfl,rfl⟩) (Lo p T x _ hix hg)
   refine ⟨(b,0)::b1,b2,b3,cells,by rw [k6]; simp,by rw [h4]; simp,h2,h5,fun s hs=>?_,fun w' G' tm' env' hG hL hO=>?_⟩
   ·rw [aP,if_neg (bu hs),tD]
    by_cases hl:eS k (look env s)=true
    ·rw [if_pos hl]
     have hl2:leads k (look env s)=true:=by
      cases hes:look env s<;>rw [hes] at hl<;>simp only [eS] at hl<;>first | exact hl | (simp at hl; done)
     refine .inl ⟨rfl,?_,(bn.leads hl2 (hC.rep s)).2⟩
     cases hes:look env s<;>rw [hes] at hl2<;>simp_all [leads,E.home]
    ·rw [if_neg hl]
     by_cases hl2:leads k (look env s)=true
     ·right; right
      cases hes:look env s with
      | ptr k' q=>
        rw [hes] at hl2
        simp only [leads,beq_iff_eq] at hl2; subst hl2
        exact ⟨q,T,oa,x,_,x,rfl,rfl,hk,by rw [aP,if_pos rfl]⟩
      | _=>rw [hes] at hl hl2; exact absurd hl2 (by simpa only [eS] using hl)
     ·exact .inr (.inl ⟨rfl,by simpa using hl2⟩)
   ·rw [aP,if_pos rfl]
    refine ⟨b,cur,e,b1++b3,k1,k3,?_,?_,by simp⟩
    ·rw [hO b (by simp)]; exact k2
    ·rw [k4]
     exact Flat.mono P T hG hL (fun g hg=>hO g (by simp only [List.cons_append,jU,List.mem_cons]; exact .inr (by simpa using hg))) (by simpa using hole)
  ·exact absurd hh (by simp)
 ·exact absurd hh (by simp)
theorem zB.yK {B:Nat} {e:TypeId} {size:Nat} {v v':Value} {m1 m2:Nat} {olds news:List Value} (h:zB w w' B e size v v' m1 m2 olds news) (hv:v.ownBlock=none):aO w w':=
 ⟨h.below.os,h.below.tape,h.below.output,h.below.size,fun b hb=>h.rest b hb (by rw [hv]; simp),h.below.drawn⟩
theorem Dg (v:Value) (l:Nat):∀ b,b∈blocks (bN v l)→v.ownBlock=some b:=by
 intro b hb
 unfold bN at hb
 cases hv:v.ownBlock with
 | none=>rw [hv] at hb; simp at hb
 | some g=>rw [hv] at hb; simp at hb; rw [hb]
theorem K8 (v:Value) (l:Nat):(blocks (bN v l)).Nodup:=by unfold bN; cases v.ownBlock<;>simp
set_option maxHeartbeats 800000 in
theorem akZ {t e:TypeId} {T:Ty} {lim:Nat} {x s:Operand} {y sy:Od} {it:TypeInfo} {z:Value} (hC:ah P B G0 W0 n env a.tmps w ob) (hK:bE P B G0 W0 n a K r next) (hd:∀ k,o.dst=some k→bl W0 n k) (hdst:i.dst=o.dst)
  (ho:o.op=.call {callee:=.builtin .append,args:=#[s,x],argTypes:=#[t,t]}) (hi:i.op=.append e T lim sy y) (hu:P.underlying t=some (.slice e)) (hT:bH P e T) (hie:P.info? e=some it) (hz:it.zero=some z) (hzs:z.cells.size=ay T)
  (hlim:lim * it.bytes≤140737488355328) (hmax:lim≤maxLen) (hnb:e≠gV) (hx:aF x y=true) (hs:aF s sy=true) (h:step cl i env K=some r):o.wp P a w next Q:=by
 unfold step at h; rw [hi] at h; simp only [hdst,aq] at h
 obtain ⟨⟨env1,zz⟩,hp,ys,hys,h⟩:=h
 obtain ⟨ob1,hf1,hC1,vs,hv,hF⟩:=la hC hx hp
 have hzz:=cL hys
 simp only at hzz; subst hzz
 replace hF:Flat P (.sl T) w (Gd B G0 ob1) B .no ys vs []:=hF
 replace hv:a.eval x=bh (.sl T) vs:=hv
 have hF':=hF
 unfold Flat at hF'
 obtain ⟨_,A,c,rfl,hlc,hcm,hA⟩:=hF'
 rw [z8] at hv
 have hsz:it.size=ay T:=by
  obtain ⟨i2,h2,h3⟩:=hT.size
  rw [hie] at h2; cases h2; exact h3
 -- the cells that are appended
 obtain ⟨news,hnE,hnA⟩:∃ news,aL (Flat P T w (Gd B G0 ob1) B .no) ys news []∧(ys.length=0∨∃ b off,A=some ⟨b,off,none⟩∧∀ j u,news[j]?=some u→w.cell? ⟨b,off+j,none⟩=some u):=by
  rcases hA with rfl | ⟨b,off,cells,rfl,hE,hcell⟩
  ·exact ⟨[],⟨rfl,rfl⟩,.inl rfl⟩
  ·exact ⟨cells,hE,.inr ⟨b,off,rfl,fun j u hj=>(hcell j u hj).1⟩⟩
 have hnl:news.length=ys.length * ay T:=aL.length (fun x v b hx=>Flat.len P T hx) hnE
 have hn1:∀ u∈news,u.oneCell'=true:=by
  have:∀ {xs:List (den T)} {vs:List Value} {ob:OB},aL (Flat P T w (Gd B G0 ob1) B .no) xs vs ob→∀ u∈vs,u.oneCell'=true:=by
   intro xs
   induction xs with
   | nil=>rintro vs ob ⟨rfl,rfl⟩; simp
   | cons x xs ih=>
     rintro vs ob ⟨u1,u2,c1,c2,rfl,rfl,hr,ht⟩ u hu
     rcases dD.1 hu with hu | hu
     ·exact Flat.one P T (o:=.no) rfl hr u hu
     ·exact ih ht u hu
  exact this hnE
 have run:∀ {v v':Value} {w':World},a.eval s=v→(Builtin.append_ #[t,t] o.type #[v,.slice A ys.length c]).run P w=.ok v' w'→(execOp a.eval o).run P w=.ok (.value v') w':=by
  intro v v' w' hev hrun
  simp [execOp,ho,resolve,invoke,builtin,hev,hv,hrun]
 split at h
 ·-- onto nil
  rename_i e' T'
  split at h
  case isFalse=>simp at h
  rename_i hee
  split at h
  case isFalse=>simp at h
  rename_i hle
  have hev:a.eval s=.slice none 0 0:=by
   unfold aF at hs
   split at hs<;>first | (rename_i hh; cases hh; exact pC hs) | (rename_i hh; cases hh; done) | (exact absurd hs (by simp))
  obtain ⟨v',w',hrun,hgrew⟩:=Ma (ty:=o.type) hu hie hz hsz hzs hlim hmax (World.ownsRow_nil w B e (ay T)) hC1.base hnl hnA hn1 (by omega)
  have hg:=hgrew.yK rfl
  refine bp (run hev hrun) ?_
  cases bU:o.dst with
  | none=>
    rw [bU] at h
    exact bz (e:=.dead) hC1 hK (d:=none) (by simp) hg (v:=v') rfl h
  | some d=>
    rw [bU] at h
    have hfresh:∀ b,b∈blocks (bN v' 0)→w.heap.size≤b∧b < w'.heap.size:=fun b hb=>by
     rcases hgrew.block b (Dg v' 0 b hb) with q | q
     ·simp [Value.ownBlock] at q
     ·exact q
    have h2:=ah.mF (e:=.own true e T .no ys) (v:=v') (bk:=bN v' 0) hC1 (hd d bU) hg ?_ hfresh (K8 _ _)
    ·exact hK _ _ _ _ h2 h
    ·rw [if_neg (by simp [leads])]
     show Flat P (.sl T) w' _ B (.own true e .no) ys [v'] _
     unfold Flat
     refine ⟨v',news,[],rfl,tN (by simpa using hgrew.Di),aL.imp (fun x u b hb hx=>?_) hnE,by simp⟩
     have:b=[]:=by cases b with | nil=>rfl | cons q r=>exact absurd (hb q (by simp)) (by simp)
     subst this
     exact Flat.mono P T (fun b i hb h=>⟨rh (fun lim hl=>by have:=(hfresh b (aE.2 ⟨_,hl⟩)).1; omega) h,hg.cell hb⟩) ⟨hg.size,fun b hb=>hg.block b (dK hb hC1.base)⟩ (by simp) hx
 ·-- onto a slice that is held
  rename_i k0
  simp only [aq] at h
  obtain ⟨⟨k,p⟩,hpl,hh,hhe,xs,hxs,env2,htk,h⟩:=h
  split at h
  case h_2=>simp at h
  rename_i hcond
  split at h
  case isFalse=>simp at h
  rename_i hle
  simp only [au] at hcond
  obtain ⟨⟨hap,hpure⟩,hee⟩:=hcond
  have hee':hh.e=e:=by simpa using hee
  have hTT:=cL hxs
  -- the header
  have hr1:=hC1.rep k0
  have hev:a.eval s=a.tmps.getD k0 undef:=jH hs a
  have hhead:bj w a.tmps env1 k p=some (a.eval s):=by
   unfold placeOf at hpl
   split at hpl
   ·rename_i he
    simp only [aw,eN] at hpl
    obtain ⟨rfl,rfl⟩:=hpl
    simp [bj,he,hev]
   ·rename_i k' p' he
    simp only [aw,eN] at hpl
    obtain ⟨rfl,rfl⟩:=hpl
    rw [he] at hr1
    rw [hev]; exact hr1.2.1
   ·exact absurd hpl (by simp)
  obtain ⟨wr,eh,Th,oh,xh⟩:=hh
  simp only at hee' hpure hTT hle h
  have hTh:Th=T:=by
   have:=congrArg Sigma.fst hTT
   simpa using this
  subst hTh
  have hxh:xh=xs:=by simpa using hTT
  subst hxh
  subst hee'
  obtain ⟨b1,b2,b3,cells,e1,e2,e3,e4,e5,e6⟩:=ar0 hC1 hhe hhead hpure htk
  simp only at e2 e3 e4
  obtain ⟨v',w',hrun,hgrew⟩:=Ma (ty:=o.type) hu hie hz hsz hzs hlim hmax (e3.Di hnb) hC1.base hnl hnA hn1 hle
  refine bp (run rfl hrun) ?_
  cases bU:o.dst with
  | none=>rw [bU] at hap; simp [apart] at hap
  | some d=>
    rw [bU] at hap h
    have hdk:d≠k:=by simpa [apart] using hap
    have hlook:∀ j,look (aM env2 (some d) (.own wr eh Th .no (xh++ys))) j=if d=j then .own wr eh Th .no (xh++ys) else if (look env2 d).home=true∧leads d (look env2 j)=true then .dead else look env2 j:=by
     intro j
     simp only [Fw.aM]
     rw [iZ]
     simp only [leads,eo,if_false]
    have hlim':∀ lim',(∀ g,(a.eval s).ownBlock=some g→(g,lim')∈ob1 k→True):=fun _ _ _ _=>trivial
    have hC2:=ah.Lf (k:=k) (d:=d) (w':=w') (v:=v') (bd:=bN v' (if wr=true then 0 else (xh++ys).length * ay Th)) (ek:=look env2 k) (ed:=.own wr eh Th .no (xh++ys))
     (env':=aM env2 (some d) (.own wr eh Th .no (xh++ys))) hC1 hdk (hd d bU) e1 rfl hgrew.below (fun b hb hnb=>hgrew.rest b hb (fun q=>hnb (by rw [e2]; exact aE.2 ⟨_,jY q⟩)))
     (fun b hb=>by
      rcases hgrew.block b (Dg v' _ b hb) with q | q
      ·exact .inl (by rw [e2]; exact aE.2 ⟨_,jY q⟩)
      ·exact .inr q) (K8 _ _) (fun b i hb hb2 hg=>?_) ?_ ?_ (fun j hjk hjd=>?_) (fun j hjk hjd hdead=>?_) (fun hG=>?_) (fun hG=>?_)
    ·exact hK _ _ _ _ hC2 h
    ·-- cells of the row that could be read
     have hbo:(a.eval s).ownBlock=some b:=by rw [e2] at hb2; exact Dg _ _ _ hb2
     have hrec:(b,if wr=true then 0 else xh.length * ay Th)∈ob1 k:=by
      rw [e1,e2]; simp [jY hbo]
     have hBb:=(hC1.low k b (aE.2 ⟨_,hrec⟩)).1
     have hi:i < if wr=true then 0 else xh.length * ay Th:=by
      rcases hg with ⟨q,_⟩ | ⟨_,_,q⟩
      ·omega
      ·exact q k _ hrec
     cases wr with
     | true=>simp at hi
     | false=>
       simp only [eo,if_false] at hi ⊢
       refine ⟨fun lim' hl=>?_,hgrew.cells b i hbo hi⟩
       have:lim'=(xh++ys).length * ay Th:=by
        unfold bN at hl
        cases hvb:v'.ownBlock with
        | none=>rw [hvb] at hl; simp at hl
        | some g=>rw [hvb] at hl; simp at hl; rw [hl.2]; simp
       rw [this,cm,oT]; omega
    ·rw [hlook,if_neg hdk]
     have:leads d (look env2 k)=false:=by
      unfold tW at htk
      split at htk
      ·simp only [aw] at htk; subst htk; rw [aP,if_pos rfl]; rfl
      ·simp only [aw] at htk; subst htk; rw [aP,if_pos rfl]; rfl
      ·exact absurd htk (by simp)
     simp [this]
    ·rw [hlook,if_pos rfl]
    ·rw [hlook,if_neg (bu hjd)]
     have hdhome:look env2 d=look env1 d∨(look env2 d).home=false:=by
      rcases e5 d hdk with ⟨q,_⟩ | ⟨q,_⟩ | ⟨_,_,_,_,_,_,q1,q2,_⟩
      ·right; rw [q]; rfl
      ·left; exact q
      ·right; rw [q2]; rfl
     rcases e5 j hjk with ⟨q1,q2,q3⟩ | ⟨q1,q2⟩ | ⟨q,Tq,oq,xq,oq',xq',q1,q2,q3,q4⟩
     ·left; rw [q1]; simp [leads]
     ·by_cases hkill:(look env2 d).home=true∧leads d (look env2 j)=true
      ·left; rw [if_pos hkill]
      ·right; left
       rw [if_neg hkill]
       refine ⟨q1,q2,fun hk2=>hkill ?_⟩
       rcases hdhome with hd1 | hd1
       ·rw [hd1,q1]; exact hk2
       ·exfalso
        rcases e5 d hdk with ⟨z1,z2,_⟩ | ⟨z1,_⟩ | ⟨_,_,_,_,_,_,z1,_⟩
        ·rw [z2] at hk2; exact absurd hk2.1 (by simp)
        ·rw [z1] at hd1; rw [hd1] at hk2; exact absurd hk2.1 (by simp)
        ·rw [z1] at hk2; simp [E.home] at hk2
     ·right; right
      have:leads d (look env2 j)=false:=by rw [q2]; simp [leads,bu hdk]
      rw [this]
      simp only [eo,and_false,if_false]
      exact ⟨q,Tq,oq,xq,oq',xq',q1,q2,q3,q4⟩
    ·rw [hlook,if_neg (bu hjd)] at hdead
     rcases e5 j hjk with ⟨q1,q2,q3⟩ | ⟨q1,q2⟩ | ⟨q,Tq,oq,xq,oq',xq',q1,q2,q3,q4⟩
     ·exact ⟨q3,q2⟩
     ·by_cases hkill:(look env2 d).home=true∧leads d (look env2 j)=true
      ·have hl:=hkill.2
       rw [q1] at hl
       refine ⟨(bn.leads hl (hC1.rep j)).2,?_⟩
       cases hes:look env1 j<;>rw [hes] at hl<;>simp_all [leads,E.home]
      ·rw [if_neg hkill,q1] at hdead
       have:=hC1.rep j
       rw [hdead] at this ⊢
       exact ⟨this,rfl⟩
     ·rw [q2] at hdead
      have:leads d (E.ptr k q)=false:=by simp [leads,bu hdk]
      rw [this] at hdead; simp at hdead
    ·refine e6 w' _ _ _ hG ⟨hgrew.below.size,hgrew.below.block⟩ (fun g hg=>hgrew.rest g ?_ ?_)
     ·obtain ⟨l,hl⟩:=aE.1 hg
      refine (hC1.low k g (aE.2 ⟨l,?_⟩)).2
      rw [e1]; rcases dD.1 hl with q | q<;>simp [q]
     ·intro q
      have hnd:=hC1.nodup k
      rw [e1] at hnd
      simp only [eW] at hnd hg
      rw [bO,jh] at hnd
      obtain ⟨n1,n2,n3⟩:=hnd
      rw [jh] at n2
      have hg2:g∈blocks b2:=by rw [e2]; exact aE.2 ⟨_,jY q⟩
      rcases dD.1 hg with q' | q'
      ·exact n3 g q' g (gp _ hg2) rfl
      ·exact n2.2.2 g hg2 g q' rfl
    ·show Flat P (.sl Th) w' _ B (.own wr eh .no) (xh++ys) [v'] _
     unfold Flat
     refine ⟨v',cells++news,[],rfl,tN (by simpa [cm] using hgrew.Di),?_,by simp⟩
     have hm:∀ {xs:List (den Th)} {vs:List Value},aL (Flat P Th w (Gd B G0 ob1) B .no) xs vs []→aL (Flat P Th w' (Gd B G0 _) B .no) xs vs []:=fun hE=>aL.imp (fun x u b hb hx=>by
      have:b=[]:=by cases b with | nil=>rfl | cons q r=>exact absurd (hb q (by simp)) (by simp)
      subst this
      exact Flat.mono P Th hG ⟨hgrew.below.size,hgrew.below.block⟩ (by simp) hx) hE
     simpa using aL.append (hm e4) (hm hnE)
 ·exact absurd h (by simp)
end
end Go.Fw
/- Soundness, part 16: arguments of a call; what a callee answers. -/
namespace Go.Fw
open Go Go.RowKit
theorem Flat.eZ (P:Program):∀ (T:Ty) {w:World} {G:Nat→Nat→Prop} {B:Nat} {o:ax} {x:den T} {vs:List Value} {ob:OB},cB T=true→Flat P T w G B o x vs ob→
  ob=[]∧∀ (w':World) (G':Nat→Nat→Prop) (B':Nat) (o':ax),Flat P T w' G' B' o' x vs []
 | .int k,_,_,_,_,_,_,_,_,h=>by unfold Flat at h; exact ⟨h.2.2,fun _ _ _ _=>by unfold Flat; exact ⟨h.1,h.2.1,rfl⟩⟩
 | .bool,_,_,_,_,_,_,_,_,h=>by unfold Flat at h; exact ⟨h.2,fun _ _ _ _=>by unfold Flat; exact ⟨h.1,rfl⟩⟩
 | .str,_,_,_,_,_,_,_,_,h=>by unfold Flat at h; exact ⟨h.2.2,fun _ _ _ _=>by unfold Flat; exact ⟨h.1,h.2.1,rfl⟩⟩
 | .unit,_,_,_,_,_,_,_,_,h=>by unfold Flat at h; exact ⟨h.2,fun _ _ _ _=>by unfold Flat; exact ⟨h.1,rfl⟩⟩
 | .pair A C,_,_,_,_,_,_,_,hs,h=>by
   simp only [cB,au] at hs
   unfold Flat at h
   obtain ⟨v1,v2,b1,b2,rfl,rfl,h1,h2⟩:=h
   obtain ⟨e1,k1⟩:=Flat.eZ P A hs.1 h1
   obtain ⟨e2,k2⟩:=Flat.eZ P C hs.2 h2
   exact ⟨by rw [e1,e2]; rfl,fun w' G' B' o'=>by unfold Flat; exact ⟨v1,v2,[],[],rfl,rfl,k1 _ _ _ _,k2 _ _ _ _⟩⟩
 | .arr n T,w,G,B,_,_,_,_,hs,h=>by
   simp only [cB] at hs
   unfold Flat at h
   have key:∀ {xs:List (den T)} {vs:List Value} {ob:OB},aL (Flat P T w G B .no) xs vs ob→ob=[]∧∀ (w':World) (G':Nat→Nat→Prop) (B':Nat),aL (Flat P T w' G' B' .no) xs vs []:=by
    intro xs
    induction xs with
    | nil=>rintro vs ob ⟨rfl,rfl⟩; exact ⟨rfl,fun _ _ _=>⟨rfl,rfl⟩⟩
    | cons x xs ih=>
      rintro vs ob ⟨u1,u2,c1,c2,rfl,rfl,hr,ht⟩
      obtain ⟨e1,k1⟩:=Flat.eZ P T hs hr
      obtain ⟨e2,k2⟩:=ih ht
      exact ⟨by rw [e1,e2]; rfl,fun w' G' B'=>⟨u1,u2,[],[],rfl,rfl,k1 _ _ _ _,k2 _ _ _⟩⟩
   obtain ⟨e,k⟩:=key h.2
   exact ⟨e,fun w' G' B' o'=>by unfold Flat; exact ⟨h.1,k _ _ _⟩⟩
 | .sl T,_,_,_,_,_,_,_,hs,_=>by simp [cB] at hs
 | .fn A C,_,_,_,_,_,_,_,hs,_=>by simp [cB] at hs
 | .map K V,_,_,_,_,_,_,_,hs,_=>by simp [cB] at hs
theorem Flat.up (P:Program):∀ (T:Ty) {w:World} {G:Nat→Nat→Prop} {B B':Nat} {x:den T} {vs:List Value} {ob:OB},B≤B'→Flat P T w G B .no x vs ob→Flat P T w G B' .no x vs ob
 | .int k,_,_,_,_,_,_,_,_,h=>by unfold Flat at h ⊢; exact h
 | .bool,_,_,_,_,_,_,_,_,h=>by unfold Flat at h ⊢; exact h
 | .str,_,_,_,_,_,_,_,_,h=>by unfold Flat at h ⊢; exact h
 | .unit,_,_,_,_,_,_,_,_,h=>by unfold Flat at h ⊢; exact h
 | .pair A C,_,_,_,_,_,_,_,hB,h=>by
   unfold Flat at h ⊢
   obtain ⟨v1,v2,b1,b2,rfl,rfl,h1,h2⟩:=h
   exact ⟨v1,v2,b1,b2,rfl,rfl,Flat.up P A hB h1,Flat.up P C hB h2⟩
 | .arr n T,_,_,_,_,_,_,_,hB,h=>by
   unfold Flat at h ⊢
   exact ⟨h.1,aL.imp (fun x v b _ hx=>Flat.up P T hB hx) h.2⟩
 | .sl T,_,_,_,_,_,_,_,hB,h=>by
   unfold Flat at h ⊢
   obtain ⟨h0,A,c,h1,h2,h3,h4⟩:=h
   refine ⟨h0,A,c,h1,h2,h3,?_⟩
   rcases h4 with h4 | ⟨b,off,cells,h5,h6,h7⟩
   ·exact .inl h4
   ·exact .inr ⟨b,off,cells,h5,aL.imp (fun x v b _ hx=>Flat.up P T hB hx) h6,h7⟩
 | .map K V,_,_,_,_,_,_,_,hB,h=>by unfold Flat at h ⊢; exact h
 | .fn A C,_,_,_,_,_,_,_,hB,h=>by
   unfold Flat at h ⊢
   obtain ⟨h0,hs,f,caps,h1,h2⟩:=h
   refine ⟨h0,hs,f,caps,h1,fun w' G' x vals hl hx r hr=>?_⟩
   have h3:=h2 w' G' x vals ⟨hl.1,fun b hb=>hl.2 b (dK hb hB)⟩ hx r hr
   refine ⟨h3.1,Calls.mono h3.2 ?_⟩
   rintro e w'' ⟨rs,k1,k2⟩
   exact ⟨rs,(Flat.eZ P C hs k1).2 _ _ _ _,k2⟩
theorem Flat.down (P:Program):∀ (T:Ty) {w:World} {G:Nat→Nat→Prop} {B B':Nat} {o:ax} {x:den T} {vs:List Value} {ob:OB},ej T=true→B'≤B→Flat P T w G B o x vs ob→Flat P T w G B' o x vs ob
 | .int k,_,_,_,_,_,_,_,_,_,_,h=>by unfold Flat at h ⊢; exact h
 | .bool,_,_,_,_,_,_,_,_,_,_,h=>by unfold Flat at h ⊢; exact h
 | .str,_,_,_,_,_,_,_,_,_,_,h=>by unfold Flat at h ⊢; exact h
 | .unit,_,_,_,_,_,_,_,_,_,_,h=>by unfold Flat at h ⊢; exact h
 | .pair A C,_,_,_,_,_,_,_,_,hn,hB,h=>by
   simp only [ej,au] at hn
   unfold Flat at h ⊢
   obtain ⟨v1,v2,b1,b2,rfl,rfl,h1,h2⟩:=h
   exact ⟨v1,v2,b1,b2,rfl,rfl,Flat.down P A hn.1 hB h1,Flat.down P C hn.2 hB h2⟩
 | .arr n T,_,_,_,_,_,_,_,_,hn,hB,h=>by
   simp only [ej] at hn
   unfold Flat at h ⊢
   exact ⟨h.1,aL.imp (fun x v b _ hx=>Flat.down P T hn hB hx) h.2⟩
 | .sl T,w,G,B,B',o,xs,vs,ob,hn,hB,h=>by
   simp only [ej] at hn
   have cZ:(ob=[]∧∃ A c,vs=[.slice A xs.length c]∧xs.length≤c∧c≤maxLen∧
    (xs=[]∨∃ b off cells,A=some ⟨b,off,none⟩∧aL (Flat P T w G B .no) xs cells []∧∀ j v,cells[j]?=some v→w.cell? ⟨b,off+j,none⟩=some v∧G b (off+j)))→
    (ob=[]∧∃ A c,vs=[.slice A xs.length c]∧xs.length≤c∧c≤maxLen∧
    (xs=[]∨∃ b off cells,A=some ⟨b,off,none⟩∧aL (Flat P T w G B' .no) xs cells []∧∀ j v,cells[j]?=some v→w.cell? ⟨b,off+j,none⟩=some v∧G b (off+j))):=by
    rintro ⟨h0,A,c,h1,h2,h3,h4⟩
    refine ⟨h0,A,c,h1,h2,h3,?_⟩
    rcases h4 with h4 | ⟨b,off,cells,h5,h6,h7⟩
    ·exact .inl h4
    ·exact .inr ⟨b,off,cells,h5,aL.imp (fun x v b _ hx=>Flat.down P T hn hB hx) h6,h7⟩
   cases o with
   | no=>unfold Flat at h ⊢; exact cZ h
   | hole=>unfold Flat at h ⊢; exact h
   | pair a b=>unfold Flat at h ⊢; exact cZ h
   | mp=>unfold Flat at h ⊢; exact cZ h
   | own wr e o=>
     unfold Flat at h ⊢
     obtain ⟨v,cells,ob',h1,h2,h3,h4⟩:=h
     refine ⟨v,cells,ob',h1,⟨h2.1,?_⟩,aL.imp (fun x v b _ hx=>Flat.down P T hn hB hx) h3,h4⟩
     rcases h2.2 with k | ⟨g,cap,cur,e1,fz,k1,k2,k3⟩
     ·exact .inl k
     ·exact .inr ⟨g,cap,cur,e1,fz,k1,ep hB k2,k3⟩
 | .fn A C,_,_,_,_,_,_,_,_,hn,_,_=>by simp [ej] at hn
 | .map K V,w,G,B,B',o,xs,vs,ob,hn,hB,h=>by
   cases o with
   | mp=>
     unfold Flat at h ⊢
     obtain ⟨h1,h2,b,ents,clk,h3,h4,h5,h6,h7⟩:=h
     refine ⟨h1,h2,b,ents,clk,h3,ep hB h4,h5,h6,eF.imp (fun x m=>?_) h7⟩
     rintro ⟨ks,us,k1,k2,k3⟩
     exact ⟨ks,us,(Flat.eZ P K h1 k1).2 _ _ _ _,(Flat.eZ P V h2 k2).2 _ _ _ _,k3⟩
   | no | hole | pair | own=>unfold Flat at h ⊢; exact h
def iE (P:Program) (w:World) (G:Nat→Nat→Prop):E→Value→Prop
 | .v T x,v=>∃ vs,Flat P T w G w.heap.size .no x vs []∧v=bh T vs
 | .at T x,v=>∃ b off vs,v=.pointer (some ⟨b,off,none⟩)∧Flat P T w G w.heap.size .no x vs []∧∀ j u,vs[j]?=some u→w.cell? ⟨b,off+j,none⟩=some u
 | .dead,v=>v=.slice none 0 0
 | _,_=>False
inductive dQ (P:Program) (w:World) (G:Nat→Nat→Prop):List E→List Value→Prop
 | nil:dQ P w G [] []
 | cons {e:E} {v:Value} {es:List E} {vs:List Value}:iE P w G e v→dQ P w G es vs→dQ P w G (e::es) (v::vs)
theorem dQ.append {P:Program} {w:World} {G:Nat→Nat→Prop} {es fs:List E} {vs us:List Value} (h:dQ P w G es vs) (k:dQ P w G fs us):dQ P w G (es++fs) (vs++us):=by
 induction h with
 | nil=>exact k
 | cons h _ ih=>exact .cons h ih
theorem iE.C4 {P:Program} {w w':World} {G G':Nat→Nat→Prop} {e:E} {v:Value} (hL:bV w.heap.size w w') (hG:∀ b i,b < w.heap.size→G b i→G' b i) (h:iE P w G e v):iE P w' G' e v:=by
 have cell:∀ b i,b < w.heap.size→w'.cell? ⟨b,i,none⟩=w.cell? ⟨b,i,none⟩:=fun b i hb=>Q1 hL hb
 cases e<;>first | exact (h:False).elim | skip
 ·exact h
 ·obtain ⟨vs,h1,h2⟩:=h
  exact ⟨vs,Flat.up P _ hL.1 (Flat.mono P _ (fun b i hb hg=>⟨hG b i hb hg,cell b i hb⟩) hL (by simp) h1),h2⟩
 ·obtain ⟨b,off,vs,h1,h2,h3⟩:=h
  refine ⟨b,off,vs,h1,Flat.up P _ hL.1 (Flat.mono P _ (fun b i hb hg=>⟨hG b i hb hg,cell b i hb⟩) hL (by simp) h2),fun j u hj=>?_⟩
  rw [cell b _ (World.block_lt_of_cell? w _ (h3 j u hj))]
  exact h3 j u hj
theorem dQ.C4 {P:Program} {w w':World} {G G':Nat→Nat→Prop} {es:List E} {vs:List Value} (hL:bV w.heap.size w w') (hG:∀ b i,b < w.heap.size→G b i→G' b i) (h:dQ P w G es vs):dQ P w' G' es vs:=by
 induction h with
 | nil=>exact .nil
 | cons h _ ih=>exact .cons (iE.C4 hL hG h) ih
def Gr (B:Nat) (G:Nat→Nat→Prop) (rob:OB) (b i:Nat):Prop:=(b < B∧G b i)∨(B≤b∧∀ lim,(b,lim)∈rob→i < lim)
structure ke (P:Program) (w w':World) (G:Nat→Nat→Prop) (res:List E) (v:Value) (rob:OB):Prop where
 rep:bn P w' (Gr w.heap.size G rob) w.heap.size #[] [] (eH res) v rob
 back:res.all E.back=true
 nodup:(blocks rob).Nodup
 new:∀ b∈blocks rob,w.heap.size≤b∧b < w'.heap.size
def DW (w w':World) (v:Value) (k:Nat) (cells:List Value):Prop:=
 (v.ownBlock=none∧aO w w'∧k=0)∨∃ g cur e fz cs w1,v.ownBlock=some g∧w.heap[g]?=some (.cells cur e fz)∧aO w w1∧w'=w1.setRow g cs∧cs.size=cur.size∧cs.toList.take k=cells
structure iF (v:Value) (w w1:World):Prop where
 os:w1.os=w.os
 tape:w1.tape=w.tape
 output:w1.output=w.output
 size:w.heap.size≤w1.heap.size
 drawn:w.drawn≤w1.drawn
 rest:∀ b,b < w.heap.size→v.ownBlock≠some b→w1.heap[b]?=w.heap[b]?
def zC (P:Program) (w:World) (G:Nat→Nat→Prop) (T:Ty) (o:ax) (x:den T) (v:Value) (lob:OB):Prop:=
 ∃ b cur e ob',v=.pointer (some ⟨b,0,none⟩)∧w.heap[b]?=some (.cells cur e (0,0))∧Flat P T w G 0 o x cur.toList ob'∧lob=(b,0)::ob'
def Gl (w:World) (G:Nat→Nat→Prop) (lob nob:OB) (b i:Nat):Prop:=
 (b < w.heap.size∧b∉blocks lob∧G b i)∨((w.heap.size≤b∨b∈blocks lob)∧∀ lim,(b,lim)∈nob→i < lim)
structure uf (P:Program) (w w':World) (G:Nat→Nat→Prop) (lob lob':OB) (T:Ty) (o':ax) (x':den T) (v:Value) (res:List E) (rv:Value) (rob:OB):Prop where
 os:w'.os=w.os
 tape:w'.tape=w.tape
 output:w'.output=w.output
 size:w.heap.size≤w'.heap.size
 drawn:w.drawn≤w'.drawn
 rest:∀ b,b < w.heap.size→b∉blocks lob→w'.heap[b]?=w.heap[b]?
 cells:∀ b i,b < w.heap.size→G b i→w'.cell? ⟨b,i,none⟩=w.cell? ⟨b,i,none⟩∧∀ lim,(b,lim)∈lob'++rob→i < lim
 shown:zC P w' (Gl w G lob (lob'++rob)) T o' x' v lob'
 rep:bn P w' (Gl w G lob (lob'++rob)) 0 #[] [] (eH res) rv rob
 back:res.all E.back=true
 nodup:(blocks (lob'++rob)).Nodup
 new:∀ b∈blocks (lob'++rob),b < w'.heap.size∧(b∈blocks lob∨w.heap.size≤b)
structure oW (w w':World) (ob ob':OB):Prop where
 os:w'.os=w.os
 tape:w'.tape=w.tape
 output:w'.output=w.output
 size:w.heap.size≤w'.heap.size
 drawn:w.drawn≤w'.drawn
 rest:∀ b,b < w.heap.size→b∉blocks ob→w'.heap[b]?=w.heap[b]?
 new:∀ b∈blocks ob',b < w'.heap.size∧(b∈blocks ob∨w.heap.size≤b)
 nodup:(blocks ob').Nodup
structure Good (P:Program) (t:fM) (cl:az):Prop where
 call:∀ f as res,cl f as=some res→∀ (w:World) (G:Nat→Nat→Prop) (vals:List Value),t.ok w→dQ P w G as vals→
  fi P f∧Calls P f vals.toArray w fun e w'=>∃ v rob,e=.returned v∧Below w.heap.size w w'∧ke P w w' G res v rob
 wr:∀ f e T (xs:List (den T)) res,cl f [.bJ,.own true e T .no xs]=some res→cB T=true→∃ ys:List (den T),res=[.own true e T .no ys]∧ys.length=xs.length∧fi P f∧
  ∀ (w:World) (B:Nat) (G:Nat→Nat→Prop) (v:Value) (cells:List Value),e≠gV→gk w B e (ay T) v xs.length cells→aL (Flat P T w G B .no) xs cells []→
    Calls P f #[v] w fun en w'=>en=.returned (.tuple #[])∧∃ cells',cells'.length=cells.length∧aL (Flat P T w G B .no) ys cells' []∧DW w w' v (xs.length * ay T) cells'
 lend:∀ f T o (x:den T) as res,cl f (.loc T o x::as)=some res→fi P f∧
  ∀ (w:World) (G:Nat→Nat→Prop) (v:Value) (vals:List Value) (lob:OB),ej T=true→t.ok w→(∀ b∈blocks lob,t.tb≤b)→zC P w G T o x v lob→(blocks lob).Nodup→(∀ b∈blocks lob,b < w.heap.size)→(∀ b lim i,(b,lim)∈lob→G b i→i < lim)→
    dQ P w G as vals→as.all tB=true→
    Calls P f (v::vals).toArray w fun e w'=>∃ (T':Ty) (o':ax) (x':den T') (rs:List E) (rv:Value) (lob' rob:OB),res=.loc T' o' x'::rs∧e=.returned rv∧uf P w w' G lob lob' T' o' x' v rs rv rob
 bU:∀ f e T (xs:List (den T)) A C (gf:den (.fn A C)) res,cl f [.bJ,.own true e T .no xs,.v (.fn A C) gf]=some res→∃ ys:List (den T),res=[.own true e T .no ys]∧fi P f∧
  ∀ (w:World) (B:Nat) (G:Nat→Nat→Prop) (v gv:Value) (cells:List Value),e≠gV→gk w B e (ay T) v xs.length cells→aL (Flat P T w G B .no) xs cells []→
    (∀ g i,v.ownBlock=some g→¬ G g i)→B≤w.heap.size→
    (∀ w1,iF v w w1→Flat P (.fn A C) w1 (fun _ _=>True) w1.heap.size .no gf [gv] [])→
    Calls P f #[v,gv] w fun en w'=>∃ v' cells',en=.returned v'∧iF v w w'∧v'.ownBlock=v.ownBlock∧gk w' B e (ay T) v' ys.length cells'∧aL (Flat P T w' G B .no) ys cells' []
 iX:∀ f e T (xs:List (den T)) A C (gf:den (.fn A C)) res,cl f [.bJ,.v (.fn A C) gf,.own true e T .no xs]=some res→∃ ys:List (den T),res=[.own true e T .no ys]∧fi P f∧
  ∀ (w:World) (B:Nat) (G:Nat→Nat→Prop) (v gv:Value) (cells:List Value),e≠gV→gk w B e (ay T) v xs.length cells→aL (Flat P T w G B .no) xs cells []→
    (∀ g i,v.ownBlock=some g→¬ G g i)→B≤w.heap.size→
    (∀ w1,iF v w w1→Flat P (.fn A C) w1 (fun _ _=>True) w1.heap.size .no gf [gv] [])→
    Calls P f #[v,gv] w fun en w'=>∃ cells',en=.returned (.tuple #[])∧iF v w w'∧gk w' B e (ay T) v ys.length cells'∧aL (Flat P T w' G B .no) ys cells' []
 iC:∀ f t e s x res,cl f [.bJ,.sb t e s,.v .str x]=some res→res=[.sb t e (s++x)]∧s.length+x.length≤140737488355328∧fi P f∧
  ∀ (w:World) (B:Nat) (v:Value) (ob:OB),B≤w.heap.size→jR w B t e s v ob→Calls P f #[v,.string ⟨⟨x⟩⟩] w fun en w'=>∃ rv ob',en=.returned rv∧jR w' B t e (s++x) v ob'∧oW w w' ob ob'
 jJ:∀ f t e s res,cl f [.bJ,.sb t e s]=some res→res=[.v .str s]∧fi P f∧
  ∀ (w:World) (B:Nat) (v:Value) (ob:OB),B≤w.heap.size→jR w B t e s v ob→Calls P f #[v] w fun en w'=>en=.returned (.string ⟨⟨s⟩⟩)∧oW w w' ob []
theorem ke.eZ {P:Program} {w w':World} {G:Nat→Nat→Prop} {C:Ty} {r:den C} {v:Value} {rob:OB} (hs:cB C=true) (h:ke P w w' G [.v C r] v rob):
  ∃ rs,v=bh C rs∧∀ (w':World) (G':Nat→Nat→Prop) (B':Nat),Flat P C w' G' B' .no r rs []:=by
 obtain ⟨_,vs,h1,h2⟩:=h.rep
 exact ⟨vs,h2,fun w' G' B'=>(Flat.eZ P C hs h1).2 _ _ _ _⟩
theorem ar5 {C:Ty} {es:List E} {r:den C} (h:j7 C es=some r):es=[.v C r]:=by
 unfold j7 at h
 split at h
 ·have:=cL h; cases this; rfl
 ·exact absurd h (by simp)
theorem iH.args {P:Program} {w:World} {G:Nat→Nat→Prop}:∀ (A:Ty) {x:den A} {vals:List Value},iH P A w G x vals→dQ P w G (unpack A x) vals
 | .pair A C,x,vals,h=>by
   unfold iH at h
   obtain ⟨v1,rest,h1,rfl,h2⟩:=h
   exact .cons ⟨v1,h1,rfl⟩ (iH.args C h2)
 | .unit,_,_,h=>by unfold iH at h; subst h; exact .nil
 | .int _,_,_,h | .bool,_,_,h | .str,_,_,h | .sl _,_,_,h | .arr _ _,_,_,h | .fn _ _,_,_,h=>by unfold iH at h; exact h.elim
theorem WQ {P:Program} {w:World} {G:Nat→Nat→Prop}:∀ (A:Ty) {as:List E} {x:den A} {vals:List Value},tuple A as=some x→dQ P w G as vals→iH P A w G x vals
 | .unit,[],x,vals,_,h=>by cases h; unfold iH; rfl
 | .unit,_::_,_,_,h,_=>by simp [tuple] at h
 | .pair A C,e::es,x,vals,ht,h=>by
   cases h with
   | cons h1 h2=>
     cases e with
     | v T y=>
       simp only [tuple,aq,aw] at ht
       obtain ⟨y',hy,z,hz,rfl⟩:=ht
       have:=cL hy; cases this
       obtain ⟨v1,k1,rfl⟩:=h1
       unfold iH
       exact ⟨v1,_,k1,rfl,WQ C hz h2⟩
     | _=>simp [tuple] at ht
 | .pair A C,[],_,_,h,_=>by simp [tuple] at h
 | .int _,_,_,_,h,_ | .bool,_,_,_,h,_ | .str,_,_,_,h,_ | .sl _,_,_,_,h,_ | .arr _ _,_,_,_,h,_ | .fn _ _,_,_,_,h,_=>by simp [tuple] at h
end Go.Fw
/- Soundness, part 17: the arguments of a call, from a state of the machine. -/
namespace Go.Fw
open Go Go.RowKit
theorem Cn (o:ax):o.bo.bo=o.bo:=by
 induction o with
 | no=>rfl
 | hole=>rfl
 | own wr e o ih=>simp [ax.bo,ih]
 | mp=>rfl
 | pair a b iha ihb=>simp [ax.bo,iha,ihb]
section
variable {P:Program} {B:Nat} {G0:Nat→Nat→Prop} {W0:dc} {n:Nat} {env env':Env} {a:Act} {w:World} {ob:Nat→OB} {cl:az}
def je (e e':E):Prop:=e'=e∨(∃ wr ed T o xs,e=.own wr ed T o xs∧e'=.own false ed T o.bo xs)∨(∃ T o x,e=.loc T o x∧e'=.loc T o.bo x)
def Fz (env env':Env):Prop:=∀ k,je (look env k) (look env' k)
theorem je.trans {e1 e2 e3:E} (h:je e1 e2) (k:je e2 e3):je e1 e3:=by
 rcases h with rfl | ⟨wr,ed,T,o,xs,rfl,rfl⟩ | ⟨T,o,x,rfl,rfl⟩
 ·exact k
 ·rcases k with rfl | ⟨wr',ed',T',o',xs',h1,rfl⟩ | ⟨T',o',x',h1,_⟩
  ·exact .inr (.inl ⟨_,_,_,_,_,rfl,rfl⟩)
  ·cases h1; exact .inr (.inl ⟨_,_,_,_,_,rfl,by rw [Cn]⟩)
  ·cases h1
 ·rcases k with rfl | ⟨wr',ed',T',o',xs',h1,_⟩ | ⟨T',o',x',h1,rfl⟩
  ·exact .inr (.inr ⟨_,_,_,rfl,rfl⟩)
  ·cases h1
  ·cases h1; exact .inr (.inr ⟨_,_,_,rfl,by rw [Cn]⟩)
theorem Fz.freeze (env:Env) (s:Nat):Fz env (freeze env s):=by
 intro k
 by_cases hk:k=s
 ·subst hk
  rcases aeU env k with h | ⟨wr,e,T,o,xs,h1,h2⟩ | ⟨T,o,x,h1,h2⟩
  ·exact .inl h
  ·exact .inr (.inl ⟨_,_,_,_,_,h1,h2⟩)
  ·exact .inr (.inr ⟨_,_,_,h1,h2⟩)
 ·left
  unfold Fw.freeze
  split
  ·rw [aP,if_neg (bu hk)]
  ·split
   ·rfl
   ·rw [aP,if_neg (bu hk)]
  ·rfl
theorem Fz.refl (env:Env):Fz env env:=fun _=>.inl rfl
theorem Fz.trans {e1 e2 e3:Env} (h:Fz e1 e2) (k:Fz e2 e3):Fz e1 e3:=fun j=>(h j).trans (k j)
theorem Fz.held (h:Fz env env') {s:Nat} {p:Path} {hh:ka} (hl:bc env s p=some hh):∃ wr o,bc env' s p=some ⟨wr,hh.e,hh.T,o,hh.xs⟩∧o.pure=hh.o.pure:=by
 rcases h s with h | ⟨wr,ed,T,o,xs,h1,h2⟩ | ⟨T,o,x,h1,h2⟩
 ·exact ⟨hh.wr,hh.o,by rw [Ky h]; exact hl,rfl⟩
 ·simp only [bc,h1] at hl
  simp only [bc,h2]
  cases p with
  | nil=>simp only [aw] at hl; subst hl; exact ⟨_,_,rfl,vz⟩
  | cons=>exact absurd hl (by simp)
 ·have:=Kx h1 p hl
  have h3:bc env' s p=bc ((s,.loc T o.bo x)::env) s p:=Ky (by rw [aP,if_pos rfl,h2]) p
  exact ⟨false,hh.o.bo,by rw [h3,this],vz⟩
theorem Fz.cU (h:Fz env env') {e e':E} {x:E} (he:je e e') (ha:cU env e=some x):cU env' e'=some x:=by
 rcases he with rfl | ⟨wr,ed,T,o,xs,rfl,rfl⟩ | ⟨T,o,x,rfl,rfl⟩
 ·cases e' with
  | v T x=>exact ha
  | own=>exact ha
  | «at»=>exact ha
  | ref s p=>
    simp only [Fw.cU,aq] at ha ⊢
    obtain ⟨hh,h1,h2⟩:=ha
    obtain ⟨wr,o,h3,h4⟩:=h.held h1
    exact ⟨_,h3,by simp only [h4]; exact h2⟩
  | ptr s p=>
    simp only [Fw.cU] at ha ⊢
    rcases h s with h1 | ⟨wr,ed,T,o,xs,h1,h2⟩ | ⟨T,o,x,h1,h2⟩
    ·rw [h1]; exact ha
    ·rw [h1] at ha; simp at ha
    ·rw [h1] at ha; rw [h2]
     simp only [mW,R1] at ha ⊢
     exact ha
  | cT s p i q=>
    simp only [Fw.cU,aq] at ha ⊢
    obtain ⟨hh,h1,h2⟩:=ha
    obtain ⟨wr,o,h3,h4⟩:=h.held h1
    exact ⟨_,h3,by simp only [h4]; exact h2⟩
  | _=>simp [Fw.cU] at ha
 ·simp only [Fw.cU,vz] at ha ⊢; exact ha
 ·simp [Fw.cU] at ha
theorem Fz.ik (h:Fz env env'):∀ {es xs:List E},ik env es=some xs→ik env' es=some xs
 | [],_,ha=>ha
 | e::es,xs,ha=>by
   simp only [Fw.ik,aq,aw] at ha ⊢
   obtain ⟨x,h1,y,h2,rfl⟩:=ha
   exact ⟨x,h.cU (.inl rfl) h1,y,h.ik h2,rfl⟩
theorem je.av (h:Fz env env') (y:Od):je (av env y) (av env' y):=by
 cases y<;>first | exact h _ | exact .inl rfl
theorem Fz.fQ (h:Fz env env'):∀ {ys:List Od} {xs:List E},fQ cl env ys=some xs→fQ cl env' ys=some xs
 | [],_,ha=>ha
 | y::ys,xs,ha=>by
   simp only [Fw.fQ,aq,aw] at ha ⊢
   obtain ⟨x,h1,z,h2,rfl⟩:=ha
   refine ⟨x,?_,z,h.fQ h2,rfl⟩
   have he:=je.av h y
   split at h1
   ·rename_i T o x' he1
    rw [he1] at he
    rcases he with he | ⟨wr,ed,T',o',xs',h3,_⟩ | ⟨T',o',x',h3,he⟩
    ·rw [he]; exact h1
    ·cases h3
    ·cases h3; rw [he]; simp only [R1]; exact h1
   ·rename_i f A C caps he1
    rw [he1] at he
    rcases he with he | ⟨wr,ed,T',o',xs',h3,_⟩ | ⟨T',o',x',h3,_⟩
    ·rw [he]
     simp only [jV] at h1 ⊢
     split at h1
     ·rename_i hs
      rw [if_pos hs]
      simp only [aq] at h1 ⊢
      obtain ⟨cs,h4,h5⟩:=h1
      exact ⟨cs,h.ik h4,h5⟩
     ·simp at h1
    ·cases h3
    ·cases h3
   ·rename_i n1 n2
    have h2:=h.cU he h1
    split
    ·rename_i T o x' he2
     rw [he2] at h2; simp [Fw.cU] at h2
    ·rename_i f A C caps he2
     rw [he2] at h2; simp [Fw.cU] at h2
    ·exact h2
def j9 (env:Env) (s:Nat):Prop:=(∀ wr ed T o xs,look env s=.own wr ed T o xs→wr=false)∧(∀ T o x,look env s=.loc T o x→o.bo=o)
theorem j9.freeze (env:Env) (s:Nat):j9 (freeze env s) s:=by
 unfold Fw.freeze
 cases hs:look env s with
 | own wr e T o xs=>
   refine ⟨fun wr' ed T' o' xs' h=>?_,fun T' o' x' h=>?_⟩<;>rw [aP,if_pos rfl] at h<;>cases h
   rfl
 | loc T o x=>
   cases ho:o.stays with
   | true=>refine ⟨fun wr' ed T' o' xs' h=>?_,fun T' o' x' h=>?_⟩<;>simp only [ho] at h<;>rw [hs] at h<;>cases h; exact ax.tU ho
   | false=>
     refine ⟨fun wr' ed T' o' xs' h=>?_,fun T' o' x' h=>?_⟩<;>simp only [ho] at h<;>rw [aP,if_pos rfl] at h<;>cases h
     exact Cn o
 | _=>
   refine ⟨fun wr' ed T' o' xs' h=>?_,fun T' o' x' h=>?_⟩<;>(have h2:=hs.symm.trans h; cases h2)
theorem j9.fz (h:Fz env env') {s:Nat} (k:j9 env s):j9 env' s:=by
 rcases h s with h1 | ⟨wr,ed,T,o,xs,h1,h2⟩ | ⟨T,o,x,h1,h2⟩
 ·exact ⟨fun wr ed T o xs hh=>k.1 wr ed T o xs (by rw [←h1]; exact hh),fun T o x hh=>k.2 T o x (by rw [←h1]; exact hh)⟩
 ·refine ⟨fun wr' ed T' o' xs' hh=>?_,fun T' o' x' hh=>?_⟩<;>rw [h2] at hh<;>cases hh
  rfl
 ·refine ⟨fun wr' ed T' o' xs' hh=>?_,fun T' o' x' hh=>?_⟩<;>rw [h2] at hh<;>cases hh
  exact Cn o
theorem CY {y:Od} {e e':E} (h:je e e'):fD y e'=fD y e:=by
 rcases h with rfl | ⟨wr,ed,T,o,xs,rfl,rfl⟩ | ⟨T,o,x,rfl,rfl⟩<;>rfl
theorem Cl:∀ (ys:List Od) (env:Env),Fz env (jr env ys)∧∀ y∈ys,∀ s,fD y (av env y)=some s→j9 (jr env ys) s
 | [],env=>⟨Fz.refl _,by simp⟩
 | y::ys,env=>by
   simp only [jr]
   have h1:Fz env (match fD y (av env y) with | some s=>Fw.freeze env s | none=>env):=by
    split
    ·exact Fz.freeze _ _
    ·exact Fz.refl _
   obtain ⟨h2,h3⟩:=Cl ys (match fD y (av env y) with | some s=>Fw.freeze env s | none=>env)
   refine ⟨h1.trans h2,fun z hz s hs=>?_⟩
   rcases List.mem_cons.1 hz with rfl | hz
   ·simp only [hs] at h2 ⊢
    exact j9.fz h2 (j9.freeze _ _)
   ·exact h3 z hz s (by rw [CY (je.av h1 z)]; exact hs)
theorem vy:∀ (ys:List Od) {env:Env} {ob:Nat→OB},ah P B G0 W0 n env a.tmps w ob→∃ ob',eT ob ob'∧ah P B G0 W0 n (jr env ys) a.tmps w ob'
 | [],_,ob,hC=>⟨ob,eT.refl _,hC⟩
 | y::ys,env,ob,hC=>by
   simp only [jr]
   split
   ·rename_i s _
    obtain ⟨o1,h1,h2⟩:=Cm hC s
    obtain ⟨o2,h3,h4⟩:=vy ys h2
    exact ⟨o2,h1.trans h3,h4⟩
   ·exact vy ys hC
theorem j9.held {s:Nat} (h:j9 env s) {p:Path} {hh:ka} (hl:bc env s p=some hh):hh.wr=false:=by
 unfold bc at hl
 split at hl
 ·rename_i wr e T o xs hs
  split at hl
  ·simp only [aw] at hl; subst hl; exact h.1 _ _ _ _ _ hs
  ·exact absurd hl (by simp)
 ·rename_i T o x hs
  have:=h.2 _ _ _ hs
  split at hl
  ·rename_i wr e o' T' xs ha hg
   simp only [aw] at hl; subst hl
   rw [←this,mW] at ha
   cases hq:cd o p with
   | own=>rw [hq] at ha; simp only [ax.bo,ax.own.injEq] at ha; exact ha.1.symm
   | _=>rw [hq] at ha; simp [ax.bo] at ha
  ·exact absurd hl (by simp)
 ·exact absurd hl (by simp)
structure oU (P:Program) (B:Nat) (G0:Nat→Nat→Prop) (env:Env) (ob:Nat→OB) (w:World) (G':Nat→Nat→Prop) (S:Nat→Prop):Prop where
 sub:∀ b i,b < w.heap.size→Gd B G0 ob b i→G' b i
 froz:(∀ b i,G' b i)∨∀ s,S s→j9 env s
variable {G':Nat→Nat→Prop} {S:Nat→Prop}
theorem Vt (hC:ah P B G0 W0 n env a.tmps w ob) (hG:oU P B G0 env ob w G' S) {s:Nat} (hS:S s) {T0 T:Ty} {o:ax} {x:den T0} (hs:look env s=.loc T0 o x) {p:Path} {y:den T} (hw:(cd o p).whole=true) (hg:aH T0 p x=some ⟨T,y⟩):
  ∃ b vs,a.tmps.getD s undef=.pointer (some ⟨b,0,none⟩)∧Flat P T w G' w.heap.size .no y vs []∧∀ j u,vs[j]?=some u→w.cell? ⟨b,a8 T0 p+j,none⟩=some u:=by
 obtain ⟨b,cur,e,v1,v2,v3,b1,b2,b3,k1,k2,k3,k4,k5,k6,k7,_⟩:=kY hC hs hg
 have hcell:=nR k2 k4
 rw [k5] at hcell
 refine ⟨b,v2,k1,Flat.up P T hC.base ?_,hcell⟩
 rcases hG.froz with ht | hf
 ·obtain ⟨b2',k8,_⟩:=Flat.bo P T k7
  exact Flat.shared P T hw (fun _ _ _ _ _ _=>ht _ _) (fun _ _ _ _=>ht _ _) k8
 ·have he:=(hf s hS).2 _ _ _ hs
  have k8:=k7
  rw [←he,mW] at k8
  refine Flat.shared P T hw (fun b lim i hb hi hB=>?_) hG.sub k8
  have hm:(b,lim)∈ob s:=by rw [k6]; simp [hb]
  exact hG.sub b i (hC.low s b (aE.2 ⟨_,hm⟩)).2 (ue hC hm hi hB)
theorem Md (hC:ah P B G0 W0 n env a.tmps w ob) {e x:E} {v:Value} {obe:OB} (hr:cD P w (Gd B G0 ob) B a.tmps env e v obe) (ha:cU env e=some x)
  (hno:(∀ b i,G' b i)∨∀ wr ed T o xs,e≠.own wr ed T o xs) (hG:oU P B G0 env ob w G' S) (hS:∀ s,fD (.nil 0 .bool) e=some s→S s):iE P w G' x v:=by
 cases e with
 | v T y=>
   simp only [cU,aw] at ha; subst ha
   obtain ⟨_,vs,h1,h2⟩:=hr
   exact ⟨vs,Flat.up P T hC.base (Flat.mono P T (fun b i hb h=>⟨hG.sub b i hb h,rfl⟩) (bV.refl _ _) (by simp) h1),h2⟩
 | own wr ed T o xs=>
   rcases hno with ht | hno
   ·simp only [cU] at ha
    split at ha
    ·rename_i ho
     simp only [aw] at ha; subst ha
     exact ⟨[v],Flat.up P _ hC.base (qP hr ho hG.sub (fun _ _ _ _ _=>ht _ _)),rfl⟩
    ·exact absurd ha (by simp)
   ·exact absurd rfl (hno _ _ _ _ _)
 | ref s p=>
   simp only [cU,aq] at ha
   obtain ⟨hh,h1,h2⟩:=ha
   split at h2
   ·rename_i ho
    simp only [aw] at h2; subst h2
    obtain ⟨_,h3,_⟩:=hr
    refine ⟨[v],Flat.up P _ hC.base (CX hC h1 h3 ho hG.sub ?_),rfl⟩
    rcases hG.froz with ht | hf
    ·exact .inr ht
    ·exact .inl (j9.held (hf s (hS s rfl)) h1)
   ·exact absurd h2 (by simp)
 | it s pos=>simp [cU] at ha
 | sb t e s=>simp [cU] at ha
 | nw=>simp [cU] at ha
 | nm=>simp [cU] at ha
 | ptr s p=>
   simp only [cU] at ha
   split at ha
   ·rename_i T0 o y0 hs
    split at ha
    ·rename_i hw
     simp only [aq,aw] at ha
     obtain ⟨z,hz,rfl⟩:=ha
     obtain ⟨_,T1,o1,x1,b,h1,h2,_,h3⟩:=hr
     obtain ⟨b',vs,k1,k2,k3⟩:=Vt hC hG (hS s rfl) hs hw hz
     rw [hs] at h1; cases h1
     rw [h2] at k1; cases k1
     exact ⟨b,_,vs,h3,k2,k3⟩
    ·exact absurd ha (by simp)
   ·exact absurd ha (by simp)
 | cT s p i q=>
   simp only [cU,aq] at ha
   obtain ⟨hh,h1,h2⟩:=ha
   split at h2
   ·rename_i hoi
    simp only [au,decide_eq_true_eq] at hoi
    simp only [aq,aw] at h2
    obtain ⟨z,hz,rfl⟩:=h2
    obtain ⟨_,h',g,m,c,k1,k2,k3,k4,k5⟩:=hr
    rw [h1] at k1; cases k1
    obtain ⟨cells,b2,hrow,hel,hob⟩:=yN hC h1 k2
    obtain ⟨_,hel⟩:=aL.pure P (o':=.no) hoi.1 rfl hel
    obtain ⟨v1,v2,v3,c1,c2,c3,e1,e2,e3,e4,_⟩:=aL.split (fun x v b hx=>Flat.len P _ hx) i (zero hh.T) hel hoi.2
    have hnil:c2=[]:=by
     have:c1++c2++c3=[]:=e2.symm
     simp at this; exact this.2.1
    subst hnil
    obtain ⟨u1,u2,u3,d1,d2,d3,f1,f2,f3,f4,_⟩:=Flat.lens P q hh.T e4 (y:=z.2) (by rw [hz])
    have hnil:d2=[]:=by
     have:d1++d2++d3=[]:=f2.symm
     simp at this; exact this.2.1
    subst hnil
    rw [rp] at f4
    refine ⟨g,_,u2,k5,Flat.up P _ hC.base (Flat.mono P _ (fun b i hb h=>⟨hG.sub b i hb h,rfl⟩) (bV.refl _ _) (by simp) f4),fun j u hj=>?_⟩
    have hcell:=hrow.cells (g:=g) rfl (i * ay hh.T+a8 hh.T q+j) u ?_
    ·rw [lr] at hcell; simpa [Nat.add_assoc] using hcell
    ·rw [e1,f1]
     have hj':=(kc.1 hj).1
     rw [bO,eU (by omega),fW (by simp; omega),bO,eU (by omega),fW (by omega)]
     rw [←hj]; congr 1; omega
   ·exact absurd h2 (by simp)
 | «at» T y=>
   simp only [cU,aw] at ha; subst ha
   obtain ⟨_,b,off,vs,h1,h2,h3⟩:=hr
   exact ⟨b,off,vs,h1,Flat.up P T hC.base (Flat.mono P T (fun b i hb h=>⟨hG.sub b i hb h,rfl⟩) (bV.refl _ _) (by simp) h2),fun j u hj=>(h3 j u hj).1⟩
 | dead=>simp [cU] at ha
 | bJ=>simp [cU] at ha
 | loc=>simp [cU] at ha
 | cI=>simp [cU] at ha
 | cP=>simp [cU] at ha
theorem D2 (hC:ah P B G0 W0 n env a.tmps w ob) (hG:oU P B G0 env ob w G' (fun _=>True)):∀ {es xs:List E} {vs:List Value},dX (cD P w (Gd B G0 ob) B a.tmps env) es vs []→ik env es=some xs→
  (∀ b i,G' b i)→dQ P w G' xs vs
 | [],xs,vs,hr,ha,_=>by
   obtain ⟨rfl,_⟩:=hr
   simp only [ik,aw] at ha; subst ha
   exact .nil
 | e::es,xs,vs,hr,ha,hno=>by
   obtain ⟨v,r,b1,b2,rfl,_,h1,h2⟩:=hr
   simp only [ik,aq,aw] at ha
   obtain ⟨x,h3,y,h4,rfl⟩:=ha
   have hb2:b2=[]:=by
    have:b1++b2=[]:=by rename_i hh; exact hh.symm
    simp at this; exact this.2
   subst hb2
   exact .cons (Md hC h1 h3 (.inl hno) hG (fun _ _=>trivial)) (D2 hC hG h2 h4 hno)
end
end Go.Fw
/- Soundness, part 18: calls. -/
namespace Go.Fw
open Go Go.RowKit
section
variable {P:Program} {B:Nat} {G0:Nat→Nat→Prop} {W0:dc} {n:Nat} {env env':Env} {a:Act} {w:World} {ob:Nat→OB} {cl:az}
variable {G':Nat→Nat→Prop} {S:Nat→Prop}
variable {R:Type} {K:cM R} {r:R} {next:Act→World→Prop} {Q:Exit→Act→World→Prop} {o:Oper} {i:AI}
theorem Q7 (hgood:Good P W0.t cl) (hC:ah P B G0 W0 n env a.tmps w ob) {f:FuncId} {A C:Ty} {caps:List E} {v:Value} {x:E} {obe:OB} (hr:bn P w (Gd B G0 ob) B a.tmps env (.cP f A C caps) v obe) (h:jV cl env f A C caps=some x):iE P w G' x v:=by
 unfold jV at h
 split at h
 ·rename_i hs
  simp only [aq,aw] at h
  obtain ⟨cs,hcs,rfl⟩:=h
  obtain ⟨_,cv,rfl,hcap⟩:=hr
  refine ⟨[.func (.func f) #[] cv],?_,rfl⟩
  unfold Flat
  refine ⟨rfl,hs,f,cv,rfl,fun w' G2 y vals hL hargs r hr=>?_⟩
  simp only [aq] at hr
  obtain ⟨res,h1,h2⟩:=hr
  have:=ar5 h2
  subst this
  have hT:oU P B G0 env ob w (fun _ _=>True) (fun _=>True):=⟨fun _ _ _ _=>trivial,.inl fun _ _=>trivial⟩
  have hA:=(dQ.C4 (bV.refl _ _) (fun _ _ _ _=>trivial) (iH.args A hargs)).append (dQ.C4 (G':=fun _ _=>True) hL (fun _ _ _ _=>trivial) (D2 hC hT hcap hcs (fun _ _=>trivial)))
  have hcall:=hgood.call f _ _ h1 w' (fun _ _=>True) _ (hC.arZ ⟨hL.1,fun b hb=>hL.2 b (dK hb hC.base)⟩) hA
  refine ⟨hcall.1,?_⟩
  have e:(vals++cv.toList).toArray=vals.toArray++cv:=by apply jO.1; simp
  rw [←e]
  refine Calls.mono hcall.2 ?_
  rintro e w'' ⟨v,rob,rfl,hb,hres⟩
  obtain ⟨rs,rfl,h3⟩:=hres.eZ hs
  exact ⟨rs,h3 _ _ _,rfl,hb⟩
 ·simp at h
theorem nN (hgood:Good P W0.t cl) (hC:ah P B G0 W0 n env a.tmps w ob):∀ {us:List Operand} {ys:List Od} {as:List E},eQ us ys=true→fQ cl env ys=some as→
  oU P B G0 env ob w G' (fun s=>∃ y∈ys,fD y (av env y)=some s)→dQ P w G' as (us.map a.eval)
 | [],[],as,_,h,_=>by simp only [fQ,aw] at h; subst h; exact .nil
 | [],_::_,_,h,_,_=>by simp [eQ] at h
 | _::_,[],_,h,_,_=>by simp [eQ] at h
 | u::us,y::ys,as,ho,h,hG=>by
   simp only [eQ,au] at ho
   simp only [fQ,aq,aw] at h
   obtain ⟨x,h1,z,h2,rfl⟩:=h
   have hG2:oU P B G0 env ob w G' (fun s=>∃ y∈ys,fD y (av env y)=some s):=⟨hG.sub,hG.froz.imp id fun hf s hs=>hf s (by obtain ⟨y',hy,hh⟩:=hs; exact ⟨y',List.mem_cons_of_mem _ hy,hh⟩)⟩
   refine .cons ?_ (nN hgood hC ho.2 h2 hG2)
   have hr:=fr hC ho.1
   split at h1
   ·rename_i T oa x' he
    split at h1
    ·rename_i hw
     simp only [aw] at h1; subst h1
     cases y with
     | t k=>
       simp only [av] at he
       obtain ⟨b,vs,k1,k2,k3⟩:=Vt (p:=[]) hC hG (s:=k) ⟨.t k,by simp,by simp [av,he,fD]⟩ he hw (y:=x') (by cases T<;>rfl)
       have e0:a8 T []=0:=by cases T<;>rfl
       rw [e0] at k3
       exact ⟨b,0,vs,by rw [jH ho.1 a]; exact k1,k2,k3⟩
     | c T x=>simp [av] at he
     | nil e T=>simp [av] at he
     | fn f A C=>simp [av] at he
    ·simp at h1
   ·rename_i f A C caps he
    rw [he] at hr
    exact Q7 hgood hC hr h1
   ·rename_i hn1 hn2
    by_cases hown:∃ wr ed T oa xs,av env y=.own wr ed T oa xs
    ·obtain ⟨wr,ed,T,oa,xs,he⟩:=hown
     rw [he] at hr h1
     simp only [cU] at h1
     split at h1
     ·rename_i hp
      simp only [aw] at h1; subst h1
      refine ⟨[a.eval u],Flat.up P _ hC.base (qP hr hp hG.sub ?_),rfl⟩
      intro g j hg hB hj
      rcases hG.froz with ht | hf
      ·exact ht _ _
      ·cases y with
       | t k=>
         simp only [av] at he
         have hwr:=(hf k ⟨.t k,by simp,by simp [av,he,fD]⟩).1 _ _ _ _ _ he
         subst hwr
         have hr':=hr
         change Flat P (.sl T) w (Gd B G0 ob) B (.own false ed oa) xs [a.eval u] (ob k) at hr'
         unfold Flat at hr'
         obtain ⟨v',cells,ob',e1,_,_,e2⟩:=hr'
         simp only [gC,and_true] at e1
         subst e1
         have hm:(g,xs.length * ay T)∈ob k:=by rw [e2]; exact gp _ (by simp [bN,hg])
         exact hG.sub g j (hC.low k g (aE.2 ⟨_,hm⟩)).2 (ue hC hm hj hB)
       | c T x=>simp [av] at he
       | nil e T=>simp only [av] at he; cases he; simp at hj
       | fn f A C=>simp [av] at he
     ·simp at h1
    ·have hr1:cD P w (Gd B G0 ob) B a.tmps env (av env y) (a.eval u) (qK ob y):=bn.one (fun es he=>by rw [he] at h1; simp [cU] at h1) (fun f A C c he=>hn2 f A C c he) hr
     refine Md hC hr1 h1 (.inr fun wr ed T oa xs he=>hown ⟨wr,ed,T,oa,xs,he⟩) hG (fun s hs=>⟨y,by simp,?_⟩)
     rw [←hs]
     cases he:av env y<;>first | rfl | exact absurd he (hn1 _ _ _) | exact (hown ⟨_,_,_,_,_,he⟩).elim
theorem D5 {w':World} {G1 G2:Nat→Nat→Prop} {B1 B2:Nat} {tm1 tm2:Array Value} {env1 env2:Env} {e:E} {v:Value} {b:OB} (hB:B2≤B1) (hb:e.back=true)
  (hG:(∀ b i,b < w'.heap.size→G1 b i→G2 b i)∨e.plain=true) (h:cD P w' G1 B1 tm1 env1 e v b):cD P w' G2 B2 tm2 env2 e v b:=by
 cases e with
 | v T x=>
   obtain ⟨h0,vs,h1,h2⟩:=h
   refine ⟨h0,vs,?_,h2⟩
   rcases hG with hG | hG
   ·exact Flat.mono P T (fun b i hb h=>⟨hG b i hb h,rfl⟩) (bV.refl _ _) (by simp) (Flat.down P T hb hB h1)
   ·exact (Flat.eZ P T hG h1).2 _ _ _ _
 | own wr ed T o xs=>
   simp only [E.back,au] at hb
   have h1:Flat P (.sl T) w' G1 B2 (.own wr ed o) xs [v] b:=Flat.down P (.sl T) (by simpa only [ej] using hb.1) hB h
   change Flat P (.sl T) w' G2 B2 (.own wr ed o) xs [v] b
   rcases hG with hG | hG
   ·exact Flat.mono P (.sl T) (fun b i hb h=>⟨hG b i hb h,rfl⟩) (bV.refl _ _) (fun _ _=>rfl) h1
   ·unfold Flat at h1 ⊢
    obtain ⟨v',cells,ob',k1,k2,k3,k4⟩:=h1
    refine ⟨v',cells,ob',k1,k2,aL.imp (fun x u c _ hx=>?_) k3,k4⟩
    obtain ⟨e1,hx2⟩:=Flat.eZ P T hG hx
    subst e1
    exact hx2 _ _ _ _
 | _=>simp [E.back] at hb
theorem XD {w':World} {G1 G2:Nat→Nat→Prop} {B1 B2:Nat} {tm1 tm2:Array Value} {env1 env2:Env} {es:List E} {v:Value} {b:OB} (hB:B2≤B1) (hb:es.all E.back=true)
  (hG:(∀ b i,b < w'.heap.size→G1 b i→G2 b i)∨es.all E.plain=true) (h:bn P w' G1 B1 tm1 env1 (eH es) v b):bn P w' G2 B2 tm2 env2 (eH es) v b:=by
 have key:∀ {es:List E} {vs:List Value} {b:OB},es.all E.back=true→((∀ b i,b < w'.heap.size→G1 b i→G2 b i)∨es.all E.plain=true)→dX (cD P w' G1 B1 tm1 env1) es vs b→dX (cD P w' G2 B2 tm2 env2) es vs b:=by
  intro es
  induction es with
  | nil=>intro vs b _ _ h; exact h
  | cons e es ih=>
    rintro vs b hb hG ⟨v,rr,b1,b2,rfl,rfl,h1,h2⟩
    simp only [dJ,au] at hb hG
    exact ⟨v,rr,b1,b2,rfl,rfl,D5 hB hb.1 (hG.imp id And.left) h1,ih hb.2 (hG.imp id And.right) h2⟩
 match es,hb,hG,h with
 | [e],hb,hG,h=>
   simp only [dJ,List.all_nil,Bool.and_true] at hb hG
   cases e with
   | v T x=>exact D5 (tm1:=tm1) (tm2:=tm2) (env1:=env1) (env2:=env2) (e:=.v T x) hB hb hG h
   | own wr ed T o xs=>exact D5 (tm1:=tm1) (tm2:=tm2) (env1:=env1) (env2:=env2) (e:=.own wr ed T o xs) hB hb hG h
   | _=>simp [E.back] at hb
 | [],hb,hG,h=>obtain ⟨h0,vs,h1,h2⟩:=h; exact ⟨h0,vs,h1,key hb hG h2⟩
 | e1::e2::es,hb,hG,h=>obtain ⟨h0,vs,h1,h2⟩:=h; exact ⟨h0,vs,h1,key hb hG h2⟩
theorem Mi {es:List E} (hb:es.all E.back=true) (k:Nat):leads k (eH es)=false:=by
 match es,hb with
 | [e],hb=>
   simp only [dJ,List.all_nil,Bool.and_true] at hb
   cases e<;>simp_all [E.back,eH,leads]
 | [],_=>rfl
 | _::_::_,_=>rfl
theorem Below.yK {w':World} (h:Below w.heap.size w w'):aO w w':=⟨h.os,h.tape,h.output,h.size,fun k hk=>h.block k hk,h.drawn⟩
theorem vw {w':World} {res:List E} {v:Value} {rob:OB} {d:Option Nat} {G:Nat→Nat→Prop} (hC:ah P B G0 W0 n env a.tmps w ob) (hK:bE P B G0 W0 n a K r next) (hd:∀ k,d=some k→bl W0 n k)
  (hb:Below w.heap.size w w') (hres:ke P w w' G res v rob) (hG:(∀ b i,G b i→Gd B G0 ob b i)∨res.all E.plain=true) (hk:K (aM env d (eH res))=some r):next (a.put d v) w':=by
 cases d with
 | none=>exact bz (e:=.dead) hC hK (by simp) (Below.yK hb) rfl hk
 | some k=>
   have h:=ah.mF (e:=eH res) (v:=v) (bk:=rob) hC (hd k rfl) (Below.yK hb) ?_ hres.new hres.nodup
   ·have:=hK _ _ _ _ h hk
    exact this
   ·rw [if_neg (by rw [Mi hres.back k]; simp)]
    refine XD hC.base hres.back ?_ hres.rep
    refine hG.imp (fun hG b i hb' hg=>?_) id
    rcases hg with ⟨h1,h2⟩ | ⟨h1,h2⟩
    ·exact rh (fun lim hl=>by have:=(hres.new b (aE.2 ⟨_,hl⟩)).1; omega) (hG b i h2)
    ·refine .inr ⟨ep hC.base h1,hC.free _ _ (ep hC.base h1) (fun hx=>by have:=hC.oldx _ hx; omega),fun j lim hj=>?_⟩
     by_cases hjk:j=k
     ·subst hjk; rw [eJ] at hj; exact h2 lim hj
     ·rw [eb _ _ hjk] at hj
      have:=(hC.low j b (aE.2 ⟨_,hj⟩)).2
      omega
theorem mH {f:FuncId} (h:fi P f) (args:Array Value) (w:World):(callFunc f args).run P w=.ok (.enter f args) w:=by
 obtain ⟨fn,h1,h2,h3⟩:=h
 have h2' : ¬ fn.name = "runtime.NumGoroutine" := by simpa using h2
 have h3':¬ fn.body=none:=by intro e; rw [e] at h3; simp at h3
 simp [callFunc,h1,h2',h3']
theorem kH {f:FuncId} {args:Array Value} (hrun:(execOp a.eval o).run P w=.ok (.enter f args) w) (h:Calls P f args w fun e w'=>∃ v,e=.returned v∧next (a.put o.dst v) w'):o.wp P a w next Q:=by
 unfold Oper.wp; rw [hrun]; exact Calls.mono h (by rintro e w' ⟨v,rfl,h⟩; exact h)
theorem WE {f:FuncId} {us:Array Operand} {ats:Array TypeId} {ys:List Od} (hgood:Good P W0.t cl) (hC:ah P B G0 W0 n env a.tmps w ob) (hK:bE P B G0 W0 n a K r next) (hd:∀ k,o.dst=some k→bl W0 n k) (hdst:i.dst=o.dst)
  (ho:o.op=.call {callee:=.value (.func f),args:=us,argTypes:=ats}) (hi:i.op=.call f ys) (hx:eQ us.toList ys=true) (h:step cl i env K=some r):o.wp P a w next Q:=by
 unfold step at h; rw [hi] at h; simp only [hdst,az.eqn,aq] at h
 obtain ⟨as,h1,res,h2,h3⟩:=h
 have hrun:fi P f→(execOp a.eval o).run P w=.ok (.enter f (us.map a.eval)) w:=by
  intro hc
  have:=mH hc (us.map a.eval) w
  simp [execOp,ho,resolve,Deferred.ofValue,invoke,Act.eval,this]
 have e:(us.toList.map a.eval).toArray=us.map a.eval:=by apply jO.1; simp
 by_cases hp:res.all E.plain=true
 ·rw [if_pos hp] at h3
  have hA:=nN (G':=fun _ _=>True) hgood hC hx h1 ⟨fun _ _ _ _=>trivial,.inl fun _ _=>trivial⟩
  have hcall:=hgood.call f _ _ h2 w _ _ hC.oM hA
  rw [e] at hcall
  refine kH (hrun hcall.1) (Calls.mono hcall.2 ?_)
  rintro e w' ⟨v,rob,rfl,hb,hres⟩
  exact ⟨v,rfl,vw hC hK hd hb hres (.inr hp) h3⟩
 ·rw [if_neg hp] at h3
  obtain ⟨ob',hf,hC'⟩:=vy (a:=a) ys hC
  have hz:=Cl ys env
  have hA:=nN (G':=Gd B G0 ob') hgood hC' hx (Fz.fQ hz.1 h1) ⟨fun _ _ _ h=>h,.inr fun s ⟨y,hy,hs⟩=>hz.2 y hy s (by rw [←CY (je.av hz.1 y)]; exact hs)⟩
  have hcall:=hgood.call f _ _ h2 w _ _ hC.oM hA
  rw [e] at hcall
  refine kH (hrun hcall.1) (Calls.mono hcall.2 ?_)
  rintro e w' ⟨v,rob,rfl,hb,hres⟩
  exact ⟨v,rfl,vw hC' hK hd hb hres (.inl fun _ _ h=>h) h3⟩
theorem ak9 {f:FuncId} {us:Array Operand} {ats:Array TypeId} {u:Operand} {us':List Operand} {ys:List Od} (hgood:Good P W0.t cl) (hC:ah P B G0 W0 n env a.tmps w ob) (hK:bE P B G0 W0 n a K r next) (hd:∀ k,o.dst=some k→bl W0 n k) (hdst:i.dst=o.dst)
  (ho:o.op=.call {callee:=.value (.func f),args:=us,argTypes:=ats}) (hi:i.op=.BJ f ys) (hus:us.toList=u::us') (hu:a.eval u=.slice none 0 0) (hx:eQ us' ys=true) (h:step cl i env K=some r):o.wp P a w next Q:=by
 unfold step at h; rw [hi] at h; simp only [hdst,az.eqn,aq] at h
 obtain ⟨as,h1,res,h2,h3⟩:=h
 have hrun:fi P f→(execOp a.eval o).run P w=.ok (.enter f (us.map a.eval)) w:=by
  intro hc
  have:=mH hc (us.map a.eval) w
  simp [execOp,ho,resolve,Deferred.ofValue,invoke,Act.eval,this]
 have e:(a.eval u::us'.map a.eval).toArray=us.map a.eval:=by
  apply jO.1
  simp [hus]
 by_cases hp:res.all E.plain=true
 ·rw [if_pos hp] at h3
  have hA:=nN (G':=fun _ _=>True) hgood hC hx h1 ⟨fun _ _ _ _=>trivial,.inl fun _ _=>trivial⟩
  have hcall:=hgood.call f _ _ h2 w _ _ hC.oM (.cons (e:=.dead) hu hA)
  rw [e] at hcall
  refine kH (hrun hcall.1) (Calls.mono hcall.2 ?_)
  rintro e w' ⟨v,rob,rfl,hb,hres⟩
  exact ⟨v,rfl,vw hC hK hd hb hres (.inr hp) h3⟩
 ·rw [if_neg hp] at h3
  obtain ⟨ob',hf,hC'⟩:=vy (a:=a) ys hC
  have hz:=Cl ys env
  have hA:=nN (G':=Gd B G0 ob') hgood hC' hx (Fz.fQ hz.1 h1) ⟨fun _ _ _ h=>h,.inr fun s ⟨y,hy,hs⟩=>hz.2 y hy s (by rw [←CY (je.av hz.1 y)]; exact hs)⟩
  have hcall:=hgood.call f _ _ h2 w _ _ hC.oM (.cons (e:=.dead) hu hA)
  rw [e] at hcall
  refine kH (hrun hcall.1) (Calls.mono hcall.2 ?_)
  rintro e w' ⟨v,rob,rfl,hb,hres⟩
  exact ⟨v,rfl,vw hC' hK hd hb hres (.inl fun _ _ h=>h) h3⟩
theorem dX.fz {G:Nat→Nat→Prop}:∀ {es:List E} {vs:List Value} {b:OB},dX (cD P w G B a.tmps env) es vs b→∃ b2,dX (cD P w G B a.tmps env) (es.map pG) vs b2∧cN b2 b
 | [],_,b,h=>⟨b,h,cN.refl _⟩
 | e::es,_,_,h=>by
   obtain ⟨v,r,b1,b2,rfl,rfl,h1,h2⟩:=h
   obtain ⟨c2,k1,k2⟩:=dX.fz h2
   have key:∃ c1,cD P w G B a.tmps env (pG e) v c1∧cN c1 b1:=by
    cases e with
    | own wr e T o xs=>exact Flat.bo P (.sl T) (o:=.own wr e o) h1
    | _=>exact ⟨b1,h1,cN.refl _⟩
   obtain ⟨c1,k3,k4⟩:=key
   exact ⟨c1++c2,⟨v,r,c1,c2,rfl,rfl,k3,k1⟩,cN.append k4 k2⟩
theorem aeo (s:Nat) (e:E):leads s (pG e)=leads s e:=by cases e<;>rfl
theorem X9 (hC:ah P B G0 W0 n env a.tmps w ob) {s:Nat} {es:List E} (hs:look env s=.cI es):∃ ob',ah P B G0 W0 n ((s,.cI (es.map pG))::env) a.tmps w ob':=by
 have hr:=hC.rep s
 rw [hs] at hr
 obtain ⟨h0,vs,hv,ht⟩:=hr
 obtain ⟨bs,h1,h2⟩:=dX.fz ht
 have hl:∀ e∈es.map pG,∀ s',leads s' e=false:=by
  intro e he s'
  obtain ⟨e',he',rfl⟩:=List.mem_map.1 he
  rw [aeo]; exact h0 e' he' s'
 refine ⟨_,ah.relabel hC h2.1 h2.2 ?_ ⟨hl,vs,hv,dX.imp (fun e he v b hb hr=>cD.aj (fun b i _ h=>⟨?_,rfl⟩) (bV.refl _ _) (fun _ _=>rfl) (fun s' hs'=>?_) hr) h1⟩⟩
 ·refine ⟨fun p v _ hv=>?_,fun p h hh=>?_,fun T' o' x' hx=>?_,fun p v hm _=>by simp [eP,hs] at hm⟩
  ·simp [bj,hs] at hv
  ·simp [bc,hs] at hh
  ·rw [hs] at hx; exact absurd hx (by simp)
 ·refine oP (fun j b lim hj=>?_) h
  by_cases hjs:j=s
  ·subst hjs; rw [eJ] at hj; obtain ⟨l,h3,h4⟩:=h2.2 b lim hj; exact ⟨j,l,h3,h4⟩
  ·rw [eb _ _ hjs] at hj; exact ⟨j,lim,hj,cE _⟩
 ·rw [hl e he s'] at hs'; exact absurd hs' (by simp)
theorem Ya (hC:ah P B G0 W0 n env a.tmps w ob) (d:Option Nat):∃ ob',ah P B G0 W0 n (pH d env) a.tmps w ob':=by
 unfold pH
 split
 ·rename_i k e r
  have hl:look ((k,e)::r) k=e:=by rw [aP,if_pos rfl]
  have ext:∀ {e':E} {ob':Nat→OB},ah P B G0 W0 n ((k,e')::(k,e)::r) a.tmps w ob'→∃ ob',ah P B G0 W0 n ((k,e')::r) a.tmps w ob':=fun h=>ah.forget h (fun j=>.inl <| by
   simp only [aP]
   by_cases h:k=j
   ·rw [if_pos h,if_pos h]
   ·rw [if_neg h,if_neg h,if_neg h])
  cases e with
  | cI es=>obtain ⟨ob',h⟩:=X9 hC hl; exact ext h
  | own wr e T o xs=>obtain ⟨bs,_,h⟩:=R0 hC hl; exact ext h
  | _=>exact ⟨ob,hC⟩
 ·exact ⟨ob,hC⟩
theorem ak8 {f:FuncId} {us:Array Operand} {ats:Array TypeId} {ys:List Od} (hgood:Good P W0.t cl) (hC:ah P B G0 W0 n env a.tmps w ob) (hK:bE P B G0 W0 n a K r next) (hd:∀ k,o.dst=some k→bl W0 n k) (hdst:i.dst=o.dst)
  (ho:o.op=.call {callee:=.value (.func f),args:=us,argTypes:=ats}) (hi:i.op=.uN f ys) (hx:eQ us.toList ys=true) (h:step cl i env K=some r):o.wp P a w next Q:=by
 refine WE (r:=r) (i:={i with op:=.call f ys}) (K:=fun env=>K (pH i.dst env)) hgood hC (fun env' tm' w' ob' hC' hk=>?_) hd hdst ho rfl hx ?_
 ·obtain ⟨ob2,h2⟩:=Ya (a:={a with tmps:=tm'}) hC' i.dst
  exact hK _ _ _ _ h2 hk
 ·unfold step at h ⊢; rw [hi] at h; exact h
theorem ala {x:Operand} {y:Od} {us:Array Operand} {ats:Array TypeId} {ys:List Od} (hgood:Good P W0.t cl) (hC:ah P B G0 W0 n env a.tmps w ob) (hK:bE P B G0 W0 n a K r next) (hd:∀ k,o.dst=some k→bl W0 n k) (hdst:i.dst=o.dst)
  (ho:o.op=.call {callee:=.value x,args:=us,argTypes:=ats}) (hi:i.op=.nP y ys) (hxy:aF x y=true) (hx:eQ us.toList ys=true) (h:step cl i env K=some r):o.wp P a w next Q:=by
 unfold step at h; rw [hi] at h; simp only [hdst] at h
 have hr:=fr hC hxy
 have hrun:∀ {f:FuncId} {cv:Array Value},fi P f→a.eval x=.func (.func f) #[] cv→(execOp a.eval o).run P w=.ok (.enter f (us.map a.eval++cv)) w:=by
  intro f cv hc hv
  have:=mH hc (us.map a.eval++cv) w
  simp [execOp,ho,resolve,Deferred.ofValue,invoke,hv,this]
 have e:(us.toList.map a.eval).toArray=us.map a.eval:=by apply jO.1; simp
 split at h
 ·rename_i A C g he
  simp only [aq] at h
  obtain ⟨as,h1,x',h2,z,h3,h4⟩:=h
  split at h4
  ·rename_i hs
   have hA:=nN (G':=fun _ _=>True) hgood hC hx h1 ⟨fun _ _ _ _=>trivial,.inl fun _ _=>trivial⟩
   have hF:=WQ A h2 hA
   rw [he] at hr
   obtain ⟨_,vs,hr1,hr2⟩:=hr
   unfold Flat at hr1
   obtain ⟨_,_,f,cv,rfl,hfn⟩:=hr1
   have hcall:=hfn w _ _ _ (bV.refl _ _) hF z h3
   refine kH (hrun hcall.1 hr2) ?_
   rw [e] at hcall
   refine Calls.mono hcall.2 ?_
   rintro e w' ⟨rs,k1,rfl,k2⟩
   refine ⟨_,rfl,bz (e:=.v C z) hC hK hd (Below.yK k2) ?_ h4⟩
   exact ⟨rfl,rs,(Flat.eZ P C hs k1).2 _ _ _ _,rfl⟩
  ·simp at h4
 ·rename_i f A C caps he
  simp only [az.eqn,aq] at h
  obtain ⟨as,h1,cs,h2,res,h3,h4⟩:=h
  split at h4
  ·rename_i hp
   rw [he] at hr
   obtain ⟨_,cv,hv,hcap⟩:=hr
   have hT:oU P B G0 env ob w (fun _ _=>True) (fun _=>True):=⟨fun _ _ _ _=>trivial,.inl fun _ _=>trivial⟩
   have hA:=(nN (G':=fun _ _=>True) hgood hC hx h1 ⟨fun _ _ _ _=>trivial,.inl fun _ _=>trivial⟩).append (D2 hC hT hcap h2 (fun _ _=>trivial))
   have hcall:=hgood.call f _ _ h3 w _ _ hC.oM hA
   have e2:(us.toList.map a.eval++cv.toList).toArray=us.map a.eval++cv:=by apply jO.1; simp
   rw [e2] at hcall
   refine kH (hrun hcall.1 hv) (Calls.mono hcall.2 ?_)
   rintro e w' ⟨v,rob,rfl,hb,hres⟩
   exact ⟨v,rfl,vw hC hK hd hb hres (.inr hp) h4⟩
  ·simp at h4
 ·exact absurd h (by simp)
end
end Go.Fw
