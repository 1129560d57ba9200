/- Own work: the value machine, part 6. -/
import Derived.Test.YtooiookccchmeaaGreatFwB1
import Derived.Test.YtooiookccchmeaaGreatFwB5
import Derived.Orders
import Derived.Laws.Cover3
import Derived.Test.YtooiookccchmeaaGreatFwB4
import Derived.Lib.Bytealg
import Derived.IntWalk
import Derived.OpenShut
import Derived.ChangeOld
import Derived.WideKeyArgs
set_option linter.unusedVariables false
set_option linter.unusedSimpArgs false
open Array renaming getElem?_eq_some_iff → ra, getD_eq_getD_getElem? → mL, replicate → zx, getElem?_append_left → zr
open Bool renaming not_eq_true' → du, and_eq_true → au, false_eq_true → eo, or_eq_true → nz
open List renaming cons_append → jg, map_cons → fX, mem_cons → cS, mem_cons_of_mem → fm, mem_cons_self → uq, all_eq_true → fj, append_assoc → bO, nil_append → cO, mem_append → dD, length_cons → fk, getElem?_cons_zero → iI, getElem?_cons_succ → ui, mem_map → dd, mem_append_right → iK, mem_append_left → gp, append_nil → jf, getElem?_map → lj, mem_range → DQ, getElem?_eq_none → DH, getElem?_eq_getElem → fc, nodup_append → jh, getElem?_eq_some_iff → kc, all_cons → dJ, getElem?_append_left → fW, getElem?_append_right → eU, eq_nil_of_length_eq_zero → lh, drop_drop → zE, flatten_cons → LU, getElem?_of_mem → kI
open Nat renaming le_refl → cE, lt_or_ge → kM, sub_zero → DT, zero_le → iL, add_mul → oT
open Ne renaming symm → bu
open Option renaming bind_some → ar, bind_eq_some_iff → aq, getD_some → rl, bind_assoc → nG
open Option.some renaming injEq → aw
open Prod.mk renaming injEq → eN
/- Soundness: regions whose order is open. -/
namespace Go.Fw
open Go Go.RowKit
abbrev Ch:=List (Nat×E)
def Ch.ks (δ:Ch):List Nat:=δ.map (·.1)
theorem Da {δ:Ch} {env:Env} {k:Nat} (h:k∈Ch.ks δ):look (δ++env) k=look δ k:=by
 induction δ with
 | nil=>simp [Ch.ks] at h
 | cons q δ ih=>
   obtain ⟨j,e⟩:=q
   rw [jg,aP,aP]
   split
   ·rfl
   ·rename_i hj
    apply ih
    simp only [Ch.ks,fX,cS] at h
    rcases h with h | h
    ·exact absurd h.symm hj
    ·exact h
theorem tC {δ:Ch} {env:Env} {k:Nat} (h:k∉Ch.ks δ):look (δ++env) k=look env k:=by
 induction δ with
 | nil=>rfl
 | cons q δ ih=>
   obtain ⟨j,e⟩:=q
   simp only [Ch.ks,fX,cS,not_or] at h
   rw [jg,aP,if_neg (fun e=>h.1 e.symm)]
   exact ih h.2
def Inv (D:Nat→Ch) (env0:Env) (S:Nat→Prop) (env:Env):Prop:=
 ∀ k,(∃ m,S m∧k∈(D m).ks∧(∀ m',m < m'→S m'→k∉(D m').ks)∧look env k=look (D m) k)∨((∀ m,S m→k∉(D m).ks)∧look env k=look env0 k)
theorem Inv.start {D:Nat→Ch} {env0:Env} {S:Nat→Prop} (h:∀ m,¬ S m):Inv D env0 S env0:=fun _=>.inr ⟨fun m hm=>absurd hm (h m),rfl⟩
theorem Inv.add {D:Nat→Ch} {env0 env:Env} {S:Nat→Prop} {i:Nat} (h:Inv D env0 S env) (hi:∀ k∈(D i).ks,∀ m',i < m'→S m'→k∉(D m').ks):Inv D env0 (fun m=>S m∨m=i) (D i++env):=by
 intro k
 by_cases hk:k∈(D i).ks
 ·refine .inl ⟨i,.inr rfl,hk,fun m' hm hs=>?_,Da hk⟩
  rcases hs with hs | rfl
  ·exact hi k hk m' hm hs
  ·omega
 ·rw [tC hk]
  rcases h k with ⟨m,h1,h2,h3,h4⟩ | ⟨h1,h2⟩
  ·refine .inl ⟨m,.inl h1,h2,fun m' hm hs=>?_,h4⟩
   rcases hs with hs | rfl
   ·exact h3 m' hm hs
   ·exact hk
  ·refine .inr ⟨fun m hm=>?_,h2⟩
   rcases hm with hm | rfl
   ·exact h1 m hm
   ·exact hk
theorem Inv.set {D:Nat→Ch} {env0 env:Env} {S S':Nat→Prop} (h:Inv D env0 S env) (hs:∀ m,S m↔S' m):Inv D env0 S' env:=by
 intro k
 rcases h k with ⟨m,h1,h2,h3,h4⟩ | ⟨h1,h2⟩
 ·exact .inl ⟨m,(hs m).1 h1,h2,fun m' hm hs'=>h3 m' hm ((hs m').2 hs'),h4⟩
 ·exact .inr ⟨fun m hm=>h1 m ((hs m).2 hm),h2⟩
theorem Inv.ext {D:Nat→Ch} {env0 e1 e2:Env} {S:Nat→Prop} (h:Inv D env0 S e1) (he:∀ k,look e2 k=look e1 k):Inv D env0 S e2:=by
 intro k
 rcases h k with ⟨m,h1,h2,h3,h4⟩ | ⟨h1,h2⟩
 ·exact .inl ⟨m,h1,h2,h3,by rw [he]; exact h4⟩
 ·exact .inr ⟨h1,by rw [he]; exact h2⟩
theorem Inv.same {D:Nat→Ch} {env0 e1 e2:Env} {S S':Nat→Prop} {k:Nat} (h:Inv D env0 S e1) (h':Inv D env0 S' e2) (hk:∀ m,k∈(D m).ks→(S m↔S' m)):look e1 k=look e2 k:=by
 rcases h k with ⟨m,h1,h2,h3,h4⟩ | ⟨h1,h2⟩
 ·rcases h' k with ⟨m',h1',h2',h3',h4'⟩ | ⟨h1',_⟩
  ·have:m=m':=by
    rcases Nat.lt_trichotomy m m' with hl | hl | hl
    ·exact absurd h2' (h3 m' hl ((hk m' h2').2 h1'))
    ·exact hl
    ·exact absurd h2 (h3' m hl ((hk m h2).1 h1))
   subst this
   rw [h4,h4']
  ·exact absurd h2 (h1' m ((hk m h2).1 h1))
 ·rcases h' k with ⟨m',h1',h2',_,_⟩ | ⟨_,h2'⟩
  ·exact absurd h2' (h1 m' ((hk m' h2').2 h1'))
  ·rw [h2,h2']
section
variable {cl:az} {env:Env} {R:Type} {K:cM R}
theorem kV {d:Option Nat} {e:E} (h:free env d=true):aM env d e=one d e++env:=by
 cases d with
 | none=>rfl
 | some d=>
   simp only [free,du] at h
   simp only [aM,put,h,one,Vl]
   rfl
theorem Ul {s:Nat}:∀ {env:Env},(∀ q∈env,leads s q.2=false)→kill s env=env
 | [],_=>rfl
 | q::env,h=>by
   have h1:=Ul (s:=s) (env:=env) (fun q' hq=>h q' (fm _ hq))
   unfold kill at h1 ⊢
   rw [fX,h1,h q (uq ..)]
   rfl
theorem Xx {d:Option Nat} {k0:Nat} {x:Od} {q:TV×List (Nat×E)} (h:(D1 d k0 x).run (look env)=some q):
  dZ env x=some (q.2++env,q.1)∧(∀ s,∀ u∈q.2,leads s u.2=false)∧look (q.2++env) k0=look env k0∧∀ d',d=some d'→look (q.2++env) d'=look env d':=by
 unfold D1 at h
 rw [Rd.run_bind,dU] at h
 replace h:=c6 h
 split at h
 ·rename_i T y he
  cases h
  refine ⟨by unfold dZ; rw [he]; rfl,fun s u hu=>by simp at hu,rfl,fun _ _=>rfl⟩
 ·rename_i wr ed T o xs he
  split at h
  ·rename_i k
   rw [Rd.c7] at h
   split at h
   ·rename_i hc
    simp only [au,du,beq_eq_false_iff_ne] at hc
    obtain ⟨⟨h1,h2⟩,h3⟩:=hc
    cases h
    have hl:look env k=.own wr ed T o xs:=he
    refine ⟨?_,fun s u hu=>?_,?_,fun d' hd=>?_⟩
    ·unfold dZ
     rw [he]
     simp only [cZ,h3,if_true,ar,fD,freeze,hl]
     rfl
    ·simp only [List.mem_singleton] at hu; subst hu; rfl
    ·show look ((k,_)::env) k0=_
     rw [aP,if_neg h1]
    ·subst hd
     simp only [apart,du,beq_eq_false_iff_ne] at h2
     show look ((k,_)::env) d'=_
     rw [aP,if_neg (bu h2)]
   ·simp [Rd.aY] at h
  ·simp [Rd.aY] at h
 ·simp [Rd.aY] at h
def zA (d:Option Nat) (env:Env) (ch:List (Nat×E)):Prop:=∀ q∈ch,(∃ wr ed T o,∃ xs:List (den T),look env q.1=.own wr ed T o xs)∧apart d q.1=true
theorem K1 {d:Option Nat} {ch:List (Nat×E)} {k:Nat} (h:∀ q∈ch,q.1≠k):look (ch++env) k=look env k:=by
 induction ch with
 | nil=>rfl
 | cons q ch ih=>
   rw [jg,aP,if_neg (h q (uq ..))]
   exact ih fun q' hq=>h q' (fm _ hq)
theorem ahM {d:Option Nat} {ch:List (Nat×E)} {x:Od} {q:TV×List (Nat×E)} (hc:zA d env ch) (h:(Li d ch x).run (look env)=some q):dZ (ch++env) x=some (q.2++env,q.1)∧zA d env q.2:=by
 unfold Li at h
 rw [Rd.run_bind,dU] at h
 replace h:=c6 h
 split at h
 ·rename_i T y he
  cases h
  have he2:av (ch++env) x=.v T y:=by
   cases x with
   | t k=>
     have he:look env k=.v T y:=he
     show look (ch++env) k=_
     rw [K1 (d:=d) fun u hu e=>?_,he]
     obtain ⟨⟨wr,ed,T',o,xs,h1⟩,_⟩:=hc u hu
     rw [e,he] at h1; cases h1
   | c T' y'=>exact he
   | nil e T'=>exact he
   | fn f A C=>exact he
  exact ⟨by unfold dZ; rw [he2]; rfl,hc⟩
 ·rename_i wr ed T o xs he
  split at h
  ·rename_i k
   rw [Rd.c7] at h
   split at h
   ·rename_i hk
    simp only [au,fj,du,beq_eq_false_iff_ne] at hk
    obtain ⟨⟨h1,h2⟩,h3⟩:=hk
    cases h
    have he:look env k=.own wr ed T o xs:=he
    have hl:look (ch++env) k=.own wr ed T o xs:=by rw [K1 (d:=d) h1,he]
    have he2:av (ch++env) (.t k)=.own wr ed T o xs:=hl
    refine ⟨?_,fun u hu=>?_⟩
    ·unfold dZ
     rw [he2]
     simp only [cZ,h3,if_true,ar,fD,freeze,hl]
     rfl
    ·rcases cS.1 hu with rfl | hu
     ·exact ⟨⟨wr,ed,T,o,xs,he⟩,h2⟩
     ·exact hc u hu
   ·simp [Rd.aY] at h
  ·simp [Rd.aY] at h
 ·simp [Rd.aY] at h
theorem Mo {d:Option Nat}:∀ (T:Ty) (x:den T) (ch:List (Nat×E)) (l:List (Path×Od)) (q:den T×List (Nat×E)),zA d env ch→(uG d T x ch l).run (look env)=some q→il T x (ch++env) l=some (q.2++env,q.1)∧zA d env q.2
 | T,x,ch,[],q,hc,h=>by simp only [uG,Rd.lb,aw] at h; subst h; exact ⟨by simp [il],hc⟩
 | T,x,ch,(p,a)::r,q,hc,h=>by
   unfold uG at h
   rw [Rd.run_bind] at h
   obtain ⟨u,hu,h⟩:=aq.1 h
   rw [Rd.run_bind,Rd.ea] at h
   obtain ⟨z,hz,h⟩:=aq.1 h
   obtain ⟨h1,h2⟩:=ahM hc hu
   unfold il
   rw [h1]
   simp only [ar,hz]
   exact Mo T z u.2 r q h2 h
theorem asM {d:Option Nat} {op:qZ} {g:Option (Nat×Bool)} {δ:Ch} (h:(gm cl d op).run (look env)=some δ) (hf:free env d=true) (hn:∀ s,Jc op=some s→∀ q∈env,leads s q.2=false):step cl ⟨d,op,g⟩ env K=K (δ++env):=by
 have pure:((tX cl d op).bind fun e=>Rd.ok (one d e)).run (look env)=some δ→step cl ⟨d,op,g⟩ env K=K (δ++env):=by
  intro h
  rw [Rd.run_bind] at h
  obtain ⟨e,he,h⟩:=aq.1 h
  cases h
  rw [asr (i:=⟨d,op,g⟩) he,kV hf]
 cases op
 case store T a x=>
  simp only [gm] at h
  rw [Rd.run_bind,zq] at h
  obtain ⟨y,hy,h⟩:=aq.1 h
  rw [Rd.run_bind,Rd.ea] at h
  obtain ⟨z,hz,h⟩:=aq.1 h
  rw [Rd.run_bind,dU] at h
  have h:=c6 h
  have hpub:=yX hy
  have hx:=W2 hy
  have himm:cZ env (av env x)=some y:=by rw [hx]; rfl
  have loc:∀ s p,eB env a=some (s,p)→(Dx T z s p (look env s)).run (look env)=some δ→step cl ⟨d,.store T a x,g⟩ env K=K (δ++env):=by
   intro s p h0 h
   have h1:∀ T0 o x0,look env s=.loc T0 o x0→(cB T || (cd o p).pure)=true→step cl ⟨d,.store T a x,g⟩ env K=(a6 T0 p x0 ⟨T,z⟩).bind fun x1=>K ((s,.loc T0 o x1)::env):=by
    intro T0 o x0 hl hsc
    unfold eB at h0
    by_cases hs1:cB T=true
    case neg=>
     have hp:(cd o p).pure=true:=by simpa [hs1] using hsc
     cases he:av env a<;>rw [he] at h0<;>first | (exfalso; simp at h0; done) | skip
     ·simp only [step,he,eB,h0,hl,if_neg hs1,hx,hpub,ar,hz,hp]
     ·simp only [aw,eN] at h0
      obtain ⟨rfl,rfl⟩:=h0
      simp only [step,he,eB,hl,if_neg hs1,hx,hpub,ar,hz,hp]
    replace hsc:=hs1
    cases he:av env a<;>rw [he] at h0<;>first | (exfalso; simp at h0; done) | skip
    ·simp only [step,he,eB,h0,hl,hsc,if_true,himm,ar,hz]
    ·simp only [aw,eN] at h0
     obtain ⟨rfl,rfl⟩:=h0
     simp only [step,he,eB,hl,hsc,if_true,himm,ar,hz]
   cases hl:look env s<;>rw [hl] at h<;>simp only [Dx,Rd.aY] at h<;>first | (exfalso; simp at h; done) | skip
   rename_i T0 o x0
   rw [Rd.c7] at h
   split at h
   ·rename_i hsc
    rw [Rd.run_bind,Rd.ea] at h
    obtain ⟨x1,hx1,h⟩:=aq.1 h
    cases h
    rw [h1 T0 o x0 hl hsc,hx1]
    rfl
   ·simp [Rd.aY] at h
  split at h
  ·rename_i s j q he
   rw [Rd.run_bind,Rd.run_get] at h
   have h:=c6 h
   cases hl:look env s<;>rw [hl] at h<;>simp only [WL,Rd.aY] at h<;>first | (exfalso; simp at h; done) | skip
   rename_i wr ed T0 o xs
   cases wr
   ·simp [Rd.aY] at h
   ·simp only [Rd.run_ite] at h
    split at h
    ·rename_i hj
     rw [Rd.run_bind,Rd.ea] at h
     obtain ⟨u,hu,h⟩:=aq.1 h
     rw [Rd.c7] at h
     split at h
     ·rename_i ho
      cases h
      simp only [step,he,hl,hpub,ar,hz,if_pos hj,hu,if_pos ho]
      rfl
     ·simp [Rd.aY] at h
    ·simp [Rd.aY] at h
  ·rename_i s p he
   rw [Rd.run_bind,Rd.run_get] at h
   exact loc s p (by simp only [eB,he]) (c6 h)
  ·rename_i T0 o x0 he
   split at h
   ·rename_i k _ _ _
    have hl:look env k=.loc T0 o x0:=he
    rw [he,←hl] at h
    exact loc k [] (by simp only [eB,he,Od.slot,Option.map_some]) h
   ·simp [Rd.aY] at h
  ·simp [Rd.aY] at h
 case kF T x lo hi mx=>
  simp only [gm] at h
  rw [Rd.run_bind,dU] at h
  have h:=c6 h
  split at h
  ·rename_i s p he
   split at h
   ·rw [Rd.run_bind,Rd.run_get] at h
    have h:=c6 h
    split at h
    ·rename_i wr ed T' o xs hl
     rw [Rd.c7] at h
     split at h
     ·rename_i ho
      rw [Rd.run_bind] at h
      obtain ⟨v,hv,h⟩:=aq.1 h
      cases h
      unfold Wx at hv
      rw [Rd.run_bind,oH] at hv
      obtain ⟨q1,hq1,hv⟩:=aq.1 hv
      rw [Rd.run_bind,oH] at hv
      obtain ⟨q2,hq2,hv⟩:=aq.1 hv
      rw [Rd.run_bind,oH] at hv
      obtain ⟨q3,hq3,hv⟩:=aq.1 hv
      rw [Rd.run_bind,Rd.ea] at hv
      obtain ⟨ys,hys,hv⟩:=aq.1 hv
      rw [Rd.run_ite] at hv
      split at hv
      ·rename_i hb
       cases hv
       have hpub:dZ env x=some (freeze env s,⟨.sl T',xs⟩):=by simp [dZ,he,cZ,bc,hl,ho,fD]
       have hfr:freeze env s=(s,.own false ed T' o.bo xs)::env:=by simp [freeze,hl]
       have hf2:free ((s,.own false ed T' o.bo xs)::env) d=true:=by
        cases d with
        | none=>rfl
        | some d=>
          simp only [free] at hf ⊢
          rw [aP]
          by_cases hsd:s=d
          ·subst hsd; rw [hl] at hf; simp [E.home] at hf
          ·rw [if_neg hsd]; exact hf
       simp only [step,hq1,hq2,hq3,ar,hpub,hys,if_pos hb,hfr,kV hf2,bO,jg,cO]
      ·simp [Rd.aY] at hv
     ·simp [Rd.aY] at h
    ·simp [Rd.aY] at h
   ·simp [Rd.aY] at h
  ·exact pure h
 case cp x=>
  simp only [gm] at h
  rw [Rd.run_bind,dU] at h
  replace h:=c6 h
  split at h
  ·rename_i T y he
   cases h
   have hpub:dZ env x=some (env,⟨T,y⟩):=by simp [dZ,he,cZ,fD]
   simp only [step,hpub,ar,kV hf]
  ·rename_i wr ed T o xs he
   split at h
   ·rename_i k
    rw [Rd.c7] at h
    split at h
    ·rename_i ho
     cases h
     have hl:look env k=.own wr ed T o xs:=he
     have hpub:dZ env (.t k)=some (freeze env k,⟨.sl T,xs⟩):=by simp [dZ,he,cZ,ho,fD]
     have hfr:freeze env k=(k,.own false ed T o.bo xs)::env:=by simp [freeze,hl]
     have hf2:free ((k,.own false ed T o.bo xs)::env) d=true:=by
      cases d with
      | none=>rfl
      | some d=>
        simp only [free] at hf ⊢
        rw [aP]
        by_cases hsd:k=d
        ·subst hsd; rw [hl] at hf; simp [E.home] at hf
        ·rw [if_neg hsd]; exact hf
     simp only [step,ar,hpub,hfr,kV hf2,bO,jg,cO]
    ·simp [Rd.aY] at h
   ·simp [Rd.aY] at h
  ·simp [Rd.aY] at h
 case mv x=>
  simp only [gm] at h
  rw [Rd.run_bind,dU] at h
  replace h:=c6 h
  split at h
  ·rename_i es he
   split at h
   ·rename_i k d
    rw [Rd.c7] at h
    split at h
    ·simp [Rd.aY] at h
    ·rename_i hkd
     cases h
     have hh:(look env d).home=false:=by simpa [free] using hf
     simp only [step,oB,he,hkd,hh]
     rfl
   ·simp [Rd.aY] at h
  ·exact pure h
 case build T parts=>
  simp only [gm] at h
  rw [Rd.run_bind] at h
  obtain ⟨q,hq,h⟩:=aq.1 h
  cases h
  obtain ⟨h1,h2⟩:=Mo T (zero T) [] parts q (fun u hu=>by simp at hu) hq
  rw [cO] at h1
  have hf2:free (q.2++env) d=true:=by
   cases hd:d with
   | none=>rfl
   | some d'=>
     subst hd
     simp only [free] at hf ⊢
     rw [K1 (d:=some d') fun u hu e=>?_]
     ·exact hf
     ·have:=(h2 u hu).2
      simp only [apart,du,beq_eq_false_iff_ne] at this
      exact this e.symm
  simp only [step,h1,ar,kV hf2,bO]
 case append e T lim s x=>
  simp only [gm] at h
  split at h
  case h_2=>simp [Rd.aY] at h
  rename_i k0
  rw [Rd.run_bind,Rd.run_get] at h
  have h:=c6 h
  split at h
  case h_2=>simp [Rd.aY] at h
  rename_i wr e' T' o xs hk0
  rw [Rd.run_bind] at h
  obtain ⟨q,hq,h⟩:=aq.1 h
  rw [Rd.run_bind,Rd.ea] at h
  obtain ⟨ys,hys,h⟩:=aq.1 h
  rw [Rd.run_bind,Rd.ea] at h
  obtain ⟨xs',hxs,h⟩:=aq.1 h
  rw [Rd.c7] at h
  split at h
  case isFalse=>simp [Rd.aY] at h
  rename_i hc
  rw [Rd.run_ite] at h
  split at h
  case isFalse=>simp [Rd.aY] at h
  rename_i hle
  cases h
  obtain ⟨p1,p2,p3,p4⟩:=Xx hq
  have hl:look (q.2++env) k0=.own wr e' T' o xs:=p3.trans hk0
  have hkill:kill k0 (q.2++env)=q.2++env:=Ul fun u hu=>by
   rcases dD.1 hu with hu | hu
   ·exact p2 k0 u hu
   ·exact hn k0 rfl u hu
  have h1:placeOf (q.2++env) k0=some (k0,[]):=by unfold placeOf; rw [hl]
  have h2:bc (q.2++env) k0 []=some ⟨wr,e',T',o,xs⟩:=by unfold bc; rw [hl]
  have h3:tW (q.2++env) k0 []=some ((k0,.dead)::(q.2++env)):=by unfold tW; rw [hl,hkill]
  have h4:free ((k0,.dead)::(q.2++env)) d=true:=by
   cases hd:d with
   | none=>rfl
   | some d'=>
     subst hd
     simp only [au,apart,du,beq_eq_false_iff_ne] at hc
     simp only [free] at hf ⊢
     rw [aP,if_neg (bu hc.1.1),p4 d' rfl]; exact hf
  simp only [step,p1,ar,hys,h1,h2,hxs,h3,hc,if_pos hle,kV h4,bO,jg]
 case bU f x g=>
  simp only [gm] at h
  split at h
  case h_2=>simp [Rd.aY] at h
  rename_i s
  rw [Rd.run_bind,Rd.run_get] at h
  have h:=c6 h
  split at h
  case h_2=>simp [Rd.aY] at h
  rename_i e T xs hs
  rw [Rd.run_bind,dU] at h
  have h:=c6 h
  split at h
  case h_2=>simp [Rd.aY] at h
  rename_i fg A C caps hg
  rw [Rd.c7] at h
  split at h
  case isFalse=>simp [Rd.aY] at h
  rename_i hc
  rw [Rd.run_bind,Q8] at h
  obtain ⟨ge,hge,h⟩:=aq.1 h
  rw [Rd.run_bind,Rd.za] at h
  obtain ⟨res,hres,h⟩:=aq.1 h
  rw [Rd.run_bind,Rd.ea] at h
  obtain ⟨y,hy,h⟩:=aq.1 h
  rw [Rd.run_bind,Rd.ea] at h
  obtain ⟨ys,hys,h⟩:=aq.1 h
  cases h
  have hal:(env.all fun q=>!leads s q.2)=true:=fj.2 fun q hq=>by rw [hn s rfl q hq]; rfl
  have hf2:free ((s,E.dead)::env) d=true:=by
   cases hd:d with
   | none=>rfl
   | some d'=>
     subst hd
     simp only [au,apart,du,beq_eq_false_iff_ne] at hc
     simp only [free] at hf ⊢
     rw [aP,if_neg (bu hc.1)]; exact hf
  simp only [au] at hc
  simp only [step,hs,hg,hal,hc.1,hc.2,Bool.and_self,hge,ar,az.eqn,hres,hy,hys,kV hf2,bO,jg,cO]
 case kX f p args=>
  simp only [gm] at h
  rw [Rd.run_bind,ry] at h
  obtain ⟨es,hes,h⟩:=aq.1 h
  rw [Rd.run_bind] at h
  obtain ⟨u,hu,h⟩:=aq.1 h
  have hfr:=CZ args hu
  rw [Rd.run_bind] at h
  obtain ⟨⟨⟨s,q⟩,e⟩,hq,h⟩:=aq.1 h
  obtain ⟨hp1,hp2⟩:=ahI hq
  simp only at h hp1 hp2
  split at h
  case h_2=>simp [Rd.aY] at h
  split at h
  case h_2=>simp [Rd.aY] at h
  rename_i T o x
  rw [Rd.c7] at h
  split at h
  case isFalse=>simp [Rd.aY] at h
  rename_i hc
  simp only [au] at hc
  rw [Rd.run_bind,Rd.za] at h
  obtain ⟨res,hres,h⟩:=aq.1 h
  rw [Rd.run_bind,Rd.ea] at h
  obtain ⟨y,hy,h⟩:=aq.1 h
  cases h
  have hf2:free ((s,.loc T y.1 y.2.1)::env) d=true:=by
   cases hd:d with
   | none=>rfl
   | some d'=>
     subst hd
     simp only [apart,du,beq_eq_false_iff_ne] at hc
     simp only [free] at hf ⊢
     rw [aP,if_neg (bu hc.1.2)]; exact hf
  simp only [step,hp1,ar,hes,hc.1.1,hc.1.2,Bool.and_self,hfr,hp2,az.eqn,hres,hy,kA,hc.2,kV hf2,bO,jg,cO]
 case uN f args=>
  simp only [gm] at h
  rw [Rd.run_bind,ry] at h
  obtain ⟨es,hes,h⟩:=aq.1 h
  rw [Rd.run_bind,Rd.za] at h
  obtain ⟨res,hres,h⟩:=aq.1 h
  rw [Rd.run_bind] at h
  obtain ⟨e,he,h⟩:=aq.1 h
  obtain ⟨rfl,h2⟩:=Wf he
  cases h
  have h3:pH d (one d (eH res)++env)=pH d (one d (eH res))++env:=by cases d<;>rfl
  simp only [step,az.eqn,hes,hres,ar,h2,kV hf,h3]
 all_goals exact pure h
end
def mw (l:List Nat) (k:Nat):Bool:=l.any fun j=>j==k
theorem qp {l:List Nat} {k:Nat}:mw l k=true↔k∈l:=by simp [mw]
def VP (ops:Array Oper) (l:List DI) (j:Nat) (i:DI):Bool:=
 match ops[j]? with
 | some o=>(o.after.toList.all fun e=>!Region.binds .any e || decide (e.on < j))&&
   i.pre.all fun p=>decide (p < j)&&o.after.toList.any fun e=>Region.binds .any e&&(e.on==p || (match l[e.on]? with | some u=>mw u.pre p | none=>false))
 | none=>false
def VT (i j:Nat) (a b:DI):Bool:=i==j || mw a.pre j || mw b.pre i || (!a.piv&&!b.piv&&b.wr.all fun k=>mw a.hide k&&!mw a.wr k)
def qU:List DI→List Nat
 | i::_=>i.safe
 | []=> []
def VO (l:List DI) (i:DI):Bool:=i.safe==qU l&&(i.piv || match Jc i.ai.op with | some k=>mw i.safe k | none=>true)
def tI (P:Program) (n:Nat) (ops:Array Oper) (l:List DI):Bool:=
 P.follows .mixedOrders&&mC P n ops 0 (l.map (·.ai))&&
 (l.zipIdx.all fun q=>VP ops l q.2 q.1&&(match q.1.ai.dst with | some d=>mw q.1.wr d | none=>true)&&(!q.1.piv || q.1.ai.guard.isNone)&&VO l q.1)&&
 l.zipIdx.all fun q=>l.zipIdx.all fun u=>VT q.2 u.2 q.1 u.1
theorem LC {α:Type} {l:List α} {i:Nat} {x:α} (h:l[i]?=some x):(x,i)∈l.zipIdx:=by
 rw [List.mem_zipIdx_iff_getElem?]; exact h
theorem VS {P:Program} {n:Nat} {ops:Array Oper}:∀ (l:List AI) (j:Nat),mC P n ops j l=true→j+l.length=ops.size∧∀ (m:Nat) (i:AI),l[m]?=some i→∃ o,ops[j+m]?=some o∧mB ops o.guard i.guard=true∧kZ P n o i=true
 | [],j,h=>by simp only [mC,beq_iff_eq] at h; exact ⟨by simpa using h,fun m i hm=>by simp at hm⟩
 | i::r,j,h=>by
   simp only [mC,au] at h
   obtain ⟨h1,h2⟩:=h
   obtain ⟨h3,h4⟩:=VS r (j+1) h2
   refine ⟨by simp only [fk]; omega,fun m i' hm=>?_⟩
   cases m with
   | zero=>
     simp only [iI,aw] at hm
     subst hm
     split at h1
     ·rename_i o ho
      simp only [au] at h1
      exact ⟨o,by simpa using ho,h1.1,h1.2⟩
     ·simp at h1
   | succ m=>
     simp only [ui] at hm
     obtain ⟨o,ho,h5⟩:=h4 m i' hm
     exact ⟨o,by rw [←ho]; congr 1; omega,h5⟩
theorem Re {α:Type} {p q:α→Bool}:∀ {l:List α},(∀ x∈l,p x=true→q x=true)→(∃ x∈l,q x=true∧p x=false)→l.countP p < l.countP q
 | [],_,h=>by obtain ⟨x,hx,_⟩:=h; simp at hx
 | y::l,h1,h2=>by
   have hle:l.countP p≤l.countP q:=List.countP_mono_left fun x hx=>h1 x (fm _ hx)
   rw [List.countP_cons,List.countP_cons]
   by_cases hy:q y=true∧p y=false
   ·simp only [hy.1,hy.2,if_true,eo,if_false]; omega
   ·have h3:∃ x∈l,q x=true∧p x=false:=by
     obtain ⟨x,hx,hq⟩:=h2
     rcases cS.1 hx with rfl | hx
     ·exact absurd hq hy
     ·exact ⟨x,hx,hq⟩
    have:=Re (fun x hx=>h1 x (fm _ hx)) h3
    have h4:(if p y=true then 1 else 0)≤(if q y=true then 1 else 0):=by
     split
     ·rw [if_pos (h1 y (by simp) (by assumption))]; exact cE _
     ·split<;>omega
    omega
section
variable {P:Program} {B:Nat} {G0:Nat→Nat→Prop} {W0:dc} {n:Nat} {cl:az}
variable {R:Type} {r:R} {Q:Exit→Act→World→Prop}
def j8 (cl:az) (i:DI) (L:Nat→E) (δ:Ch):Prop:=
 match i.ai.guard with
 | none=>(gm cl i.ai.dst i.ai.op).run (gH i.hide L)=some δ
 | some (s,pol)=>(gH i.hide L s=.v .bool pol∧(gm cl i.ai.dst i.ai.op).run (gH i.hide L)=some δ)∨
   ((gH i.hide L s=.v .bool (!pol)∨gH i.hide L s=.bJ)∧δ=one i.ai.dst .bJ)
structure Text (cl:az) (l:List DI) (env0:Env) (D:Nat→Ch) (T:Nat→Env):Prop where
 start:T 0=env0
 next:∀ m k,look (T (m+1)) k=look (D m++T m) k
 at':∀ (m:Nat) (i:DI),l[m]?=some i→i.piv=false→j8 cl i (look (T m)) (D m)∧free (T m) i.ai.dst=true∧∀ k∈(D m).ks,k∈i.wr
 piv:∀ (m:Nat) (i:DI),l[m]?=some i→i.piv=true→step cl i.ai (T m) (some:cM Env)=some (T (m+1))
 out:∀ m,l[m]?=none→D m=[]
 safe:∀ (m:Nat) (i:DI),l[m]?=some i→∀ s∈i.safe,(∀ q∈T m,leads s q.2=false)∧(∀ q∈D m,leads s q.2=false)∧∀ q∈T (m+1),leads s q.2=false
theorem Vu {δ:Ch} {e1 e2:Env} (h:∀ k,look e1 k=look e2 k) (k:Nat):look (δ++e1) k=look (δ++e2) k:=by
 by_cases hk:k∈Ch.ks δ
 ·rw [Da hk,Da hk]
 ·rw [tC hk,tC hk,h]
theorem Text.cons {l:List DI} {i:DI} {env0 env':Env} {δ:Ch} {D:Nat→Ch} {T:Nat→Env} (ht:Text cl l (δ++env') D T) (he:∀ k,look env' k=look env0 k) (hp:i.piv=false) (hd:j8 cl i (look env0) δ) (hw:okW i env0 δ=true) (hnl:∀ s∈i.safe,∀ q∈env',leads s q.2=false):
  Text cl (i::l) env0 (fun m=>match m with | 0=>δ | m+1=>D m) (fun m=>match m with | 0=>env0 | m+1=>T m):=by
 simp only [okW,nq,au,fj,du] at hw
 obtain ⟨hw,hsf⟩:=hw
 refine ⟨rfl,fun m k=>?_,fun m i' hm hpi=>?_,fun m i' hm hpi=>?_,fun m hm=>?_,fun m i' hm s hs=>?_⟩
 ·cases m with
  | zero=>simp only [ht.start]; exact Vu he k
  | succ m=>exact ht.next m k
 ·cases m with
  | zero=>
    simp only [iI,aw] at hm
    subst hm
    refine ⟨hd,hw.1,fun k hk=>?_⟩
    obtain ⟨q,hq,rfl⟩:=dd.1 hk
    exact qp.1 (hw.2 q hq)
  | succ m=>exact ht.at' m i' (by simpa using hm) hpi
 ·cases m with
  | zero=>
    simp only [iI,aw] at hm
    subst hm
    rw [hp] at hpi; cases hpi
  | succ m=>exact ht.piv m i' (by simpa using hm) hpi
 ·cases m with
  | zero=>simp at hm
  | succ m=>exact ht.out m (by simpa using hm)
 ·cases m with
  | zero=>
    simp only [iI,aw] at hm
    subst hm
    refine ⟨fun q hq=>hsf s hs q (iK _ hq),fun q hq=>hsf s hs q (gp _ hq),fun q hq=>?_⟩
    simp only [ht.start] at hq
    rcases dD.1 hq with hq | hq
    ·exact hsf s hs q (gp _ hq)
    ·exact hnl s hs q hq
  | succ m=>exact ht.safe m i' (by simpa using hm) s hs
def zV (env' env:Env):Ch:=env'++env.map fun q=>(q.1,look env' q.1)
theorem aeT (env' env:Env) (k:Nat):look (zV env' env++env) k=look env' k:=by
 unfold zV
 by_cases h1:k∈Ch.ks env'
 ·rw [bO,Da h1]
 ·rw [bO,tC h1]
  have hd:look env' k=.dead:=by
   have:=tC (env:=[]) h1
   rw [jf] at this
   exact this
  have key:∀ (e2:Env),look (e2.map (fun q=>(q.1,look env' q.1))++env) k=if k∈Ch.ks e2 then look env' k else look env k:=by
   intro e2
   induction e2 with
   | nil=>simp [Ch.ks]
   | cons q e2 ih=>
     rw [fX,jg,aP]
     by_cases hq:q.1=k
     ·rw [if_pos hq,hq]; simp [Ch.ks,hq]
     ·have hk:k∈Ch.ks (q::e2)↔k∈Ch.ks e2:=by simp [Ch.ks,bu hq]
      rw [if_neg hq,ih]
      by_cases h3:k∈Ch.ks e2
      ·rw [if_pos h3,if_pos (hk.2 h3)]
      ·rw [if_neg h3,if_neg (fun h=>h3 (hk.1 h))]
  rw [key]
  split
  ·rfl
  ·rename_i h2
   have:=tC (env:=[]) h2
   rw [jf] at this
   rw [hd,this]; rfl
theorem Vy {s:Nat}:∀ {env:Env},(∀ q∈env,leads s q.2=false)→∀ k,leads s (look env k)=false
 | [],_,k=>rfl
 | q::env,h,k=>by
   rw [aP]
   split
   ·exact h q (uq ..)
   ·exact Vy (fun q' hq=>h q' (fm _ hq)) k
theorem Text.XM {l:List DI} {i:DI} {env0 env':Env} {D:Nat→Ch} {T:Nat→Env} (ht:Text cl l env' D T) (hp:i.piv=true) (hs:step cl i.ai env0 (some:cM Env)=some env') (hw0:nq i env0=true) (hw1:nq i env'=true):
  Text cl (i::l) env0 (fun m=>match m with | 0=>zV env' env0 | m+1=>D m) (fun m=>match m with | 0=>env0 | m+1=>T m):=by
 simp only [nq,fj,du] at hw0 hw1
 refine ⟨rfl,fun m k=>?_,fun m i' hm hpi=>?_,fun m i' hm hpi=>?_,fun m hm=>?_,fun m i' hm s hs=>?_⟩
 ·cases m with
  | zero=>simp only [ht.start]; exact (aeT env' env0 k).symm
  | succ m=>exact ht.next m k
 ·cases m with
  | zero=>
    simp only [iI,aw] at hm
    subst hm
    rw [hp] at hpi; cases hpi
  | succ m=>exact ht.at' m i' (by simpa using hm) hpi
 ·cases m with
  | zero=>
    simp only [iI,aw] at hm
    subst hm
    simp only [ht.start]; exact hs
  | succ m=>exact ht.piv m i' (by simpa using hm) hpi
 ·cases m with
  | zero=>simp at hm
  | succ m=>exact ht.out m (by simpa using hm)
 ·cases m with
  | zero=>
    simp only [iI,aw] at hm
    subst hm
    refine ⟨hw0 s hs,fun q hq=>?_,fun q hq=>?_⟩
    ·simp only [zV] at hq
     rcases dD.1 hq with hq | hq
     ·exact hw1 s hs q hq
     ·obtain ⟨u,hu,rfl⟩:=dd.1 hq
      exact Vy (hw1 s hs) _
    ·simp only [ht.start] at hq
     exact hw1 s hs q hq
  | succ m=>exact ht.safe m i' (by simpa using hm) s hs
theorem B9 {K:cM R}:∀ (l:List DI) (env0:Env),iu cl l env0 K=some r→∃ D T,Text cl l env0 D T∧K (T l.length)=some r
 | [],env0,h=>⟨fun _=> [],fun _=>env0,⟨rfl,fun _ _=>rfl,fun m i hm=>by simp at hm,fun m i hm=>by simp at hm,fun _ _=>rfl,fun m i hm=>by simp at hm⟩,h⟩
 | i::l,env0,h=>by
   simp only [iu] at h
   cases hpv:i.piv with
   | true=>
     rw [hpv] at h
     simp only at h
     split at h
     case h_2=>simp at h
     rename_i hw0
     rw [Lp] at h
     obtain ⟨env',h1,h2⟩:=aq.1 h
     split at h2
     case h_2=>simp at h2
     rename_i hw1
     obtain ⟨D,T,ht,hk⟩:=B9 l _ h2
     exact ⟨_,_,ht.XM hpv h1 hw0 hw1,hk⟩
   | false=>
   rw [hpv] at h
   simp only at h
   have yes:∀ env',(∀ k,look env' k=look env0 k)→(∀ s,(∀ q∈env0,leads s q.2=false)→∀ q∈env',leads s q.2=false)→(∀ δ,(gm cl i.ai.dst i.ai.op).run (gH i.hide (look env0))=some δ→j8 cl i (look env0) δ)→
     ((gm cl i.ai.dst i.ai.op).runK (gH i.hide (look env0)) fun δ=>match okW i env0 δ with
      | true=>iu cl l (δ++env') K
      | false=>none)=some r→∃ D T,Text cl (i::l) env0 D T∧K (T (i::l).length)=some r:=by
    intro env' he hnl hd h
    rw [Rd.eqn] at h
    obtain ⟨δ,hδ,h⟩:=aq.1 h
    split at h
    ·rename_i hc
     obtain ⟨D,T,ht,hk⟩:=B9 l _ h
     have hc2:=hc
     simp only [okW,nq,au,fj,du] at hc2
     exact ⟨_,_,ht.cons he hpv (hd δ hδ) hc (fun s hs=>hnl s fun q hq=>hc2.2 s hs q (iK _ hq)),hk⟩
    ·simp at h
   have nope:∀ env',(∀ k,look env' k=look env0 k)→(∀ s,(∀ q∈env0,leads s q.2=false)→∀ q∈env',leads s q.2=false)→j8 cl i (look env0) (one i.ai.dst .bJ)→
     (match okW i env0 (one i.ai.dst .bJ) with
      | true=>iu cl l (one i.ai.dst .bJ++env') K
      | false=>none)=some r→∃ D T,Text cl (i::l) env0 D T∧K (T (i::l).length)=some r:=by
    intro env' he hnl hd h
    split at h
    ·rename_i hc
     obtain ⟨D,T,ht,hk⟩:=B9 l _ h
     have hc2:=hc
     simp only [okW,nq,au,fj,du] at hc2
     exact ⟨_,_,ht.cons he hpv hd hc (fun s hs=>hnl s fun q hq=>hc2.2 s hs q (iK _ hq)),hk⟩
    ·simp at h
   cases hg:i.ai.guard with
   | none=>
     rw [hg] at h
     exact yes env0 (fun _=>rfl) (fun _ h=>h) (fun δ hδ=>by simp only [j8,hg]; exact hδ) h
   | some q=>
     obtain ⟨s,pol⟩:=q
     rw [hg] at h
     simp only at h
     split at h
     ·rename_i b hs
      have hls:look env0 s=.v .bool b:=by
       unfold gH at hs
       split at hs
       ·cases hs
       ·exact hs
      have he:∀ k,look ((s,.v .bool b)::env0) k=look env0 k:=by
       intro k
       rw [aP]
       split
       ·rename_i e; subst e; exact hls.symm
       ·rfl
      have hee:∀ u,(∀ q∈env0,leads u q.2=false)→∀ q∈(s,.v .bool b)::env0,leads u q.2=false:=by
       intro u hu q hq
       rcases cS.1 hq with rfl | hq
       ·rfl
       ·exact hu q hq
      have y2:b=pol→∀ δ,(gm cl i.ai.dst i.ai.op).run (gH i.hide (look env0))=some δ→j8 cl i (look env0) δ:=by
       intro e δ hδ; simp only [j8,hg]; exact .inl ⟨by rw [hs,e],hδ⟩
      have n2:b=!pol→j8 cl i (look env0) (one i.ai.dst .bJ):=by
       intro e; simp only [j8,hg]; exact .inr ⟨.inl (by rw [hs,e]),trivial⟩
      cases b with
      | true=>
        simp only [ad] at h
        cases pol with
        | true=>exact yes _ he hee (y2 rfl) h
        | false=>exact nope _ he hee (n2 rfl) h
      | false=>
        simp only [ad] at h
        cases pol with
        | true=>exact nope _ he hee (n2 rfl) h
        | false=>exact yes _ he hee (y2 rfl) h
     ·rename_i hs
      exact nope env0 (fun _=>rfl) (fun _ h=>h) (by simp only [j8,hg]; exact .inr ⟨.inr hs,trivial⟩) h
     ·simp at h
theorem Text.inv {l:List DI} {env0:Env} {D:Nat→Ch} {T:Nat→Env} (h:Text cl l env0 D T):∀ m,Inv D env0 (fun j=>j < m) (T m)
 | 0=>by rw [h.start]; exact Inv.start fun m=>by omega
 | m+1=>by
   refine Inv.ext ?_ (h.next m)
   refine (Inv.add (i:=m) (h.inv m) (fun k _ m' h1 h2=>by omega)).set fun j=>?_
   constructor
   ·rintro (h | rfl)<;>omega
   ·intro h; by_cases hj:j=m
    ·exact .inr hj
    ·exact .inl (by omega)
theorem ZG {l:List Nat} {L L':Nat→E} (h:∀ k,k∉l→L k=.dead∨L' k=L k):Sub (gH l L) L':=by
 intro k
 unfold gH
 split
 ·exact .inl rfl
 ·rename_i hk
  exact h k (fun hm=>by rw [←qp] at hm; simp only [mw] at hm; rw [hm] at hk; cases hk)
theorem Xw (hgood:Good P W0.t cl) {ops:Array Oper} {l:List DI} (hok:tI P n ops l=true) (hz:W0.pin=none∨(l.all fun i=>oD i.ai)=true) {env0:Env} {D:Nat→Ch} {T:Nat→Env} (ht:Text cl l env0 D T):
  ∀ (fuel:Nat) (listed:Array Bool) (env:Env) (a:Act) (w:World) (ob:Nat→OB),listed.size=ops.size→(List.range ops.size).countP (fun i=>!listed.getD i true)≤fuel→
    (∀ (i:Nat) (di:DI),l[i]?=some di→listed.getD i false=true→∀ p∈di.pre,listed.getD p false=true)→
    Inv D env0 (fun m=>listed.getD m false=true) env→(∀ s∈qU l,∀ q∈env,leads s q.2=false)→ah P B G0 W0 n env a.tmps w ob→
    (∀ env' tm' w' ob',ah P B G0 W0 n env' tm' w' ob'→(∀ k,look env' k=look (T l.length) k)→Q .normal {a with tmps:=tm'} w')→
    wpAny P .any ops Q fuel listed a w:=by
 simp only [tI,au,fj] at hok
 obtain ⟨⟨⟨_,h1⟩,h2⟩,h3⟩:=hok
 obtain ⟨hlen,hget⟩:=VS _ _ h1
 simp only [Nat.zero_add,List.length_map] at hlen hget
 have hedge:∀ (i:Nat) (di:DI),l[i]?=some di→∃ o,ops[i]?=some o∧mB ops o.guard di.ai.guard=true∧kZ P n o di.ai=true∧(∀ e∈o.after,Region.binds .any e=true→e.on < i)∧
   (∀ p∈di.pre,p < i∧∃ e∈o.after,Region.binds .any e=true∧(e.on=p∨∃ u,l[e.on]?=some u∧p∈u.pre))∧(∀ d,di.ai.dst=some d→d∈di.wr)∧(di.piv=true→di.ai.guard=none)∧di.safe=qU l∧(di.piv=false→∀ k,Jc di.ai.op=some k→k∈qU l):=by
  intro i di hi
  obtain ⟨o,ho,hg,ha⟩:=hget i di.ai (by rw [lj,hi]; rfl)
  have:=h2 _ (LC hi)
  simp only [au] at this
  obtain ⟨⟨⟨he,hd⟩,hpg⟩,hse⟩:=this
  simp only [VO,au,beq_iff_eq] at hse
  simp only [VP,ho,au,fj,nz,du,decide_eq_true_eq,List.any_eq_true,Array.mem_toList_iff] at he
  refine ⟨o,ho,hg,ha,fun e hm hb=>?_,fun p hp=>⟨(he.2 p hp).1,?_⟩,fun d hd'=>?_,fun hp=>by rw [hp] at hpg; simpa using hpg,hse.1,fun hp k hk=>by
   have h5:=hse.2
   rw [hp,hk] at h5
   rw [←hse.1]; exact qp.1 (by simpa using h5)⟩
  ·rcases he.1 e hm with h | h
   ·rw [h] at hb; cases hb
   ·exact h
  ·obtain ⟨e,hm,hb,hc⟩:=(he.2 p hp).2
   refine ⟨e,hm,hb,?_⟩
   rcases hc with hc | hc
   ·exact .inl (by simpa using hc)
   ·right
    split at hc
    ·rename_i u hu; exact ⟨u,hu,qp.1 hc⟩
    ·simp at hc
  ·rw [hd'] at hd; exact qp.1 hd
 have hpair:∀ (i j:Nat) (di dj:DI),l[i]?=some di→l[j]?=some dj→i≠j→j∉di.pre→i∉dj.pre→di.piv=false∧dj.piv=false∧∀ k∈dj.wr,k∈di.hide∧k∉di.wr:=by
  intro i j di dj hi hj hne hp1 hp2
  have:=h3 _ (LC hi) _ (LC hj)
  simp only [VT,nz,beq_iff_eq,fj,au,du,qp] at this
  rcases this with ((h | h) | h) | h
  ·exact absurd h hne
  ·exact absurd h hp1
  ·exact absurd h hp2
  ·refine ⟨h.1.1,h.1.2,fun k hk=>⟨(h.2 k hk).1,fun hw=>?_⟩⟩
   have:=(h.2 k hk).2
   rw [←qp,this] at hw; cases hw
 intro fuel
 induction fuel with
 | zero=>
   intro listed env a w ob hsz hcount hcl hinv hnl hC hK
   have hno:∀ j,j < ops.size→listed.getD j true=true:=by
    intro j hj
    have:=List.countP_eq_zero.1 (Nat.le_zero.1 hcount) j (DQ.2 hj)
    simpa using this
   refine ⟨?_,hK env a.tmps w ob hC fun k=>hinv.same (ht.inv l.length) fun m hm=>?_⟩
   ·cases hr:Region.ready .any ops listed with
    | nil=>rfl
    | cons j js=>
      have hj:j∈Region.ready .any ops listed:=by rw [hr]; simp
      obtain ⟨h4,o,ho,_⟩:=mem_ready.1 hj
      rw [hno j (ra.1 ho).1] at h4; cases h4
   ·have hlt:m < l.length:=by
     rcases kM m l.length with h | h
     ·exact h
     ·rw [ht.out m (DH h)] at hm; simp [Ch.ks] at hm
    refine ⟨fun _=>hlt,fun _=>?_⟩
    have:=hno m (by omega)
    have hms:m < listed.size:=by omega
    simpa [hms] using this
 | succ fuel ih=>
   intro listed env a w ob hsz hcount hcl hinv hnl hC hK
   refine ⟨fun hr=>?_,fun i hi=>?_⟩
   ·have hall:∀ N j,j < N→j < ops.size→listed.getD j true=true:=by
     intro N
     induction N with
     | zero=>intro j hj; omega
     | succ N ihN=>
       intro j hj hjs
       by_cases hl:listed.getD j true=true
       ·exact hl
       ·exfalso
        obtain ⟨o,ho,_,_,he,_,_,_,_,_⟩:=hedge j (l[j]'(by omega)) (fc (by omega))
        have:j∈Region.ready .any ops listed:=mem_ready.2 ⟨by simpa using hl,o,ho,fun e hm hb=>by
         have h5:=he e hm hb
         have h6:=ihN e.on (by omega) (by omega)
         have:e.on < listed.size:=by omega
         simpa [this] using h6⟩
        rw [hr] at this; simp at this
    refine hK env a.tmps w ob hC fun k=>hinv.same (ht.inv l.length) fun m hm=>?_
    have hlt:m < l.length:=by
     rcases kM m l.length with h | h
     ·exact h
     ·rw [ht.out m (DH h)] at hm; simp [Ch.ks] at hm
    refine ⟨fun _=>hlt,fun _=>?_⟩
    have:=hall (m+1) m (by omega) (by omega)
    have hms:m < listed.size:=by omega
    simpa [hms] using this
   ·obtain ⟨hun,o,ho,hrd⟩:=mem_ready.1 hi
    have hlt:i < ops.size:=(ra.1 ho).1
    obtain ⟨di,hdi⟩:∃ di,l[i]?=some di:=⟨_,fc (by omega)⟩
    obtain ⟨o',ho',hg,hai,he,hpre,hdw,hpg,hsf,het⟩:=hedge i di hdi
    rw [ho] at ho'; cases ho'
    have hunf:listed.getD i false=false:=by
     have hms:i < listed.size:=by omega
     simpa [hms] using hun
    have hpl:∀ p∈di.pre,listed.getD p false=true:=by
     intro p hp
     obtain ⟨_,e,hm,hb,hc⟩:=hpre p hp
     have hon:=hrd e hm hb
     rcases hc with rfl | ⟨u,hu,hc⟩
     ·exact hon
     ·exact hcl e.on u hu hon p hc
    have wrof:∀ m k,k∈(D m).ks→∃ dm,l[m]?=some dm∧(dm.piv=false→k∈dm.wr):=by
     intro m k hk
     cases hm:l[m]? with
     | none=>rw [ht.out m hm] at hk; simp [Ch.ks] at hk
     | some dm=>exact ⟨dm,rfl,fun hp=>(ht.at' m dm hm hp).2.2 k hk⟩
    have agree:∀ k,(di.piv=true∨k∉di.hide∨k∈di.wr)→look env k=look (T i) k:=by
     intro k hk
     refine hinv.same (ht.inv i) fun m hm=>?_
     obtain ⟨dm,hdm,hw⟩:=wrof m k hm
     by_cases hmi:m=i
     ·subst hmi; rw [hunf]; simp
     ·by_cases hp1:m∈di.pre
      ·exact ⟨fun _=>(hpre m hp1).1,fun _=>hpl m hp1⟩
      ·by_cases hp2:i∈dm.pre
       ·obtain ⟨_,_,_,_,_,hpm,_,_,_,_⟩:=hedge m dm hdm
        have:=(hpm i hp2).1
        refine ⟨fun hs=>?_,fun hl=>by omega⟩
        have:=hcl m dm hdm hs i hp2
        rw [hunf] at this; cases this
       ·obtain ⟨hv1,hv2,this⟩:=hpair i m di dm hdi hdm (bu hmi) hp1 hp2
        have this:=this k (hw hv2)
        rcases hk with hk | hk | hk
        ·rw [hv1] at hk; cases hk
        ·exact absurd this.1 hk
        ·exact absurd hk this.2
    -- behind it
    have behind:∀ (env':Env) (tm':Array Value) (w':World) (ob':Nat→OB),ah P B G0 W0 n env' tm' w' ob'→(∀ k,look env' k=look (D i++env) k)→(∀ s∈qU l,∀ q∈env',leads s q.2=false)→wpAny P .any ops Q fuel (listed.setIfInBounds i true) {a with tmps:=tm'} w':=by
     intro env' tm' w' ob' hC' hl' hn'
     have hset:∀ m,(listed.setIfInBounds i true).getD m false=true↔(listed.getD m false=true∨m=i):=by
      intro m
      by_cases hm:m=i
      ·subst hm
       have hms:m < listed.size:=by omega
       simp [hms]
      ·rw [getD_set_ne false (bu hm)]
       simp [hm]
     refine ih _ env' {a with tmps:=tm'} w' ob' (by simpa using hsz) ?_ ?_ ?_ hn' hC' (fun e2 t2 w2 o2 h4 h5=>hK e2 t2 w2 o2 h4 h5)
     ·have:=Re (p:=fun j=>!(listed.setIfInBounds i true).getD j true) (q:=fun j=>!listed.getD j true) (l:=List.range ops.size) (fun x hx hp=>by
       by_cases hxi:x=i
       ·subst hxi
        have hms:x < listed.size:=by omega
        simp [hms] at hp
       ·rw [getD_set_ne true (bu hxi)] at hp; exact hp) ⟨i,DQ.2 hlt,by simpa using hun,by
        have hms:i < listed.size:=by omega
        simp [hms]⟩
      omega
     ·intro m dm hm hs p hp
      rw [hset] at hs ⊢
      rcases hs with hs | rfl
      ·exact .inl (hcl m dm hm hs p hp)
      ·rw [hdi] at hm; cases hm
       exact .inl (hpl p hp)
     ·have hadd:=Inv.add (i:=i) hinv (fun k hk m' hm' hs hk'=>by
       obtain ⟨dm,hdm,hw'⟩:=wrof m' k hk'
       by_cases hp2:i∈dm.pre
       ·have:=hcl m' dm hdm hs i hp2
        rw [hunf] at this; cases this
       ·have hp1:m'∉di.pre:=fun hp=>by have:=(hpre m' hp).1; omega
        obtain ⟨hv1,hv2,hv3⟩:=hpair i m' di dm hdi hdm (by omega) hp1 hp2
        exact (hv3 k (hw' hv2)).2 ((ht.at' i di hdi hv1).2.2 k hk))
      intro k
      rcases (hadd.set fun m=>(hset m).symm) k with h | h
      ·left
       obtain ⟨m,g1,g2,g3,g4⟩:=h
       exact ⟨m,g1,g2,g3,by rw [hl' k]; exact g4⟩
      ·exact .inr ⟨h.1,by rw [hl' k]; exact h.2⟩
    have hz1:W0.pin=none∨di.ai.dst≠some 0:=hz.imp id fun h=>VM (fj.1 h di (List.mem_of_getElem? hdi))
    have hdst0:di.ai.dst=o.dst:=by simp only [kZ,au,decide_eq_true_eq] at hai; exact hai.1.1
    have hd:∀ k,o.dst=some k→bl W0 n k:=by
     simp only [kZ,au,decide_eq_true_eq] at hai
     intro k hk
     have:=hai.1.2
     rw [hk] at this; exact ⟨by simpa using this,hz1.imp id fun h e=>h (by rw [hdst0,hk,e])⟩
    cases hpv:di.piv with
    | true=>
      have hwant:Region.wanted o (yielded ops a.tmps)=true:=by
       have hig:=hpg hpv
       cases hog:o.guard with
       | none=>simp [Region.wanted,hog]
       | some q=>rw [hog,hig] at hg; simp [mB] at hg
      obtain ⟨ob1,hC1⟩:=ah.ext hC (env':=T i) fun k=>(agree k (.inl hpv)).symm
      unfold wpOp
      simp only [ho]
      rw [if_pos hwant]
      refine .inl (Dw (R:=Env) (r:=T (i+1)) hgood hC1 (fun env' tm' w' ob' hC' hk=>?_) hai hz1 (ht.piv i di hdi hpv))
      cases hk
      exact behind _ tm' w' ob' hC' (fun k=>(ht.next i k).trans (Vu (fun k=>(agree k (.inl hpv)).symm) k)) (fun s hs=>(ht.safe i di hdi s (by rw [hsf]; exact hs)).2.2)
    | false=>
    obtain ⟨hd1,hd2,hd3⟩:=ht.at' i di hdi hpv
    have hsub:Sub (gH di.hide (look (T i))) (look env):=ZG fun k hk=>.inr (agree k (.inr (.inl hk)))
    have hfree:free env di.ai.dst=true:=by
     cases hdd:di.ai.dst with
     | none=>rfl
     | some d=>
       rw [hdd] at hd2
       simp only [free] at hd2 ⊢
       rw [agree d (.inr (.inr (hdw d hdd)))]; exact hd2
    have hn2:∀ s∈qU l,∀ q∈D i++env,leads s q.2=false:=by
     intro s hs q hq
     rcases dD.1 hq with hq | hq
     ·exact (ht.safe i di hdi s (by rw [hsf]; exact hs)).2.1 q hq
     ·exact hnl s hs q hq
    have hdst:di.ai.dst=o.dst:=by simp only [kZ,au,decide_eq_true_eq] at hai; exact hai.1.1
    have yes:(gm cl di.ai.dst di.ai.op).run (gH di.hide (look (T i)))=some (D i)→o.wp P a w (wpAny P .any ops Q fuel (listed.setIfInBounds i true)) Q:=by
     intro hw
     have hw2:=(gm cl di.ai.dst di.ai.op).mono _ _ _ hsub hw
     have hst:step cl di.ai env (some:cM Env)=some (D i++env):=asM (g:=di.ai.guard) hw2 hfree (fun s hs=>hnl s (het hpv s hs))
     exact Dw (R:=Env) (r:=D i++env) hgood hC (fun env' tm' w' ob' hC' hk=>by
      cases hk; exact behind _ tm' w' ob' hC' (fun _=>rfl) hn2) hai hz1 hst
    have nope:D i=one di.ai.dst .bJ→wpAny P .any ops Q fuel (listed.setIfInBounds i true) (a.put o.dst undef) w:=by
     intro hD
     obtain ⟨ob',hC'⟩:=ah.aM (e:=.bJ) (v:=undef) hC hd (aO.refl w) ⟨rfl,rfl⟩ a rfl
     have:=behind _ _ w ob' hC' (fun k=>by rw [←hdst,kV hfree,hD]) (by rw [←hdst,kV hfree,←hD]; exact hn2)
     have e:({a with tmps:=(a.put o.dst undef).tmps}:Act)=a.put o.dst undef:=by cases o.dst<;>rfl
     rw [e] at this; exact this
    unfold wpOp
    simp only [ho]
    cases hog:o.guard with
    | none=>
      cases hig:di.ai.guard with
      | some q=>rw [hog,hig] at hg; simp [mB] at hg
      | none=>
        simp only [j8,hig] at hd1
        have hw:Region.wanted o (yielded ops a.tmps)=true:=by simp [Region.wanted,hog]
        rw [if_pos hw]
        exact .inl (yes hd1)
    | some q=>
      obtain ⟨gj,gb⟩:=q
      cases hig:di.ai.guard with
      | none=>rw [hog,hig] at hg; simp [mB] at hg
      | some q'=>
        obtain ⟨s,pol⟩:=q'
        rw [hog,hig] at hg
        simp only [mB,au,beq_iff_eq] at hg
        obtain ⟨rfl,hg⟩:=hg
        split at hg
        case h_2=>simp at hg
        rename_i og hgj
        simp only [decide_eq_true_eq] at hg
        simp only [j8,hig] at hd1
        have lk:∀ e,gH di.hide (look (T i)) s=e→e≠.dead→look env s=e:=by
         intro e he hne
         rcases hsub s with h | h
         ·rw [h] at he; exact absurd he.symm hne
         ·rw [h,he]
        have wan:∀ b,look env s=.v .bool b→Region.wanted o (yielded ops a.tmps)=(b==gb):=by
         intro b hs2
         have hy:=kept hC hgj hg hs2
         simp only [Region.wanted,hog,hy]
         cases b<;>cases gb<;>rfl
        rcases hd1 with ⟨hs,hd1⟩ | ⟨hs | hs,hd1⟩
        ·rw [wan _ (lk _ hs (by simp))]
         simp only [beq_self_eq_true,if_true]
         exact .inl (yes hd1)
        ·rw [wan _ (lk _ hs (by simp))]
         have:((!gb)==gb)=false:=by cases gb<;>rfl
         rw [this]
         simp only [eo,if_false]
         exact nope hd1
        ·have hy:=Uk hC hgj hg (lk _ hs (by simp))
         rw [if_neg (by simp [Region.wanted,hog,hy])]
         exact nope hd1
theorem XZ (hgood:Good P W0.t cl) {ops:Array Oper} {l:List DI} (hok:tI P n ops l=true) (hz:W0.pin=none∨(l.all fun i=>oD i.ai)=true) {env:Env} {a:Act} {w:World} {ob:Nat→OB} {K:cM R} (hC:ah P B G0 W0 n env a.tmps w ob) (h:iu cl l env K=some r)
  (hK:∀ env' tm' w' ob',ah P B G0 W0 n env' tm' w' ob'→K env'=some r→Q .normal {a with tmps:=tm'} w') {id:Nat}:(Code.region id ops true).wp P Q a w:=by
 have hm:P.follows .mixedOrders=true:=by simp only [tI,au] at hok; exact hok.1.1.1
 obtain ⟨D,T,ht,hk⟩:=B9 l env h
 refine wp_region_any hm ?_
 obtain ⟨ob2,hC2⟩:∃ ob2,ah P B G0 W0 n env a.tmps {w with drawn:=w.drawn+1} ob2:=
  ah.aM (d:=none) (e:=.bJ) (v:=undef) (w':={w with drawn:=w.drawn+1}) hC (fun k hk=>by cases hk) ⟨rfl,rfl,rfl,cE _,fun _ _=>rfl,Nat.le_succ _⟩ ⟨rfl,rfl⟩ a rfl
 refine Xw hgood hok hz ht _ _ env a _ ob2 (by simp) ?_ ?_ (Inv.start fun m=>?_) ?_ hC2 (fun env' tm' w' ob' hC' hl'=>?_)
 ·exact Nat.le_trans List.countP_le_length (by simp)
 ·intro i di _ hs
  simp only [mL] at hs
  by_cases hi:i < ops.size<;>simp [hi] at hs
 ·intro hs
  simp only [mL] at hs
  by_cases hi:m < ops.size<;>simp [hi] at hs
 ·cases l with
  | nil=>intro s hs; simp [qU] at hs
  | cons i l=>intro s hs; have:=(ht.safe 0 i rfl s hs).1; rwa [ht.start] at this
 ·obtain ⟨ob3,hC3⟩:=ah.ext hC' (env':=T l.length) (fun k=>(hl' k).symm)
  exact hK _ tm' w' ob3 hC3 hk
end
end Go.Fw
/- Soundness, part 23: code; what a function hands back. -/
namespace Go.Fw
open Go Go.RowKit
def fN (P:Program) (n:Nat) (c:Code):AC→Bool
 | .out _ x=>fN P n c x
 | .skip=>(match c with | .skip=>true | _=>false)
 | .aa _ l=>(match c with | .region _ ops false=>mC P n ops 0 l | _=>false)
 | .draw _ l=>(match c with | .region _ ops true=>tI P n ops l | _=>false)
 | .seq x' y'=>(match c with | .seq x y=>fN P n x x'&&fN P n y y' | _=>false)
 | .cond d x' y'=>(match c with | .cond e x y=>aF e d&&fN P n x x'&&fN P n y y' | _=>false)
 | .block id' x'=>(match c with | .block id x=>id==id'&&fN P n x x' | _=>false)
 | .loop _ x'=>(match c with | .loop x=>fN P n x x' | _=>false)
 | .exit id'=>(match c with | .exit id=>id==id' | _=>false)
 | .ret=>(match c with | .ret=>true | _=>false)
def kD:AC→Bool
 | .out _ x=>kD x
 | .aa _ l=>l.all oD
 | .draw _ l=>l.all fun i=>oD i.ai
 | .seq x y=>kD x&&kD y
 | .cond _ x y=>kD x&&kD y
 | .block _ x=>kD x
 | .loop _ x=>kD x
 | _=>true
def Je:Ex→Exit
 | .normal=>.normal
 | .exit id=>.exit id
 | .ret=>.ret
section
variable {P:Program} {B:Nat} {G0:Nat→Nat→Prop} {W0:dc} {n:Nat} {cl:az}
variable {R:Type} {r:R}
def W8 (P:Program) (B:Nat) (G0:Nat→Nat→Prop) (W0:dc) (n:Nat) (a:Act) (K:KE R) (r:R) (Q:Exit→Act→World→Prop):Prop:=
 ∀ e env' tm' w' ob',ah P B G0 W0 n env' tm' w' ob'→K e env'=some r→Q (Je e) {a with tmps:=tm'} w'
theorem vt (hgood:Good P W0.t cl) (N:Nat):∀ (ac:AC) (c:Code) (env:Env) (a:Act) (w:World) (ob:Nat→OB) (K:KE R) (Q:Exit→Act→World→Prop),fN P n c ac=true→(W0.pin=none∨kD ac=true)→ah P B G0 W0 n env a.tmps w ob→
  exec cl N ac env K=some r→W8 P B G0 W0 n a K r Q→c.wp P Q a w:=by
 intro ac
 induction ac with
 | skip=>
   intro c env a w ob K Q hok hz hC h hK
   cases c<;>simp only [fN,eo] at hok
   exact wp_skip (hK .normal env a.tmps w ob hC h)
 | ret=>
   intro c env a w ob K Q hok hz hC h hK
   cases c<;>simp only [fN,eo] at hok
   exact wp_ret (hK .ret env a.tmps w ob hC h)
 | exit id=>
   intro c env a w ob K Q hok hz hC h hK
   cases c<;>simp only [fN,eo,beq_iff_eq] at hok
   subst hok
   exact wp_exit (hK (.exit _) env a.tmps w ob hC h)
 | aa live l=>
   intro c env a w ob K Q hok hz hC h hK
   have hc:∃ id ops,c=.region id ops false∧mC P n ops 0 l=true:=by
    unfold fN at hok
    split at hok
    ·exact ⟨_,_,rfl,hok⟩
    ·simp at hok
   obtain ⟨id,ops,rfl,hok⟩:=hc
   simp only [exec] at h
   obtain ⟨ob',hC'⟩:=ah.aj hC live
   have:=Lc (Q:=Q) hgood l 0 _ a w ob' hok hz hC' h (fun env' tm' w' ob' hC' hk=>hK .normal env' tm' w' ob' hC' hk)
   rw [DT] at this
   refine wp_region ?_
   rw [List.range_eq_range']
   exact this
 | draw live l=>
   intro c env a w ob K Q hok hz hC h hK
   have hc:∃ id ops,c=.region id ops true∧tI P n ops l=true:=by
    unfold fN at hok
    split at hok
    ·exact ⟨_,_,rfl,hok⟩
    ·simp at hok
   obtain ⟨id,ops,rfl,hok⟩:=hc
   simp only [exec] at h
   obtain ⟨ob',hC'⟩:=ah.aj hC live
   exact XZ hgood hok hz hC' h (fun env' tm' w' ob' hC' hk=>hK .normal env' tm' w' ob' hC' hk)
 | out live x ih=>
   intro c env a w ob K Q hok hz hC h hK
   simp only [exec] at h
   simp only [fN] at hok
   refine ih c env a w ob _ Q hok hz hC h (fun e env' tm' w' ob' hC' hk=>?_)
   obtain ⟨ob2,hC2⟩:=ah.aj hC' live
   exact hK e _ tm' w' ob2 hC2 hk
 | seq x y ihx ihy=>
   intro c env a w ob K Q hok hz hC h hK
   cases c<;>simp only [fN,eo] at hok
   simp only [au] at hok
   simp only [exec] at h
   simp only [kD,au] at hz
   refine wp_seq (ihx _ env a w ob _ _ hok.1 (hz.imp id And.left) hC h (fun e env' tm' w' ob' hC' hk=>?_))
   cases e with
   | normal=>
     simp only [mI] at hk
     exact ihy _ env' {a with tmps:=tm'} w' ob' K Q hok.2 (hz.imp id And.right) hC' hk hK
   | exit id=>exact hK (.exit id) env' tm' w' ob' hC' hk
   | ret=>exact hK .ret env' tm' w' ob' hC' hk
 | cond c' x y ihx ihy=>
   intro c env a w ob K Q hok hz hC h hK
   cases c<;>simp only [fN,eo] at hok
   simp only [au] at hok
   simp only [exec,aq] at h
   obtain ⟨b,hb,h⟩:=h
   simp only [kD,au] at hz
   have hv:=Ea hC hok.1.1 hb
   cases b with
   | true=>exact wp_cond_true hv (ihx _ env a w ob K Q hok.1.2 (hz.imp id And.left) hC h hK)
   | false=>exact wp_cond_false hv (ihy _ env a w ob K Q hok.2 (hz.imp id And.right) hC h hK)
 | block id x ih=>
   intro c env a w ob K Q hok hz hC h hK
   cases c<;>simp only [fN,eo] at hok
   simp only [au,beq_iff_eq] at hok
   obtain ⟨rfl,hok⟩:=hok
   simp only [exec] at h
   refine wp_block (ih _ env a w ob _ _ hok hz hC h (fun e env' tm' w' ob' hC' hk=>?_))
   cases e with
   | normal=>exact hK .normal env' tm' w' ob' hC' hk
   | ret=>exact hK .ret env' tm' w' ob' hC' hk
   | exit j=>
     simp only [lu] at hk
     simp only [Je,Exit.inBlock]
     split at hk
     ·rename_i hj _; subst hj; rw [if_pos rfl]; exact hK .normal env' tm' w' ob' hC' hk
     ·rename_i hj _; rw [if_neg hj]; exact hK (.exit j) env' tm' w' ob' hC' hk
 | loop live x ih=>
   intro c env a w ob K Q hok hz hC h hK
   cases c<;>simp only [fN,eo] at hok
   rename_i c
   simp only [exec] at h
   obtain ⟨ob',hC'⟩:=ah.aj hC live
   refine aeY (fun m a' w'=>∃ env ob tm,a'={a with tmps:=tm}∧ah P B G0 W0 n env tm w' ob∧iter live (fun env K=>exec cl N x env K) K m env=some r) ?_ ?_ N a w ⟨_,ob',a.tmps,rfl,hC',h⟩
   ·rintro a' w' ⟨env,ob,tm,_,_,h⟩
    simp [iter] at h
   ·rintro m a' w' ⟨env,ob,tm,rfl,hC,h⟩
    simp only [iter] at h
    refine ih _ env {a with tmps:=tm} w' ob _ _ hok hz hC h (fun e env' tm' w2 ob' hC' hk=>?_)
    cases e with
    | normal=>
      obtain ⟨ob2,hC2⟩:=ah.aj hC' live
      exact ⟨_,ob2,tm',rfl,hC2,hk⟩
    | exit id=>exact hK (.exit id) env' tm' w2 ob' hC' hk
    | ret=>exact hK .ret env' tm' w2 ob' hC' hk
inductive oO {α β:Type} (R:α→β→Prop):List α→List β→Prop
 | nil:oO R [] []
 | cons {x:α} {y:β} {xs:List α} {ys:List β}:R x y→oO R xs ys→oO R (x::xs) (y::ys)
theorem akA {α β:Type} {f:α→Sem β} {w:World} {as:Array α} {vs:List β} (h:oO (fun x v=>(f x).run P w=.ok v w) as.toList vs):(as.mapM f).run P w=.ok vs.toArray w:=by
 rw [Array.mapM_eq_mapM_toList]
 have key:∀ {l:List α} {vs:List β},oO (fun x v=>(f x).run P w=.ok v w) l vs→(l.mapM f).run P w=.ok vs w:=by
  intro l vs h
  induction h with
  | nil=>rw [List.mapM_nil]; rfl
  | cons h _ ih=>
    rw [List.mapM_cons]
    simp only [Sem.run_bind,h,Result.andThen_ok,ih]
    rfl
 have:=key h
 rw [←bind_pure_comp]
 simp only [Sem.run_bind,this,Result.andThen_ok]
 rfl
def gA (P:Program):List ResultVar→List RV→Bool
 | [],[]=>true
 | .tmp t::rs,.t k::vs=>t==k&&gA P rs vs
 | .cell t ty::rs,.cell k T::vs=>t==k&&eD P ty T&&gA P rs vs
 | .tmp t::rs,.p k::vs=>t==k&&gA P rs vs
 | _,_=>false
theorem Dj:∀ {o:ax},o.pure=true→o.whole=true
 | .no,_=>rfl
 | .pair a b,h=>by
   simp only [ax.pure,au] at h
   simp only [ax.whole,au]
   exact ⟨Dj h.1,Dj h.2⟩
 | .hole,h=>by simp [ax.pure] at h
 | .own ..,h=>by simp [ax.pure] at h
def oJ (tmps:Array Value):ResultVar→Sem Value
 | .tmp t=>pure (tmps.getD t undef)
 | .cell a t=>do loadVar t (←asAddr (tmps.getD a undef))
theorem B7:∀ (l m:List Nat),distinct (l++m)=true→distinct l=true∧distinct m=true∧∀ x∈l,x∉m
 | [],m,h=>⟨rfl,h,by simp⟩
 | x::l,m,h=>by
   simp only [jg,distinct,au,du,List.any_append,Bool.or_eq_false_iff] at h
   obtain ⟨⟨h1,h2⟩,h3⟩:=h
   obtain ⟨h4,h5,h6⟩:=B7 l m h3
   refine ⟨by simp only [distinct,au,du]; exact ⟨h1,h4⟩,h5,fun y hy=>?_⟩
   rcases cS.1 hy with rfl | hy
   ·intro hm
    have:=List.any_eq_false.1 h2 _ hm
    simp at this
   ·exact h6 y hy
theorem akz {t:TypeId} {T:Ty} (hT:bH P t T) {env:Env} {tm:Array Value} {w:World} {ob:Nat→OB} {k:Nat} (hC:ah P B G0 W0 n env tm w ob) {o:ax} {x:den T} (hk:look env k=.loc T o x):
  ∃ vs c b,(oJ tm (.cell k t)).run P w=.ok (bh T vs) w∧Flat P T w (Gd B G0 ob) B o x vs c∧ob k=(b,0)::c:=by
 have hr:=hC.rep k
 rw [hk] at hr
 obtain ⟨b,cur,e,ob',h1,h2,h3,h4,h5⟩:=hr
 refine ⟨cur.toList,ob',b,?_,h4,h5⟩
 have:=Wj hT w (b:=b) (off:=0) (Flat.len P T h4) (fun j u hj=>by
  rw [Nat.zero_add,cell_of_row w b _ cur e (0,0) h3,←Array.getElem?_toList]; exact hj)
 simp [oJ,h1,asAddr,this]
theorem Ll {env:Env} {tm:Array Value} {w:World} {ob:Nat→OB} (hC:ah P B G0 W0 n env tm w ob):∀ (rvs:List ResultVar) (res:List RV) (es:List E) (ks:List Nat),gA P rvs res=true→tM env res=some (es,ks)→
  ∃ (vs:List Value) (rob:OB),oO (fun x v=>(oJ tm x).run P w=.ok v w) rvs vs∧(∀ q∈rob,∃ k∈ks,q∈ob k)∧(distinct ks=true→(blocks rob).Nodup)∧
    (∀ G':Nat→Nat→Prop,(∀ b i,b < w.heap.size→Gd B G0 ob b i→G' b i)→(∀ k∈ks,∀ g∈blocks (ob k),B≤g→g∉blocks rob→∀ i,G' g i)→distinct ks=true→dX (cD P w G' B #[] []) es vs rob)
 | [],[],es,ks,_,h=>by
   simp only [tM,aw,eN] at h
   obtain ⟨rfl,rfl⟩:=h
   exact ⟨[],[],.nil,by simp,fun _=>by simp,fun _ _ _ _=>⟨rfl,rfl⟩⟩
 | [],_::_,_,_,h,_=>by simp [gA] at h
 | .tmp _::_,[],_,_,h,_=>by simp [gA] at h
 | .cell _ _::_,[],_,_,h,_=>by simp [gA] at h
 | rv::rvs,re::res,es,ks,hok,h=>by
   simp only [tM,aq,aw,eN] at h
   obtain ⟨⟨e1,ks1⟩,h1,⟨es2,ks2⟩,h2,h3,h4⟩:=h
   simp only at h3 h4
   subst h3; subst h4
   have hok2:gA P rvs res=true:=by
    cases rv<;>cases re<;>simp only [gA,au,eo] at hok
    all_goals exact hok.2
   obtain ⟨vs2,rob2,i1,i2,i3,i4⟩:=Ll hC rvs res es2 ks2 hok2 h2
   -- the first
   have first:∃ v b,(oJ tm rv).run P w=.ok v w∧(∀ q∈b,∃ k∈ks1,q∈ob k)∧(blocks b).Nodup∧
     (∀ G':Nat→Nat→Prop,(∀ b i,b < w.heap.size→Gd B G0 ob b i→G' b i)→(∀ k∈ks1,∀ g∈blocks (ob k),B≤g→g∉blocks b→∀ i,G' g i)→cD P w G' B #[] [] e1 v b):=by
    match rv,re,hok,h1 with
    | .tmp t,.t k,hok,h1=>
      simp only [gA,au,beq_iff_eq] at hok
      obtain ⟨rfl,_⟩:=hok
      have hrun:(oJ tm (.tmp t)).run P w=.ok (tm.getD t undef) w:=rfl
      have hr:=hC.rep t
      simp only [Dm] at h1
      split at h1
      ·rename_i T x hl
       simp only [aw,eN] at h1
       obtain ⟨rfl,rfl⟩:=h1
       rw [hl] at hr
       obtain ⟨_,vs,k1,k2⟩:=hr
       refine ⟨_,[],hrun,by simp,by simp,fun G' hG _=>⟨rfl,vs,Flat.mono P T (fun b i hb h=>⟨hG b i hb h,rfl⟩) (bV.refl _ _) (by simp) k1,k2⟩⟩
      ·rename_i wr ed T o xs hl
       split at h1
       ·rename_i hp
        simp only [aw,eN] at h1
        obtain ⟨rfl,rfl⟩:=h1
        rw [hl] at hr
        refine ⟨_,ob t,hrun,fun q hq=>⟨t,by simp,hq⟩,hC.nodup t,fun G' hG _=>?_⟩
        exact Flat.mono P (.sl T) (o:=.own wr ed o) (fun b i hb h=>⟨hG b i hb h,rfl⟩) (bV.refl _ _) (fun _ _=>rfl) hr
       ·simp at h1
      ·rename_i s p hl
       simp only [aq] at h1
       obtain ⟨hh,hhe,h1⟩:=h1
       split at h1
       ·rename_i hp
        simp only [aw,eN] at h1
        obtain ⟨rfl,rfl⟩:=h1
        rw [hl] at hr
        obtain ⟨_,hhd,_⟩:=hr
        obtain ⟨cells,b2,k1,k2,k3⟩:=yN (a:=⟨tm,[]⟩) hC hhe hhd
        obtain ⟨rfl,_⟩:=aL.pure P (o':=.no) hp rfl k2
        refine ⟨_,bN (tm.getD t undef) (if hh.wr=true then 0 else hh.xs.length * ay hh.T),hrun,fun q hq=>⟨s,by simp,k3 q (by simpa using hq)⟩,K8 _ _,fun G' hG _=>?_⟩
        have:Flat P (.sl hh.T) w (Gd B G0 ob) B (.own hh.wr hh.e hh.o) hh.xs [tm.getD t undef] (bN (tm.getD t undef) (if hh.wr=true then 0 else hh.xs.length * ay hh.T)):=by
         unfold Flat
         exact ⟨_,cells,[],rfl,k1,k2,by simp⟩
        exact Flat.mono P (.sl hh.T) (o:=.own hh.wr hh.e hh.o) (fun b i hb h=>⟨hG b i hb h,rfl⟩) (bV.refl _ _) (fun _ _=>rfl) this
       ·simp at h1
      ·simp at h1
    | .cell t ty,.cell k T,hok,h1=>
      simp only [gA,au,beq_iff_eq] at hok
      obtain ⟨⟨rfl,hT⟩,_⟩:=hok
      simp only [Dm] at h1
      split at h1
      ·rename_i T' o x hl
       split at h1
       ·rename_i hw
        simp only [aq,aw,eN] at h1
        obtain ⟨y,hy,rfl,rfl⟩:=h1
        have:=cL hy; cases this
        obtain ⟨vs,c,b,k1,k2,k3⟩:=akz (eI hT) hC hl
        refine ⟨_,[],k1,by simp,by simp,fun G' hG hcell=>⟨rfl,vs,?_,rfl⟩⟩
        by_cases hp:o.pure=true
        ·obtain ⟨_,k4⟩:=Flat.pure P T hp (o':=.no) rfl k2
         exact Flat.mono P T (fun b i hb h=>⟨hG b i hb h,rfl⟩) (bV.refl _ _) (by simp) k4
        ·obtain ⟨c2,k4,k5⟩:=Flat.bo P T k2
         refine Flat.shared P T hw (fun b' lim i hb' _ hB=>?_) hG k4
         refine hcell t (by simp [hp]) b' ?_ hB (by simp) i
         rw [k3]; simp only [jU,cS]
         right
         rw [←k5.1]; exact aE.2 ⟨_,hb'⟩
       ·simp at h1
      ·simp at h1
    | .tmp t,.p k,hok,h1=>
      simp only [gA,au,beq_iff_eq] at hok
      obtain ⟨rfl,_⟩:=hok
      have hrun:(oJ tm (.tmp t)).run P w=.ok (tm.getD t undef) w:=rfl
      have hr:=hC.rep t
      simp only [Dm] at h1
      split at h1
      ·rename_i T x hl
       simp only [aw,eN] at h1
       obtain ⟨rfl,rfl⟩:=h1
       rw [hl] at hr
       obtain ⟨_,vs,k1,k2⟩:=hr
       refine ⟨_,[],hrun,by simp,by simp,fun G' hG _=>⟨rfl,vs,Flat.mono P T (fun b i hb h=>⟨hG b i hb h,rfl⟩) (bV.refl _ _) (by simp) k1,k2⟩⟩
      ·rename_i wr ed T o xs hl
       split at h1
       ·rename_i hp
        simp only [aw,eN] at h1
        obtain ⟨rfl,rfl⟩:=h1
        rw [hl] at hr
        have hr':Flat P (.sl T) w (Gd B G0 ob) B (.own wr ed o) xs [tm.getD t undef] (ob t):=hr
        refine ⟨_,[],hrun,by simp,by simp,fun G' hG hcell=>⟨rfl,[tm.getD t undef],?_,rfl⟩⟩
        obtain ⟨c2,k4,k5⟩:=Flat.bo P (.sl T) hr'
        refine Flat.shared P (.sl T) (o:=.own wr ed o) (show o.whole=true from Dj hp) (fun b' lim i hb' _ hB=>?_) hG k4
        exact hcell t (by simp) b' (by rw [←k5.1]; exact aE.2 ⟨_,hb'⟩) hB (by simp) i
       ·simp at h1
      ·rename_i s p hl
       simp only [aq] at h1
       obtain ⟨hh,hhe,h1⟩:=h1
       split at h1
       ·rename_i hp
        simp only [aw,eN] at h1
        obtain ⟨rfl,rfl⟩:=h1
        rw [hl] at hr
        obtain ⟨_,hhd,_⟩:=hr
        obtain ⟨cells,b2,k1,k2,k3⟩:=yN (a:=⟨tm,[]⟩) hC hhe hhd
        have this:Flat P (.sl hh.T) w (Gd B G0 ob) B (.own hh.wr hh.e hh.o) hh.xs [tm.getD t undef] (bN (tm.getD t undef) (if hh.wr=true then 0 else hh.xs.length * ay hh.T)++b2):=by
         unfold Flat
         exact ⟨_,cells,b2,rfl,k1,k2,rfl⟩
        refine ⟨_,[],hrun,by simp,by simp,fun G' hG hcell=>⟨rfl,[tm.getD t undef],?_,rfl⟩⟩
        obtain ⟨c2,k4,k5⟩:=Flat.bo P (.sl hh.T) this
        refine Flat.shared P (.sl hh.T) (o:=.own hh.wr hh.e hh.o) (show hh.o.whole=true from Dj hp) (fun b' lim i hb' _ hB=>?_) hG k4
        have hb2:b'∈blocks (bN (tm.getD t undef) (if hh.wr=true then 0 else hh.xs.length * ay hh.T)++b2):=by rw [←k5.1]; exact aE.2 ⟨_,hb'⟩
        obtain ⟨l,hl'⟩:=aE.1 hb2
        exact hcell s (by simp) b' (aE.2 ⟨_,k3 _ hl'⟩) hB (by simp) i
       ·simp at h1
      ·simp at h1
    | .cell _ _,.p _,hok,_=>simp [gA] at hok
    | .tmp _,.cell _ _,hok,_=>simp [gA] at hok
    | .cell _ _,.t _,hok,_=>simp [gA] at hok
   obtain ⟨v,b,j1,j2,j3,j4⟩:=first
   refine ⟨v::vs2,b++rob2,.cons j1 i1,fun q hq=>?_,fun hd=>?_,fun G' hG hc hd=>?_⟩
   ·rcases dD.1 hq with hq | hq
    ·obtain ⟨k,m1,m2⟩:=j2 q hq; exact ⟨k,gp _ m1,m2⟩
    ·obtain ⟨k,m1,m2⟩:=i2 q hq; exact ⟨k,iK _ m1,m2⟩
   ·obtain ⟨d1,d2,d3⟩:=B7 _ _ hd
    rw [eW,jh]
    refine ⟨j3,i3 d2,fun x hx y hy hxy=>?_⟩
    subst hxy
    obtain ⟨l1,hx⟩:=aE.1 hx
    obtain ⟨l2,hy⟩:=aE.1 hy
    obtain ⟨k,m1,m2⟩:=j2 _ hx
    obtain ⟨k',m3,m4⟩:=i2 _ hy
    have:=hC.dist k k' x (aE.2 ⟨_,m2⟩) (aE.2 ⟨_,m4⟩)
    subst this
    exact d3 k m1 m3
   ·obtain ⟨d1,d2,d3⟩:=B7 _ _ hd
    refine ⟨v,vs2,b,rob2,rfl,rfl,j4 G' hG (fun k hk g hg hB hgb i=>hc k (gp _ hk) g hg hB ?_ i),i4 G' hG (fun k hk g hg hB hgb i=>hc k (iK _ hk) g hg hB ?_ i) d2⟩
    ·rw [eW,dD]
     rintro (hx | hx)
     ·exact hgb hx
     ·obtain ⟨l,hx⟩:=aE.1 hx
      obtain ⟨k',m3,m4⟩:=i2 _ hx
      have:=hC.dist k k' g hg (aE.2 ⟨_,m4⟩)
      subst this
      exact d3 k hk m3
    ·rw [eW,dD]
     rintro (hx | hx)
     ·obtain ⟨l,hx⟩:=aE.1 hx
      obtain ⟨k',m3,m4⟩:=j2 _ hx
      have:=hC.dist k' k g (aE.2 ⟨_,m4⟩) hg
      subst this
      exact d3 k' m3 hk
     ·exact hgb hx
end
end Go.Fw
/- Soundness, part 24: functions, calls of any depth. -/
namespace Go.Fw
open Go Go.RowKit
def okF (P:Program) (f:FuncId) (fd:FD):Bool:=
 match P.funcs[f]? with
 | some fn => !(fn.name == "runtime.NumGoroutine") && (match fn.body with | some c => fN P fn.ntmps c fd.body | none => false) && decide (fd.nargs ≤ fn.ntmps) && gA P fn.results.toList fd.res && (!fd.lend || kD fd.body)
 | none=>false
theorem K2:∀ (as:List E) (j k:Nat),look (params j as) k=if j≤k then (as[k - j]?).getD .dead else .dead
 | [],j,k=>by simp [params,look]
 | e::as,j,k=>by
   rw [params,aP,K2 as (j+1) k]
   by_cases h:j=k
   ·subst h; simp
   ·rw [if_neg h]
    by_cases h2:j≤k
    ·rw [if_pos h2,if_pos (by omega),show k - j=(k - (j+1))+1 by omega]; simp
    ·rw [if_neg h2,if_neg (by omega)]
def j0 (w:World) (lob:OB) (b:Nat):Prop:=b < w.heap.size∧b∉blocks lob
section
variable {P:Program} {t:fM}
theorem dQ.get {w:World} {G:Nat→Nat→Prop} {as:List E} {vals:List Value} (h:dQ P w G as vals):as.length=vals.length∧∀ (k:Nat) (e:E),as[k]?=some e→∃ v,vals[k]?=some v∧iE P w G e v:=by
 induction h with
 | nil=>exact ⟨rfl,fun k e h=>by simp at h⟩
 | @cons e v es vs h1 _ ih=>
   refine ⟨by simp [ih.1],fun k e' h=>?_⟩
   cases k with
   | zero=>simp only [iI,aw] at h; subst h; exact ⟨v,by simp,h1⟩
   | succ k=>simp only [ui] at h ⊢; exact ih.2 k e' h
def ux (n:Nat) (G:Nat→Nat→Prop) (b i:Nat):Prop:=b < n→G b i
theorem WI {w:World} {G:Nat→Nat→Prop} {as:List E} {vals:List Value} (ht:t.ok w) (h:dQ P w G as vals) {m:Nat} (hm:as.length≤m):
  ah P w.heap.size (ux w.heap.size G) ⟨w,fun _=>False,none,fun _ _=>False,t⟩ m (params 0 as) (vals.toArray++zx (m - vals.toArray.size) undef) w (fun _=> []) where
 rep k:=by
  rw [K2,if_pos (iL k),DT]
  cases hk:as[k]? with
  | none=>exact rfl
  | some e=>
    obtain ⟨v,hv,hr⟩:=h.get.2 k e hk
    have hlt:k < vals.length:=(kc.1 hv).1
    have ht:(vals.toArray++zx (m - vals.toArray.size) undef).getD k undef=v:=by
     rw [mL,zr (by simpa using hlt)]
     simp [hv]
    rw [ht]
    have hG:∀ b i,b < w.heap.size→G b i→Gd w.heap.size (ux w.heap.size G) (fun _=> []) b i:=fun b i hb hg=>.inl ⟨hb,fun _=>hg⟩
    simp only [rl]
    cases e<;>first | exact (hr:False).elim | skip
    ·exact rfl
    ·obtain ⟨vs,h1,h2⟩:=hr
     exact ⟨rfl,vs,Flat.mono P _ (fun b i hb hg=>⟨hG b i hb hg,rfl⟩) (bV.refl _ _) (by simp) h1,h2⟩
    ·obtain ⟨b,off,vs,h1,h2,h3⟩:=hr
     exact ⟨rfl,b,off,vs,h1,Flat.mono P _ (fun b i hb hg=>⟨hG b i hb hg,rfl⟩) (bV.refl _ _) (by simp) h2,fun j u hj=>⟨h3 j u hj,.inl (World.block_lt_of_cell? w _ (h3 j u hj))⟩⟩
 dist:=by simp
 nodup:=by simp
 low:=by simp
 below:=Below.refl _ _
 prot _ _ _ h:=h
 same _ h:=h.elim
 oldx _ h:=h.elim
 free _ _ h _ h2:=by omega
 base:=cE _
 size:=by have:=h.get.1; simp; omega
 pinned _ h:=by cases h
 kept _ _ h:=h.elim
 tab:=⟨ht.le,ht⟩
theorem Wk {fn:Func} {tm:Array Value} {w:World} {vs:List Value} (h:oO (fun x v=>(oJ tm x).run P w=.ok v w) fn.results.toList vs):(results fn tm).run P w=.ok (if h:vs.toArray.size=1 then vs.toArray[0] else .tuple vs.toArray) w:=by
 have e:results fn tm=(do let vs←fn.results.mapM (oJ tm); pure (if h:vs.size=1 then vs[0] else .tuple vs)):=by
  unfold results
  congr 2
 have:=akA h
 rw [e]
 simp only [Sem.run_bind,this,Result.andThen_ok]
 rfl
theorem RY {fn:Func} {fd:FD} (h4:gA P fn.results.toList fd.res=true) {w w':World} {G:Nat→Nat→Prop} {m:Nat} {env':Env} {tm':Array Value} {ob':Nat→OB} {res:List E} (hC:ah P w.heap.size (ux w.heap.size G) ⟨w,fun _=>False,none,fun _ _=>False,t⟩ m env' tm' w' ob')
  (hk:mG env' fd.res []=some res):∃ v,(results fn tm').run P w'=.ok v w'∧∃ v_1 rob,Ending.returned v=.returned v_1∧Below w.heap.size w w'∧ke P w w' G res v_1 rob:=by
 simp only [mG,cO,aq] at hk
 obtain ⟨⟨es,ks⟩,hr,hk⟩:=hk
 split at hk
 case h_2=>simp at hk
 rename_i hdb
 simp only [aw] at hk; subst hk
 simp only [au] at hdb
 obtain ⟨vs,rob,i1,i2,i3,i4⟩:=Ll hC fn.results.toList fd.res es ks h4 hr
 refine ⟨_,Wk i1,_,rob,rfl,hC.below,?_⟩
 have hT:=i4 (Gr w.heap.size G rob) (fun b i _ hg=>?_) (fun k _ g _ hB hg i=>.inr ⟨hB,fun lim hl=>absurd (aE.2 ⟨lim,hl⟩) hg⟩) hdb.1
 ·refine ⟨?_,hdb.2,i3 hdb.1,fun b hb=>?_⟩
  ·match es,hdb.2,hT with
   | [e],hb,hT=>
     obtain ⟨v,r,b1,b2,rfl,rfl,k1,⟨rfl,rfl⟩⟩:=hT
     simp only [dJ,List.all_nil,Bool.and_true] at hb
     have:(if h:([v]:List Value).toArray.size=1 then ([v]:List Value).toArray[0] else .tuple ([v]:List Value).toArray)=v:=by simp
     rw [jf] at k1
     rw [this,jf]
     cases e with
     | v T x=>exact k1
     | own wr ed T o xs=>exact k1
     | _=>simp [E.back] at hb
   | [],hb,hT=>
     obtain ⟨rfl,rfl⟩:=hT
     exact ⟨by simp,#[],rfl,rfl,rfl⟩
   | e1::e2::es,hb,hT=>
     have hb':∀ e∈(e1::e2::es),∀ s,leads s e=false:=by
      intro e he s
      have:=fj.1 hb e he
      cases e<;>first | rfl | (exfalso; simp [E.back] at this; done)
     have hl:vs.length≠1:=by
      obtain ⟨v,r,b1,b2,rfl,_,_,k⟩:=hT
      obtain ⟨v',r',_,_,rfl,_,_,_⟩:=k
      simp
     have:(if h:vs.toArray.size=1 then vs.toArray[0] else .tuple vs.toArray)=.tuple vs.toArray:=by
      rw [dif_neg (by simpa using hl)]
     rw [this]
     exact ⟨hb',vs.toArray,rfl,by simpa using hT⟩
  ·obtain ⟨l,hb⟩:=aE.1 hb
   obtain ⟨k,_,hq⟩:=i2 _ hb
   exact hC.low k b (aE.2 ⟨_,hq⟩)
 ·rcases hg with hg | ⟨hg1,hg0,hg2⟩
  ·exact .inl ⟨hg.1,hg.2 hg.1⟩
  ·refine .inr ⟨hg1,fun lim hl=>?_⟩
   obtain ⟨k,_,hq⟩:=i2 _ hl
   exact hg2 k lim hq
theorem RX {cl:az} (hgood:Good P t cl) (N:Nat) {f:FuncId} {fd:FD} (hok:okF P f fd=true) {as res:List E} (hlen:as.length=fd.nargs) (hnl:fd.lend=false) (h:exec cl N fd.body (params 0 as) (ag fd)=some res) (w:World) (G:Nat→Nat→Prop) (vals:List Value) (ht:t.ok w) (hA:dQ P w G as vals):
  fi P f∧Calls P f vals.toArray w fun e w'=>∃ v rob,e=.returned v∧Below w.heap.size w w'∧ke P w w' G res v rob:=by
 unfold okF at hok
 split at hok
 case h_2=>simp at hok
 rename_i fn hfn
 simp only [au,du,decide_eq_true_eq] at hok
 obtain ⟨⟨⟨⟨h1,h2⟩,h3⟩,h4⟩,_⟩:=hok
 split at h2
 case h_2=>simp at h2
 rename_i c hc
 refine ⟨⟨fn,hfn,h1,by rw [hc]; rfl⟩,calls_of_wp hfn hc ?_⟩
 refine vt hgood N fd.body c _ _ w _ _ _ h2 (.inl rfl) (WI ht hA (by omega)) h (fun e env' tm' w' ob' hC hk=>?_)
 have key:mG env' fd.res []=some res→∃ v,(results fn tm').run P w'=.ok v w'∧∃ v_1 rob,Ending.returned v=.returned v_1∧Below w.heap.size w w'∧ke P w w' G res v_1 rob:=by
  intro hk; exact RY h4 hC hk
 unfold ag at hk; rw [hnl] at hk
 cases e with
 | exit id=>simp at hk
 | normal=>exact ⟨rfl,key hk⟩
 | ret=>exact ⟨rfl,key hk⟩
theorem alQ {w:World} {G:Nat→Nat→Prop} {T:Ty} {o:ax} {x:den T} {v:Value} {lob:OB} {as:List E} {vals:List Value} {m:Nat} (htt:t.ok w) (htb:∀ b∈blocks lob,t.tb≤b) (hn:ej T=true) (hL:zC P w G T o x v lob) (hnd:(blocks lob).Nodup) (hlt:∀ b∈blocks lob,b < w.heap.size)
  (hG:∀ b lim i,(b,lim)∈lob→G b i→i < lim) (h:dQ P w G as vals) (ha:as.all tB=true) (hm:as.length+1≤m):
  ah P t.tb (fun b i=>j0 w lob b→G b i) ⟨w,j0 w lob,some v,fun b i=>b < w.heap.size∧G b i,t⟩ m (params 0 (.loc T o x::as)) ((v::vals).toArray++zx (m - (v::vals).toArray.size) undef) w (fun k=>if k=0 then lob else []) where
 rep k:=by
  have hGd:∀ b i,b < w.heap.size→G b i→Gd t.tb (fun b i=>j0 w lob b→G b i) (fun k=>if k=0 then lob else []) b i:=fun b i _ hg=>by
   rcases kM b t.tb with hb | hb
   ·exact .inl ⟨hb,fun _=>hg⟩
   refine .inr ⟨hb,fun _=>hg,fun j lim hj=>?_⟩
   by_cases h0:j=0
   ·simp only [h0,if_true] at hj; exact hG b lim i hj hg
   ·simp [h0] at hj
  rw [K2,if_pos (iL k),DT]
  cases k with
  | zero=>
    obtain ⟨b,cur,e,ob',h1,h2,h3,h4⟩:=hL
    simp only [iI,rl,if_true]
    have ht:((v::vals).toArray++zx (m - (v::vals).toArray.size) undef).getD 0 undef=v:=by
     rw [mL,zr (by simp)]
     simp
    rw [ht]
    exact ⟨b,cur,e,ob',h1,htb b (by rw [h4]; simp),h2,Flat.mono P T (fun b i hb hg=>⟨hGd b i hb hg,rfl⟩) (bV.refl _ _) (fun _ _=>rfl) (Flat.lift P T hn (fun g hg=>htb g (by rw [h4]; simp [hg])) h3),h4⟩
  | succ k=>
    simp only [ui,Nat.add_eq_zero_iff,Nat.one_ne_zero,and_false,if_false]
    cases hk:as[k]? with
    | none=>exact rfl
    | some e=>
      obtain ⟨u,hv,hr⟩:=h.get.2 k e hk
      have hlt:k < vals.length:=(kc.1 hv).1
      have ht:((v::vals).toArray++zx (m - (v::vals).toArray.size) undef).getD (k+1) undef=u:=by
       rw [mL,zr (by simp; omega)]
       simp [hv]
      rw [ht]
      have hae:=fj.1 ha e (List.mem_of_getElem? hk)
      simp only [rl]
      cases e<;>simp only [tB,eo] at hae
      ·exact rfl
      ·obtain ⟨vs,h1,h2⟩:=hr
       exact ⟨rfl,vs,Flat.mono P _ (fun b i hb hg=>⟨hGd b i hb hg,rfl⟩) (bV.refl _ _) (by simp) (Flat.down P _ hae htt.le h1),h2⟩
 dist j k b hj hk:=by
  by_cases h1:j=0<;>by_cases h2:k=0
  ·rw [h1,h2]
  ·simp [h2] at hk
  ·simp [h1] at hj
  ·simp [h1] at hj
 nodup k:=by
  by_cases h1:k=0
  ·simp only [h1,if_true]; exact hnd
  ·simp [h1]
 low k b hb:=by
  by_cases h1:k=0
  ·simp only [h1,if_true] at hb; exact ⟨htb b hb,hlt b hb⟩
  ·simp [h1] at hb
 below:=Below.refl _ _
 prot k b hb hx:=by
  by_cases h1:k=0
  ·simp only [h1,if_true] at hb; exact hx.2 hb
  ·simp [h1] at hb
 same _ _:=rfl
 oldx _ h:=h.1
 free _ _ _ h h2:=absurd h2 h
 base:=htt.le
 size:=by have:=h.get.1; simp; omega
 pinned u hu:=by
  cases hu
  rw [mL,zr (by simp)]
  simp
 tab:=⟨cE _,htt⟩
 kept b i hb:=by
  rcases kM b t.tb with hx | hx
  ·exact ⟨hb.1,.inl ⟨hx,fun _=>hb.2⟩,rfl⟩
  refine ⟨hb.1,.inr ⟨hx,fun _=>hb.2,fun j lim hj=>?_⟩,rfl⟩
  by_cases h0:j=0
  ·simp only [h0,if_true] at hj; exact hG b lim i hj hb.2
  ·simp [h0] at hj
theorem ah0 {env:Env} {res:List RV} {ks:List Nat} {l:List E} (h:mG env res ks=some l):∃ qs,tM env res=some (l,qs)∧distinct (ks++qs)=true∧l.all E.back=true:=by
 simp only [mG,aq] at h
 obtain ⟨⟨es,qs⟩,hr,hk⟩:=h
 split at hk
 case h_2=>simp at hk
 rename_i hdb
 simp only [aw] at hk; subst hk
 simp only [au] at hdb
 exact ⟨qs,hr,hdb.1,hdb.2⟩
theorem Mh {w':World} {G:Nat→Nat→Prop} {B:Nat}:∀ {es:List E} {vs:List Value} {rob:OB},es.all E.back=true→dX (cD P w' G B #[] []) es vs rob→dX (cD P w' G 0 #[] []) es vs rob
 | [],_,_,_,h=>h
 | e::es,_,_,hb,h=>by
   obtain ⟨v,r,b1,b2,rfl,rfl,k1,k2⟩:=h
   simp only [dJ,au] at hb
   refine ⟨v,r,b1,b2,rfl,rfl,?_,Mh hb.2 k2⟩
   cases e with
   | v T x=>
     obtain ⟨h0,vs,h1,h2⟩:=k1
     exact ⟨h0,vs,Flat.down P T hb.1 (iL _) h1,h2⟩
   | own wr ed T o xs=>
     simp only [E.back,au] at hb
     exact Flat.down P (.sl T) hb.1.1 (iL _) k1
   | _=>simp [E.back] at hb
theorem ahZ {w':World} {G:Nat→Nat→Prop} {B:Nat} {es:List E} {vs:List Value} {rob:OB} (hb:es.all E.back=true) (hT:dX (cD P w' G B #[] []) es vs rob):
  bn P w' G B #[] [] (eH es) (if h:vs.toArray.size=1 then vs.toArray[0] else .tuple vs.toArray) rob:=by
 match es,hb,hT with
 | [e],hb,hT=>
   obtain ⟨v,r,b1,b2,rfl,rfl,k1,⟨rfl,rfl⟩⟩:=hT
   simp only [dJ,List.all_nil,Bool.and_true] at hb
   have:(if h:([v]:List Value).toArray.size=1 then ([v]:List Value).toArray[0] else .tuple ([v]:List Value).toArray)=v:=by simp
   rw [jf,this]
   cases e with
   | v T x=>exact k1
   | own wr ed T o xs=>exact k1
   | _=>simp [E.back] at hb
 | [],hb,hT=>
   obtain ⟨rfl,rfl⟩:=hT
   exact ⟨by simp,#[],rfl,rfl,rfl⟩
 | e1::e2::es,hb,hT=>
   have hb':∀ e∈(e1::e2::es),∀ s,leads s e=false:=by
    intro e he s
    have:=fj.1 hb e he
    cases e<;>first | rfl | (exfalso; simp [E.back] at this; done)
   have hl:vs.length≠1:=by
    obtain ⟨v,r,b1,b2,rfl,_,_,k⟩:=hT
    obtain ⟨v',r',_,_,rfl,_,_,_⟩:=k
    simp
   rw [dif_neg (by simpa using hl)]
   exact ⟨hb',vs.toArray,rfl,by simpa using hT⟩
theorem aes {fn:Func} {fd:FD} (h4:gA P fn.results.toList fd.res=true) {w w':World} {G:Nat→Nat→Prop} {m:Nat} {env':Env} {tm':Array Value} {ob':Nat→OB} {res:List E} {v:Value} {lob:OB}
  (ht:t.ok w) (htb:∀ b∈blocks lob,t.tb≤b) (hC:ah P t.tb (fun b i=>j0 w lob b→G b i) ⟨w,j0 w lob,some v,fun b i=>b < w.heap.size∧G b i,t⟩ m env' tm' w' ob') {T:Ty} {o:ax} {x:den T} (hn:ej T=true) (hl:look env' 0=.loc T o x)
  (hk:mG env' fd.res [0]=some res):∃ u,(results fn tm').run P w'=.ok u w'∧∃ rv lob' rob,Ending.returned u=.returned rv∧uf P w w' G lob lob' T o x v res rv rob:=by
 obtain ⟨ks,hr,hdis,hback⟩:=ah0 hk
 obtain ⟨vs,rob,i1,i2,i3,i4⟩:=Ll hC fn.results.toList fd.res res ks h4 hr
 obtain ⟨_,hdk,h0k⟩:=B7 [0] ks hdis
 have h0:0∉ks:=h0k 0 (by simp)
 have hr0:=hC.rep 0
 rw [hl] at hr0
 obtain ⟨b0,cur,e,ob2,k1,_,k3,k4,k5⟩:=hr0
 have hv:v=.pointer (some ⟨b0,0,none⟩):=by rw [←hC.pinned v rfl]; exact k1
 have hmem:∀ b lim,(b,lim)∈ob' 0++rob→∃ k,(b,lim)∈ob' k:=by
  intro b lim h
  rcases dD.1 h with h | h
  ·exact ⟨0,h⟩
  ·obtain ⟨k,_,hq⟩:=i2 _ h; exact ⟨k,hq⟩
 have hGl:∀ b i,Gd t.tb (fun b i=>j0 w lob b→G b i) ob' b i→Gl w G lob (ob' 0++rob) b i:=by
  intro b i h
  rcases h with ⟨h,h1⟩ | ⟨_,h1,h2⟩
  ·have hb:b∉blocks lob:=fun hm=>by have:=htb b hm; omega
   have hs:=Nat.lt_of_lt_of_le h ht.le
   exact .inl ⟨hs,hb,h1 ⟨hs,hb⟩⟩
  ·by_cases hx:j0 w lob b
   ·exact .inl ⟨hx.1,hx.2,h1 hx⟩
   ·refine .inr ⟨?_,fun lim hl=>?_⟩
    ·by_cases hb:b∈blocks lob
     ·exact .inr hb
     ·exact .inl (by
       rcases kM b w.heap.size with h | h
       ·exact absurd ⟨h,hb⟩ hx
       ·exact h)
    ·obtain ⟨k,hq⟩:=hmem b lim hl; exact h2 k lim hq
 have hnew:∀ b∈blocks (ob' 0++rob),b < w'.heap.size∧(b∈blocks lob∨w.heap.size≤b):=by
  intro b hb
  obtain ⟨l,hb⟩:=aE.1 hb
  obtain ⟨k,hq⟩:=hmem b l hb
  have hq':=aE.2 ⟨_,hq⟩
  refine ⟨(hC.low k b hq').2,?_⟩
  have hx:=hC.prot k b hq'
  by_cases hb:b∈blocks lob
  ·exact .inl hb
  ·right
   rcases kM b w.heap.size with h | h
   ·exact absurd ⟨h,hb⟩ hx
   ·exact h
 have hT:=i4 (Gl w G lob (ob' 0++rob)) (fun b i _ hg=>hGl b i hg) (fun k hk g hg _ hgr i=>by
  have hx:=hC.prot k g hg
  refine .inr ⟨?_,fun lim hl=>?_⟩
  ·by_cases hb:g∈blocks lob
   ·exact .inr hb
   ·left
    rcases kM g w.heap.size with h | h
    ·exact absurd ⟨h,hb⟩ hx
    ·exact h
  ·exfalso
   rcases dD.1 hl with hl | hl
   ·exact h0 (hC.dist 0 k g (aE.2 ⟨_,hl⟩) hg▸hk)
   ·exact hgr (aE.2 ⟨_,hl⟩)) hdk
 refine ⟨_,Wk i1,_,ob' 0,rob,rfl,hC.below.os,hC.below.tape,hC.below.output,hC.below.size,hC.below.drawn,fun b hb hn=>hC.same b ⟨hb,hn⟩,fun b i hb hg=>?_,?_,ahZ hback (Mh hback hT),hback,?_,hnew⟩
 ·obtain ⟨_,h2,h3⟩:=hC.kept b i ⟨hb,hg⟩
  refine ⟨h3,fun lim hl=>?_⟩
  obtain ⟨k,hq⟩:=hmem b lim hl
  rcases h2 with ⟨h2,_⟩ | ⟨_,_,h2⟩
  ·have:=(hC.low k b (aE.2 ⟨_,hq⟩)).1; omega
  ·exact h2 k lim hq
 ·exact ⟨b0,cur,e,ob2,hv,k3,Flat.mono P T (fun b i _ h=>⟨hGl b i h,rfl⟩) (bV.refl _ _) (fun _ _=>rfl) (Flat.down P T hn (iL _) k4),k5⟩
 ·rw [eW,jh]
  refine ⟨hC.nodup 0,i3 hdk,fun a ha b hb hab=>?_⟩
  subst hab
  obtain ⟨l,hb⟩:=aE.1 hb
  obtain ⟨k,hk,hq⟩:=i2 _ hb
  exact h0 (hC.dist 0 k a ha (aE.2 ⟨_,hq⟩)▸hk)
theorem RW {cl:az} (hgood:Good P t cl) (N:Nat) {f:FuncId} {fd:FD} (hok:okF P f fd=true) {T:Ty} {o:ax} {x:den T} {as res:List E} (hlen:as.length+1=fd.nargs) (hnl:fd.lend=true) (h:exec cl N fd.body (params 0 (.loc T o x::as)) (ag fd)=some res):
  fi P f∧
  ∀ (w:World) (G:Nat→Nat→Prop) (v:Value) (vals:List Value) (lob:OB),ej T=true→t.ok w→(∀ b∈blocks lob,t.tb≤b)→zC P w G T o x v lob→(blocks lob).Nodup→(∀ b∈blocks lob,b < w.heap.size)→(∀ b lim i,(b,lim)∈lob→G b i→i < lim)→
    dQ P w G as vals→as.all tB=true→
    Calls P f (v::vals).toArray w fun e w'=>∃ (T':Ty) (o':ax) (x':den T') (rs:List E) (rv:Value) (lob' rob:OB),res=.loc T' o' x'::rs∧e=.returned rv∧uf P w w' G lob lob' T' o' x' v rs rv rob:=by
 unfold okF at hok
 split at hok
 case h_2=>simp at hok
 rename_i fn hfn
 simp only [au,du,decide_eq_true_eq] at hok
 obtain ⟨⟨⟨⟨h1,h2⟩,h3⟩,h4⟩,h5⟩:=hok
 split at h2
 case h_2=>simp at h2
 rename_i c hc
 have hz:kD fd.body=true:=by rw [hnl] at h5; simpa using h5
 -- what comes back has the record in front
 have key:∀ e env',ag fd e env'=some res→e≠.exit 0→∃ (T':Ty) (o':ax) (x':den T') (rs:List E),res=.loc T' o' x'::rs∧look env' 0=.loc T' o' x'∧mG env' fd.res [0]=some rs∧ej T'=true:=by
  intro e env' hk _
  have hk':(match look env' 0 with
   | .loc T o x=>(match ej T with | true=>(mG env' fd.res [0]).bind fun l=>some (.loc T o x::l) | false=>none)
   | _=>none)=some res:=by
   unfold ag at hk; rw [hnl] at hk
   cases e with
   | exit id=>simp at hk
   | normal=>exact hk
   | ret=>exact hk
  split at hk'
  ·rename_i T' o' x' hl
   split at hk'
   ·simp only [aq,aw] at hk'
    obtain ⟨l,h1,rfl⟩:=hk'
    exact ⟨T',o',x',l,rfl,hl,h1,by assumption⟩
   ·simp at hk'
  ·simp at hk'
 refine ⟨⟨fn,hfn,h1,by rw [hc]; rfl⟩,fun w G v vals lob hn0 ht htb hL hnd hlt hG hA hla=>calls_of_wp hfn hc ?_⟩
 have hsz:=hA.get.1
 refine vt hgood N fd.body c _ _ w _ _ _ h2 (.inr hz) (alQ ht htb hn0 hL hnd hlt hG hA hla (m:=fn.ntmps) (by omega)) h (fun e env' tm' w' ob' hC hk=>?_)
 have fin:∀ e,ag fd e env'=some res→e≠.exit 0→∃ u,(results fn tm').run P w'=.ok u w'∧∃ (T':Ty) (o':ax) (x':den T') (rs:List E) (rv:Value) (lob' rob:OB),res=.loc T' o' x'::rs∧Ending.returned u=.returned rv∧uf P w w' G lob lob' T' o' x' v rs rv rob:=by
  intro e hk he
  obtain ⟨T',o',x',rs,k1,k2,k3,kn⟩:=key e env' hk he
  obtain ⟨u,k4,rv,lob',rob,k5,k6⟩:=aes h4 ht htb hC kn k2 k3
  exact ⟨u,k4,T',o',x',rs,rv,lob',rob,k1,k5,k6⟩
 cases e with
 | exit id=>unfold ag at hk; simp at hk
 | normal=>exact ⟨rfl,fin _ hk (by simp)⟩
 | ret=>exact ⟨rfl,fin _ hk (by simp)⟩
theorem VL {w:World} {G:Nat→Nat→Prop} {as:List E} {vals:List Value} (h:dQ P w G as vals):kx as=false:=by
 cases h with
 | nil=>rfl
 | @cons e v es vs h1 _=>cases e<;>first | rfl | exact (h1:False).elim
theorem uy {tb:Table} {pr:mO} (N:Nat) (htb:∀ f fd,pr f=none→tb f=some fd→okF P f fd=true) (hpr:Good P t (.of fun f as=>(pr f).bind fun p=>p as)):∀ D,Good P t (bD tb pr N D)
 | 0=>⟨fun f as res h=>by simp [bD,az.of] at h,fun f e T xs res h=>by simp [bD,az.of] at h,fun f T o x as res h=>by simp [bD,az.of] at h,fun f e T xs A C gf res h=>by simp [bD,az.of] at h,fun f e T xs A C gf res h=>by simp [bD,az.of] at h,fun f t e s x res h=>by simp [bD,az.of] at h,fun f t e s res h=>by simp [bD,az.of] at h⟩
 | D+1=>⟨fun f as res h w G vals ht hA=>by
   simp only [bD,az.of] at h
   split at h
   ·rename_i p hp
    exact hpr.call f as res (by simp only [az.of,hp,ar]; exact h) w G vals ht hA
   ·rename_i hp
    split at h
    ·simp at h
    ·split at h
     ·rename_i fd hfd
      split at h
      ·rename_i hl _
       split at h
       ·rename_i hd
        rw [VL hA] at hd
        exact RX (uy N htb hpr D) N (htb f fd hp hfd) hl (by simpa using hd) h w G vals ht hA
       ·simp at h
      ·simp at h
     ·simp at h,fun f e T xs res h=>by
   simp only [bD,az.of] at h
   split at h
   ·rename_i p hp
    exact hpr.wr f e T xs res (by simp only [az.of,hp,ar]; exact h)
   ·simp [gz] at h,fun f T o x as res h=>by
   simp only [bD,az.of] at h
   split at h
   ·rename_i p hp
    exact hpr.lend f T o x as res (by simp only [az.of,hp,ar]; exact h)
   ·rename_i hp
    split at h
    ·simp at h
    ·split at h
     ·rename_i fd hfd
      split at h
      ·rename_i hl _
       split at h
       ·rename_i hd
        exact RW (uy N htb hpr D) N (htb f fd hp hfd) (by simpa using hl) (by simpa [kx] using hd) h
       ·simp at h
      ·simp at h
     ·simp at h,fun f e T xs A C gf res h=>by
   simp only [bD,az.of] at h
   split at h
   ·rename_i p hp
    exact hpr.bU f e T xs A C gf res (by simp only [az.of,hp,ar]; exact h)
   ·simp [gz] at h,fun f e T xs A C gf res h=>by
   simp only [bD,az.of] at h
   split at h
   ·rename_i p hp
    exact hpr.iX f e T xs A C gf res (by simp only [az.of,hp,ar]; exact h)
   ·simp [gz] at h,fun f t e s x res h=>by
   simp only [bD,az.of] at h
   split at h
   ·rename_i p hp
    exact hpr.iC f t e s x res (by simp only [az.of,hp,ar]; exact h)
   ·simp [gz] at h,fun f t e s res h=>by
   simp only [bD,az.of] at h
   split at h
   ·rename_i p hp
    exact hpr.jJ f t e s res (by simp only [az.of,hp,ar]; exact h)
   ·simp [gz] at h⟩
theorem Dk {n:FuncId} {fd:FD} {N:Nat} {base:az} (hb:Good P t base) (hok:okF P n fd=true):∀ m,Good P t (recC n fd N base m)
 | 0=>hb
 | m+1=>⟨fun f as res h w G vals ht hA=>by
   simp only [recC,az.of] at h
   split at h
   ·rename_i hf _
    subst hf
    split at h
    ·simp at h
    ·split at h
     ·rename_i hl _
      split at h
      ·rename_i hd
       rw [VL hA] at hd
       exact RX (Dk hb hok m) N hok hl (by simpa using hd) h w G vals ht hA
      ·simp at h
     ·simp at h
   ·exact hb.call f as res h w G vals ht hA,fun f e T xs res h=>by
   simp only [recC,az.of] at h
   split at h
   ·simp [gz] at h
   ·exact hb.wr f e T xs res h,fun f T o x as res h=>by
   simp only [recC,az.of] at h
   split at h
   ·rename_i hf _
    subst hf
    split at h
    ·simp at h
    ·split at h
     ·rename_i hl _
      split at h
      ·rename_i hd
       exact RW (Dk hb hok m) N hok (by simpa using hl) (by simpa [kx] using hd) h
      ·simp at h
     ·simp at h
   ·exact hb.lend f T o x as res h,fun f e T xs A C gf res h=>by
   simp only [recC,az.of] at h
   split at h
   ·simp [gz] at h
   ·exact hb.bU f e T xs A C gf res h,fun f e T xs A C gf res h=>by
   simp only [recC,az.of] at h
   split at h
   ·simp [gz] at h
   ·exact hb.iX f e T xs A C gf res h,fun f t e s x res h=>by
   simp only [recC,az.of] at h
   split at h
   ·simp [gz] at h
   ·exact hb.iC f t e s x res h,fun f t e s res h=>by
   simp only [recC,az.of] at h
   split at h
   ·simp [gz] at h
   ·exact hb.jJ f t e s res h⟩
end
end Go.Fw
/- The glue: a call that the machine says is true. -/
namespace Go.Fw
open Go Go.RowKit
def isTrue:Option (List E)→Bool
 | some [.v .bool true]=>true
 | _=>false
theorem abd {x:Option (List E)} (h:isTrue x=true):x=some [.v .bool true]:=by
 unfold isTrue at h
 split at h
 ·rfl
 ·simp at h
theorem XL {P:Program} {t:fM} {cl:az} {f:FuncId} {es:List E} {vals:List Value} {w:World} {G:Nat→Nat→Prop} (hg:Good P t cl) (ht:t.ok w) (h:isTrue (cl f es)=true) (hA:dQ P w G es vals):
  Calls P f vals.toArray w (fun e w'=>e=.returned (.bool true)∧Go.RowKit.Below w.heap.size w w'):=by
 refine Calls.mono (hg.call f es _ (abd h) w G vals ht hA).2 ?_
 rintro e w' ⟨v,rob,rfl,hb,hres⟩
 obtain ⟨rs,rfl,h1⟩:=hres.eZ rfl
 have h2:=h1 w' (fun _ _=>True) 0
 unfold Flat at h2
 obtain ⟨rfl,_⟩:=h2
 exact ⟨rfl,hb.kit⟩
theorem XK {P:Program} {cl:az} {f:FuncId} {es:List E} {vals:List Value} {w:World} {G:Nat→Nat→Prop} (hg:Good P fM.nil cl) (h:isTrue (cl f es)=true) (hA:dQ P w G es vals):
  Calls P f vals.toArray w (fun e w'=>e=.returned (.bool true)∧Go.RowKit.Below w.heap.size w w'):=XL hg (fM.VV w) h hA
theorem DB {k:IntKind} {m:Int} (h:(Lit.int k m).wf=true):fT k m:=by
 unfold fT; simpa only [Lit.wf,au,decide_eq_true_eq] using h
theorem asQ {P:Program} {w:World} {G:Nat→Nat→Prop} {k:IntKind} {m:Int} (h:fT k m):iE P w G (.v (.int k) m) (.int k m):=⟨[.int k m],by unfold Flat; exact ⟨rfl,h,rfl⟩,rfl⟩
theorem asP {P:Program} {w:World} {G:Nat→Nat→Prop} (b:Bool):iE P w G (.v .bool b) (.bool b):=⟨[.bool b],by unfold Flat; exact ⟨rfl,rfl⟩,rfl⟩
end Go.Fw
/- slices.Clone, at any type of elements: its contract, proved from its body (which asks whether a slice is nil: the machine's values do not say). -/
namespace Go.Fw
open Go Go.RowKit
def kl:az:=.of fun _ _=>none
theorem BL {P:Program} {t:fM}:Good P t kl:=⟨fun f es res h=>by simp [kl,az.of] at h,fun f e T xs res h=>by simp [kl,az.of] at h,fun f T o x as res h=>by simp [kl,az.of] at h,fun f e T xs A C gf res h=>by simp [kl,az.of] at h,fun f e T xs A C gf res h=>by simp [kl,az.of] at h,fun f t e s x res h=>by simp [kl,az.of] at h,fun f t e s res h=>by simp [kl,az.of] at h⟩
def Q5 (e:TypeId) (T:Ty):AC:=.aa [0] [{dst:=some 2,op:=.ab (.nil e T)}]
def uQ (e:TypeId) (T:Ty):AC:=.cond (.t 4) (.seq (.aa [] [{dst:=some 2,op:=.ab (.nil e T)}]) .ret) .skip
def HQ (e:TypeId) (T:Ty) (lim:Nat):AC:=.seq (.aa [0] [{dst:=some 5,op:=.buildSlice e T []},{dst:=some 6,op:=.mv (.t 0)},{dst:=some 7,op:=.append e T lim (.t 5) (.t 6)},{dst:=some 2,op:=.ab (.t 7)}]) .ret
def BM:FD:={nargs:=1,body:=.skip,res:=[.t 2]}
def o6 (e:TypeId) (T:Ty) (lim:Nat):KE (List E):=mI (fun env=>exec kl 0 (HQ e T lim) env (ag BM)) (ag BM)
def uP (e:TypeId) (T:Ty) (b:Bool) (xs:List (den T)):Env:=[(4,.v .bool b),(3,.v (.sl T) xs),(0,.v (.sl T) xs),(2,.own true e T .no [])]
def Q9 (P:Program) (f:FuncId) (e:TypeId) (T:Ty) (lim:Nat):Bool:=
 match P.funcs[f]? with
 | some fn => !(fn.name == "runtime.NumGoroutine") && decide (5 ≤ fn.ntmps) && gA P fn.results.toList [.t 2] && (match fn.body with
   | some (.seq c0 (.seq (.seq (.region _ ops false) cif) cr))=>fN P fn.ntmps c0 (Q5 e T)&&fN P fn.ntmps cif (uQ e T)&&fN P fn.ntmps cr (HQ e T lim)&&
     (match ops.toList with
      | [o1,o2]=>kZ P fn.ntmps o1 {dst:=some 3,op:=.mv (.t 0)}&&o1.guard.isNone&&o2.guard.isNone&&decide (o2.dst=some 4)&&
       (match o2.op with | .binOp .eql t (.tmp 3) (.const (.slice none 0 0)) _=>tR P t e | _=>false)
      | _=>false)
   | _=>false)
 | none=>false
theorem as0 {P:Program} {f:FuncId} {e:TypeId} {T:Ty} {lim:Nat} (hok:Q9 P f e T lim=true)
  (e1:exec kl 0 (uQ e T) (uP e T true []) (o6 e T lim)=some [.own true e T .no []])
  (e2:∀ xs:List (den T),exec kl 0 (uQ e T) (uP e T false xs) (o6 e T lim)=if ([]:List (den T)).length+xs.length≤lim then some [.own true e T .no xs] else none)
  (xs:List (den T)) (hx:xs.length≤lim) (w:World) (G:Nat→Nat→Prop) (vals:List Value) (hA:dQ P w G [.v (.sl T) xs] vals):
  fi P f∧Calls P f vals.toArray w fun en w'=>∃ v rob,en=.returned v∧Below w.heap.size w w'∧ke P w w' G [.own true e T .no xs] v rob:=by
 unfold Q9 at hok
 split at hok
 case h_2=>simp at hok
 rename_i fn hfn
 simp only [au,du,decide_eq_true_eq] at hok
 obtain ⟨⟨⟨h1,h2⟩,h3⟩,h4⟩:=hok
 split at h4
 case h_2=>simp at h4
 rename_i c0 id1 ops cif cr hc
 simp only [au] at h4
 obtain ⟨⟨⟨k0,k1⟩,k2⟩,k3⟩:=h4
 split at k3
 case h_2=>simp at k3
 rename_i o1 o2 hops
 simp only [au,Option.isNone_iff_eq_none,decide_eq_true_eq] at k3
 obtain ⟨⟨⟨⟨j1,j2⟩,j3⟩,j4⟩,j5⟩:=k3
 split at j5
 case h_2=>simp at j5
 rename_i t yt hop
 have hu:=Du j5
 have hops2:ops=#[o1,o2]:=uB hops
 subst hops2
 refine ⟨⟨fn,hfn,h1,by rw [hc]; rfl⟩,calls_of_wp hfn hc ?_⟩
 have hC0:=WI (fM.VV w) hA (m:=fn.ntmps) (by simp; omega)
 refine wp_seq (vt (R:=Env) (r:=[(2,.own true e T .no []),(0,.v (.sl T) xs)]) BL 0 (Q5 e T) c0 _ _ w _ (fun ex env=>match ex with | .normal=>some env | _=>none) _ k0 (.inl rfl) hC0 rfl (fun ex env' tm' w' ob' hC hk=>?_))
 cases ex<;>simp only [aw] at hk<;>first | (exfalso; simp at hk; done) | skip
 subst hk
 refine wp_seq (wp_seq (wp_region ?_))
 show wpOps P #[o1,o2] _ [0,1] _ w'
 have w1:Region.wanted o1 (yielded #[o1,o2] tm')=true:=by simp [Region.wanted,j2]
 simp only [wpOps]
 show (if Region.wanted o1 (yielded #[o1,o2] tm')=true then _ else _)
 rw [if_pos w1]
 refine .inl (Dw (R:=Env) (r:=[(3,.v (.sl T) xs),(2,.own true e T .no []),(0,.v (.sl T) xs)]) (K:=some) BL hC (fun env2 tm2 w2 ob2 hC2 hk2=>?_) j1 (.inl rfl) rfl)
 simp only [aw] at hk2
 subst hk2
 show (if Region.wanted o2 (yielded #[o1,o2] tm2)=true then _ else _)
 rw [if_pos (by simp [Region.wanted,j3])]
 have hr:=hC2.rep 3
 obtain ⟨_,vs,f1,f2⟩:=hr
 unfold Flat at f1
 obtain ⟨_,A,cp,rfl,hle,hmx,hcells⟩:=f1
 have hv:tm2.getD 3 undef=.slice A xs.length cp:=f2
 -- what the comparison says
 have fin:∀ b,b=A.isNone→exec kl 0 (uQ e T) (uP e T b xs) (o6 e T lim)=some [.own true e T .no xs]:=by
  intro b hb
  cases b with
  | true=>
    have hx0:xs=[]:=by
     rcases hcells with h | ⟨b,off,cells,hA',_⟩
     ·exact h
     ·rw [hA'] at hb; simp at hb
    subst hx0; exact e1
  | false=>rw [e2 xs,if_pos (by simpa using hx)]
 have hrun:(execOp ({tmps:=tm2,defers:=[]}:Act).eval o2).run P w2=.ok (.value (.bool A.isNone)) w2:=by
  have ev:({tmps:=tm2,defers:=[]}:Act).eval (.tmp 3)=.slice A xs.length cp:=by
   rw [←hv]; rfl
  have e0:execOp ({tmps:=tm2,defers:=[]}:Act).eval o2=(do pure (.value (←(do eqGuard .eql t (.tmp 3) (.const (.slice none 0 0)) (({tmps:=tm2,defers:=[]}:Act).eval (.tmp 3)) (.slice none 0 0); binOp .eql t (({tmps:=tm2,defers:=[]}:Act).eval (.tmp 3)) (.slice none 0 0)))):Sem Next):=by
   unfold execOp; rw [hop]; rfl
  rw [e0,ev]
  have b0:binOp .eql t (.slice A xs.length cp) (.slice none 0 0)=(do pure (.bool (←Op.equal t (.slice A xs.length cp) (.slice none 0 0))):Sem Value):=rfl
  have g0:(eqGuard .eql t (.tmp 3) (.const (.slice none 0 0)) (.slice A xs.length cp) (.slice none 0 0)).run P w2=.ok () w2:=rfl
  simp only [Sem.run_bind,g0,Result.andThen_ok,b0,run_equal_slice_nil w2 t e A xs.length cp hu,Sem.run_pure]
 refine .inl (bp hrun ?_)
 have h4n:∀ k,o2.dst=some k→k < fn.ntmps:=by intro k hk; rw [j4] at hk; have:=Option.some.inj hk; exact this▸h2
 obtain ⟨ob3,hC3⟩:=ah.aM (e:=.v .bool A.isNone) hC2 (fun k hk=>⟨h4n k hk,.inl rfl⟩) (aO.refl w2) (lf _ _ _) ({tmps:=tm2,defers:=[]}:Act) rfl
 have hC4:∃ ob4,ah P w.heap.size (ux w.heap.size G) ⟨w,fun _=>False,none,fun _ _=>False,fM.nil⟩ fn.ntmps (uP e T A.isNone xs) (({tmps:=tm2,defers:=[]}:Act).put o2.dst (.bool A.isNone)).tmps w2 ob4:=by
  refine ah.ext hC3 (fun k=>?_)
  rw [j4]
  have hp:aM [(3,.v (.sl T) xs),(2,.own true e T .no []),(0,.v (.sl T) xs)] (some 4) (.v .bool A.isNone)=[(4,.v .bool A.isNone),(3,.v (.sl T) xs),(2,.own true e T .no []),(0,.v (.sl T) xs)]:=rfl
  rw [hp]
  simp only [uP,aP]
  by_cases q4:4=k
  ·subst q4; rfl
  ·by_cases q3:3=k
   ·subst q3; rfl
   ·by_cases q2:2=k
    ·subst q2; rfl
    ·by_cases q0:0=k
     ·subst q0; rfl
     ·simp only [if_neg q4,if_neg q3,if_neg q2,if_neg q0]
 obtain ⟨ob4,hC4⟩:=hC4
 refine vt BL 0 (uQ e T) cif _ (({tmps:=tm2,defers:=[]}:Act).put o2.dst (.bool A.isNone)) w2 ob4 (o6 e T lim) _ k1 (.inl rfl) hC4 (fin _ rfl) (fun ex env5 tm5 w5 ob5 hC5 hk5=>?_)
 have done:∀ (ex:Ex) (env6:Env) (tm6:Array Value) (w6:World) (ob6:Nat→OB),ah P w.heap.size (ux w.heap.size G) ⟨w,fun _=>False,none,fun _ _=>False,fM.nil⟩ fn.ntmps env6 tm6 w6 ob6→ag BM ex env6=some [.own true e T .no xs]→bodyPost P fn (fun en w'=>∃ v rob,en=.returned v∧Below w.heap.size w w'∧ke P w w' G [.own true e T .no xs] v rob) (Je ex) {({tmps:=tm2,defers:=[]}:Act).put o2.dst (.bool A.isNone) with tmps:=tm6} w6:=by
  intro ex env6 tm6 w6 ob6 hC6 hk6
  have key:=RY (fn:=fn) (fd:=BM) h3 hC6 (res:=[.own true e T .no xs])
  cases ex with
  | exit id=>simp [ag] at hk6
  | normal=>exact ⟨by rw [j4]; rfl,key hk6⟩
  | ret=>exact ⟨by rw [j4]; rfl,key hk6⟩
 cases ex with
 | normal=>
   simp only [o6,mI] at hk5
   refine vt BL 0 (HQ e T lim) cr _ {({tmps:=tm2,defers:=[]}:Act).put o2.dst (.bool A.isNone) with tmps:=tm5} w5 ob5 _ _ k2 (.inl rfl) hC5 hk5 (fun ex6 env6 tm6 w6 ob6 hC6 hk6=>?_)
   exact done ex6 env6 tm6 w6 ob6 hC6 hk6
 | exit id=>
   simp only [o6,mI] at hk5
   simp [ag] at hk5
 | ret=>
   simp only [o6,mI] at hk5
   exact done .ret env5 tm5 w5 ob5 hC5 hk5
end Go.Fw
/- What follows a code may be put behind its answer. -/
namespace Go.Fw
open Go Go.RowKit
section
variable {cl:az} {N:Nat}
theorem WK (i:AI) (env:Env) {R R':Type} (K:cM R) (h:R→Option R'):(step cl i env K).bind h=step cl i env (fun env=>(K env).bind h):=by
 rw [Lp cl i env K,Lp cl i env (fun env=>(K env).bind h),nG]
theorem Eb {R R':Type} (b:Bool) (x y:Option R) (h:R→Option R'):(ad b x y).bind h=ad b (x.bind h) (y.bind h):=by cases b<;>rfl
theorem ZD (g:Option (Nat×Bool)) (env:Env) {R R':Type} (y n:cM R) (h:R→Option R'):(yL g env y n).bind h=yL g env (fun env=>(y env).bind h) (fun env=>(n env).bind h):=by
 cases g with
 | none=>rfl
 | some q=>
   obtain ⟨s,pol⟩:=q
   simp only [yL]
   split
   ·cases pol<;>exact Eb _ _ _ _
   ·rfl
   ·rfl
theorem Lb {R R':Type} (K:cM R) (h:R→Option R'):∀ (l:List AI) (env:Env),(ops cl l env K).bind h=ops cl l env (fun env=>(K env).bind h)
 | [],env=>rfl
 | i::r,env=>by
   simp only [ops]
   rw [ZD]
   congr 1
   ·funext env
    rw [WK]
    congr 1
    funext env
    exact Lb K h r env
   ·funext env
    exact Lb K h r _
theorem B8 {R R':Type} (K:cM R) (h:R→Option R'):∀ (l:List DI) (env:Env),(iu cl l env K).bind h=iu cl l env (fun env=>(K env).bind h)
 | [],env=>rfl
 | i::r,env=>by
   have yes:∀ env',((gm cl i.ai.dst i.ai.op).runK (gH i.hide (look env)) fun δ=>match okW i env δ with
     | true=>iu cl r (δ++env') K
     | false=>none).bind h=(gm cl i.ai.dst i.ai.op).runK (gH i.hide (look env)) fun δ=>match okW i env δ with
     | true=>iu cl r (δ++env') (fun env=>(K env).bind h)
     | false=>none:=by
    intro env'
    rw [Rd.eqn,Rd.eqn,nG]
    congr 1
    funext δ
    split
    ·exact B8 K h r _
    ·rfl
   have nope:∀ env',(match okW i env (one i.ai.dst .bJ) with
     | true=>iu cl r (one i.ai.dst .bJ++env') K
     | false=>none).bind h=match okW i env (one i.ai.dst .bJ) with
     | true=>iu cl r (one i.ai.dst .bJ++env') (fun env=>(K env).bind h)
     | false=>none:=by
    intro env'
    split
    ·exact B8 K h r _
    ·rfl
   simp only [iu]
   split
   ·split
    ·rw [WK]
     congr 1
     funext env
     split
     ·exact B8 K h r env
     ·rfl
    ·rfl
   ·split
    ·exact yes env
    ·rename_i s pol _
     split
     ·rw [Eb]
      cases pol
      ·simp only [eo,if_false]; congr 1
       ·exact nope _
       ·exact yes _
      ·simp only [if_true]; congr 1
       ·exact yes _
       ·exact nope _
     ·exact nope env
     ·rfl
theorem Uh {R R':Type} (live:List Nat) (body:{R:Type}→Env→KE R→Option R) (hb:∀ {R R':Type} (env:Env) (K:KE R) (h:R→Option R'),(body env K).bind h=body env (fun e env=>(K e env).bind h)) (K:KE R) (h:R→Option R'):
  ∀ (m:Nat) (env:Env),(iter live (fun env K=>body env K) K m env).bind h=iter live (fun env K=>body env K) (fun e env=>(K e env).bind h) m env
 | 0,env=>rfl
 | m+1,env=>by
   simp only [iter]
   rw [hb]
   congr 1
   funext e env
   cases e with
   | normal=>exact Uh live body hb K h m _
   | exit=>rfl
   | ret=>rfl
theorem nX:∀ (c:AC) {R R':Type} (env:Env) (K:KE R) (h:R→Option R'),(exec cl N c env K).bind h=exec cl N c env (fun e env=>(K e env).bind h)
 | .skip,_,_,_,_,_=>rfl
 | .ret,_,_,_,_,_=>rfl
 | .exit _,_,_,_,_,_=>rfl
 | .aa live l,_,_,env,K,h=>Lb _ _ _ _
 | .draw live l,_,_,env,K,h=>B8 _ _ _ _
 | .seq a b,_,_,env,K,h=>by
   simp only [exec]
   rw [nX a]
   congr 1
   funext e env
   cases e with
   | normal=>exact nX b env K h
   | exit=>rfl
   | ret=>rfl
 | .cond c x y,_,_,env,K,h=>by
   simp only [exec]
   rw [nG]
   congr 1
   funext q
   rw [Eb,nX x,nX y]
 | .block id b,_,_,env,K,h=>by
   simp only [exec]
   rw [nX b]
   congr 1
   funext e env
   cases e with
   | normal=>rfl
   | ret=>rfl
   | exit j=>
     simp only [lu]
     cases Nat.decEq j id<;>rfl
 | .loop live b,_,_,env,K,h=>Uh live (fun env K=>exec cl N b env K) (fun env K h=>nX b env K h) K h N _
 | .out live b,_,_,env,K,h=>by
   simp only [exec]
   exact nX b env _ h
def ly (T:Ty):E→Option (List (den T))
 | .own _ _ T' _ xs=>bg (.sl T) ⟨.sl T',xs⟩
 | _=>none
theorem dO {fd:FD} {env:Env} {B:Type} {av:B→List E} {dr:List E→Option B} (hd:∀ b,dr (av b)=some b) (g:{R:Type}→(B→Option R)→Option R)
  (hg:∀ {R:Type} (k:List E→Option R),exec cl N fd.body env (fun e env=>(ag fd e env).bind k)=g (fun b=>k (av b))):
  exec cl N fd.body env (ag fd)=(g some).bind fun b=>some (av b):=by
 have h1:exec cl N fd.body env (ag fd)=g (fun b=>some (av b)):=by
  rw [←hg (k:=some)]
  congr 1
  funext e env
  cases ag fd e env<;>rfl
 have h2:g some=exec cl N fd.body env (fun e env=>(ag fd e env).bind dr):=by
  rw [hg (k:=dr)]
  congr 1
  funext b
  exact (hd b).symm
 have h3:(fun (e:Ex) (env:Env)=>((ag fd e env).bind dr).bind fun b=>some (av b))=fun e env=>(ag fd e env).bind fun es=>(dr es).bind fun b=>some (av b):=by
  funext e env
  rw [nG]
 rw [h1,h2,nX,h3,hg]
 congr 1
 funext b
 rw [hd]; rfl
end
end Go.Fw
/- strings.IndexByte's kernel: what is known of it, as the machine's. -/
namespace Go.Fw
open Go Go.RowKit
theorem Uc:∀ (l:List UInt8) (c:UInt8),-1≤Lib.indexByte l c∧Lib.indexByte l c≤(l.length:Int)
 | [],_=>by simp [Lib.indexByte]
 | b::l,c=>by
   have ih:=Uc l c
   simp only [Lib.indexByte]
   split
   ·simp
    omega
   ·split
    ·simp
     omega
    ·rename_i h
     simp only [beq_iff_eq] at h
     simp only [fk]
     omega
theorem aba {P:Program} {f:FuncId} (hcall:∀ (s:ByteArray) (c:Int) (w:World),Calls P f #[.string s,.int .u8 c] w fun e w'=>e=.returned (.int .i64 (Lib.indexByte s.data.toList c.toNat.toUInt8))∧w'=w) (hc:fi P f)
  (s:List UInt8) (c:Int) (w:World) (G:Nat→Nat→Prop) (vals:List Value) (hA:dQ P w G [.v .str s,.v (.int .u8) c] vals):
  fi P f∧Calls P f vals.toArray w fun en w'=>∃ v rob,en=.returned v∧Below w.heap.size w w'∧ke P w w' G [.v (.int .i64) (Lib.indexByte s c.toNat.toUInt8)] v rob:=by
 cases hA with
 | cons h1 hA=>
   cases hA with
   | cons h2 hA=>
     cases hA
     obtain ⟨v1,f1,rfl⟩:=h1
     obtain ⟨v2,f2,rfl⟩:=h2
     unfold Flat at f1 f2
     obtain ⟨rfl,hl,_⟩:=f1
     obtain ⟨rfl,hr,_⟩:=f2
     refine ⟨hc,(hcall ⟨⟨s⟩⟩ c w).mono fun en w' ⟨he,hw⟩=>?_⟩
     subst hw
     refine ⟨_,[],he,Below.refl _ _,⟨?_,rfl,by simp,by simp⟩⟩
     refine ⟨rfl,[.int .i64 (Lib.indexByte s c.toNat.toUInt8)],?_,rfl⟩
     unfold Flat
     have hb:=Uc s c.toNat.toUInt8
     refine ⟨rfl,?_,rfl⟩
     unfold maxLen at hl
     constructor
     ·show (-9223372036854775808:Int)≤_; omega
     ·show _≤(9223372036854775807:Int); omega
end Go.Fw
/- Plain facts for loops over lists by a number. -/
namespace Go.Fw
open Go
abbrev bF:Nat:=4611686018427387904
theorem fO {n:Int} (h: -9223372036854775808≤n∧n≤9223372036854775807):IntKind.i64.wrap n=n:=IntWalk.i64_in n h
section
variable {α:Type} (pre ys:List α) (y d:α)
theorem dt:(pre++y::ys).getD (Int.toNat (pre.length:Int)) d=y:=by simp
theorem ew:(decide ((pre.length:Int) < ((pre++y::ys).length:Int)))=true:=by simp; omega
theorem eC:(decide ((pre.length:Int) < ((pre++([]:List α)).length:Int)))=false:=by simp
theorem dH:(0≤(pre.length:Int)∧(pre.length:Int) < ((pre++y::ys).length:Int))=True:=by simp; omega
theorem bx:pre++y::ys=(pre++[y])++ys:=by simp
theorem eE (h:(pre++y::ys).length≤bF):IntKind.i64.wrap ((pre.length:Int)+1)=((pre++[y]).length:Int):=by
 rw [fO]
 ·simp
 ·simp only [List.length_append,fk,bF] at h; omega
theorem atg:((pre++[y]).length:Int)=(pre.length:Int)+1:=by simp
end
def abf {α:Type} (p:α×Unit→Option Bool):List α→Option (List α)
 | []=>some []
 | x::r=>(p (x,())).bind fun b=>(abf p r).bind fun l=>some (if b then l else x::l)
end Go.Fw
/- The glue, generic: what a reading of the arguments says in the machine's values. -/
namespace Go.Fw
open Go Go.RowKit
def eM:(T:Ty)→den T→Prop
 | .int k,n=>fT k n
 | .str,s=>s.length≤maxLen
 | .sl T,xs=>xs.length≤maxLen∧∀ x∈xs,eM T x
 | .pair A B,x=>eM A x.1∧eM B x.2
 | .arr n T,xs=>xs.length=n∧∀ x∈xs,eM T x
 | _,_=>True
def gh:Ty→Bool
 | .int _ | .bool | .str | .unit=>true
 | .sl T=>gh T&&!(ay T==0)
 | .pair A B=>gh A&&gh B
 | .arr _ T=>gh T
 | _=>false
section
variable {H:Type} {enc:TypeId×Value→H} {P:Program} {w:World} {sp:Nat→Bool} {held:Bool} {B:Nat}
theorem ki {t:TypeId} {T:Ty} {n:Nat} (h:c8 P n t T=true):P.cellsOf t=ay T:=by
 obtain ⟨i,hi,hs⟩:=bH.size (P:=P) (t:=t) (T:=T) ⟨⟨n,h⟩⟩
 simp [Program.cellsOf,hi,hs]
theorem yV {α:Type} {Q:Nat→α→Prop}:∀ (n:Nat),(∀ i,i < n→∃ q,Q i q)→∃ L:List α,L.length=n∧∀ i q,L[i]?=some q→Q i q
 | 0,_=>⟨[],rfl,by simp⟩
 | n+1,h=>by
   obtain ⟨L,hl,hq⟩:=yV n (fun i hi=>h i (by omega))
   obtain ⟨q,hn⟩:=h n (by omega)
   refine ⟨L++[q],by simp [hl],fun i r hr=>?_⟩
   by_cases hi:i < n
   ·rw [fW (by omega)] at hr; exact hq i r hr
   ·have:i < (L++[q]).length:=(kc.1 hr).1
    simp [hl] at this
    have hin:i=n:=by omega
    subst hin
    rw [eU (by omega)] at hr
    simp [hl] at hr
    subst hr; exact hn
theorem vr {α:Type} {R:α→List Value→OB→Prop}:∀ (L:List (List Value×α)),(∀ q∈L,R q.2 q.1 [])→aL R (L.map (·.2)) ((L.map (·.1)).flatten) []
 | [],_=>⟨rfl,rfl⟩
 | q::L,h=>⟨q.1,(L.map (·.1)).flatten,[],[],rfl,rfl,h q (by simp),vr L (fun r hr=>h r (by simp [hr]))⟩
theorem Ji {α:Type} {c:Nat}:∀ (L:List (List Value×α)) (cs:List Value),(∀ i q,L[i]?=some q→q.1=(cs.drop (i * c)).take c)→cs.length=L.length * c→(L.map (·.1)).flatten=cs
 | [],cs,_,h=>by
   have:cs=[]:=lh (by simpa using h)
   rw [this]; rfl
 | q::L,cs,h,hl=>by
   have h0:=h 0 q rfl
   rw [fk,oT,Nat.one_mul] at hl
   have ih:=Ji (c:=c) L (cs.drop c) (fun i q' hq=>by
    have:=h (i+1) q' (by simpa using hq)
    rw [this,zE,oT,Nat.one_mul,Nat.add_comm c]) (by rw [List.length_drop]; omega)
   rw [fX,LU,ih,h0]
   simp
theorem Jj {c:Nat}:∀ (L:List (List Value)),(∀ l∈L,l.length=c)→∀ (j:Nat) (v:Value),L.flatten[j]?=some v→∃ i r l,j=i * c+r∧r < c∧L[i]?=some l∧l[r]?=some v
 | [],_,j,v,h=>by simp at h
 | l::L,hl,j,v,h=>by
   rw [LU] at h
   have hc:=hl l (by simp)
   by_cases hj:j < c
   ·rw [fW (by omega)] at h
    exact ⟨0,j,l,by omega,hj,rfl,h⟩
   ·rw [eU (by omega),hc] at h
    obtain ⟨i,r,l',h1,h2,h3,h4⟩:=Jj L (fun l hl'=>hl l (by simp [hl'])) (j - c) v h
    refine ⟨i+1,r,l',?_,h2,by simpa using h3,h4⟩
    rw [oT]; omega
theorem add_add (a:Addr) (i j:Nat) (h:(a.add i).spot=none):((a.add i).add j)=⟨a.block,a.off+i+j,none⟩:=by
 obtain ⟨b,off,s⟩:=a
 unfold Addr.add at h ⊢
 by_cases h1:i=0<;>by_cases h2:j=0<;>simp_all
theorem WA {w:World} {a:Addr} {v:Value} (h:w.cell? a=some v):a.spot=none:=by
 unfold World.cell? at h
 split at h
 ·cases hs:a.spot with
  | none=>rfl
  | some s=>simp [hs] at h
 ·simp at h
theorem ahF:∀ (m:Nat),
  (∀ (t:TypeId) (T:Ty) (fuel:Nat) (cs:List Value) (x:DataW H×List MemPlace),c8 P m t T=true→gh T=true→DataW.trod enc P w 0 sp held fuel t cs=some x→∃ v,Flat P T w (fun _ _=>True) B .no v cs []∧eM T v)∧
  (∀ (fs:List Field) (T:Ty) (off:Nat) (cs:List Value),eu P m fs T off=true→gh T=true→cs.length=off+ay T→
   (∀ (i:Nat) (f:Field),fs[i]?=some f→∃ n y,DataW.trod enc P w 0 sp held n f.type ((cs.drop f.offset).take (P.cellsOf f.type))=some y)→∃ v,Flat P T w (fun _ _=>True) B .no v (cs.drop off) []∧eM T v):=by
 intro m
 induction m with
 | zero=>exact ⟨fun t T fuel cs x h=>by simp [c8] at h,fun fs T off cs h=>by simp [eu] at h⟩
 | succ m ih=>
   obtain ⟨ih1,ih2⟩:=ih
   refine ⟨fun t T fuel cs x h ha hd=>?_,fun fs T off cs h ha hl hd=>?_⟩
   ·have hT:bH P t T:=⟨⟨m+1,h⟩⟩
    cases T with
    | int k=>
      obtain ⟨n,rfl,_,hw⟩:=DataW.trod_int hT.int hd
      exact ⟨n,by unfold Flat; exact ⟨rfl,DB hw,rfl⟩,DB hw⟩
    | bool=>
      unfold c8 at h
      simp only [au] at h
      have h2:=h.2
      split at h2<;>first | (simp at h2; done) | skip
      ·rename_i hu
       obtain ⟨b,rfl,_⟩:=DataW.trod_bool hu hd
       exact ⟨b,by unfold Flat; exact ⟨rfl,rfl⟩,trivial⟩
      ·cases m with
       | zero=>simp [eu] at h2
       | succ m=>unfold eu at h2; split at h2<;>simp at h2
    | str=>
      obtain ⟨s,rfl,_,hw⟩:=DataW.trod_string hT.str hd
      obtain ⟨⟨s⟩⟩:=s
      exact ⟨s,by unfold Flat; exact ⟨rfl,hw,rfl⟩,hw⟩
    | unit=>
      unfold c8 at h
      simp only [au] at h
      have h2:=h.2
      split at h2<;>first | (simp at h2; done) | skip
      rename_i fs hu
      obtain ⟨xs,n,_,_,hlen,hxl,_⟩:=DataW.trod_struct hu hd
      rw [ki (n:=m+1) (T:=.unit) (by unfold c8; simp only [au]; refine ⟨h.1,?_⟩; rw [hu]; exact h2)] at hlen
      have:cs=[]:=lh hlen
      subst this
      exact ⟨(),by unfold Flat; exact ⟨rfl,rfl⟩,trivial⟩
    | pair A C=>
      have hsz:=ki h
      unfold c8 at h
      simp only [au] at h
      have h2:=h.2
      split at h2<;>first | (simp at h2; done) | skip
      rename_i fs hu
      obtain ⟨xs,n,_,_,hlen,hxl,hf⟩:=DataW.trod_struct hu hd
      have:=ih2 fs.toList (.pair A C) 0 cs h2 ha (by rw [hlen,hsz]; omega) (fun i f hi=>by
       have hi':fs[i]?=some f:=by simpa using hi
       have hlt:i < xs.length:=by rw [hxl]; exact (ra.1 hi').1
       exact ⟨n,xs[i],by rw [hf i f hi']; exact fc hlt⟩)
      simpa using this
    | sl T=>
      simp only [gh,au,du,beq_eq_false_iff_ne] at ha
      obtain ⟨e,hu,_⟩:=hT.slice
      have he:c8 P m e T=true:=by
       unfold c8 at h
       simp only [au] at h
       have h2:=h.2
       rw [hu] at h2
       exact h2
      have hc:P.cellsOf e=ay T:=ki he
      rcases DataW.trod_slice hu hd with ⟨rfl,_⟩ | ⟨a,len,cap,elems,rest,n,_,rfl,_,hb,hl,hm,hlen,hel,_⟩
      ·refine ⟨[],?_,by simp [eM]⟩
       unfold Flat
       exact ⟨rfl,none,0,rfl,cE _,by simp,.inl rfl⟩
      ·have key:∀ i,i < len→∃ q:List Value×den T,(q.1.length=ay T∧(∀ r,r < ay T→w.cell? ((a.add (i * ay T)).add r)=q.1[r]?))∧Flat P T w (fun _ _=>True) B .no q.2 q.1 []∧eM T q.2:=by
        intro i hi
        have:=hel i hi
        rw [fc (by omega)] at this
        obtain ⟨cs',hcs,hy⟩:=aq.1 this
        obtain ⟨v,hv1,hv2⟩:=ih1 e T n cs' _ he ha.1 hy
        obtain ⟨_,k1,k2⟩:=World.cells?_some hcs
        rw [hc] at k1 k2
        exact ⟨(cs',v),⟨k1,k2⟩,hv1,hv2⟩
       obtain ⟨L,hL,hq⟩:=yV len key
       refine ⟨L.map (·.2),?_,?_⟩
       ·unfold Flat
        refine ⟨rfl,some a,cap,by simp [hL],by simpa [hL] using hl,hm,?_⟩
        by_cases h0:len=0
        ·left; have:L=[]:=lh (by omega); simp [this]
        ·right
         have hpos:0 < ay T:=Nat.pos_of_ne_zero ha.2
         have hcell:∀ i r q,L[i]?=some q→r < ay T→∃ v,q.1[r]?=some v∧w.cell? ((a.add (i * ay T)).add r)=some v:=by
          intro i r q hi hr
          have:=(hq i q hi).1
          refine ⟨q.1[r]'(by omega),fc _,?_⟩
          rw [this.2 r hr]; exact fc _
         have hsp:a.spot=none:=by
          obtain ⟨v,_,hv⟩:=hcell 0 0 (L[0]'(by omega)) (fc _) hpos
          have:=WA hv
          simpa [Addr.add] using this
         obtain ⟨b,off,s⟩:=a
         simp only at hsp
         subst hsp
         refine ⟨b,off,(L.map (·.1)).flatten,rfl,vr L (fun q hq'=>?_),fun j v hj=>⟨?_,trivial⟩⟩
         ·obtain ⟨i,hi⟩:=kI hq'
          exact (hq i q hi).2.1
         ·obtain ⟨i,r,l,rfl,hr,hi,hv⟩:=Jj _ (fun l hl'=>by
           obtain ⟨q,hq',rfl⟩:=dd.1 hl'
           obtain ⟨i,hi⟩:=kI hq'
           exact (hq i q hi).1.1) j v hj
          rw [lj,Option.map_eq_some_iff] at hi
          obtain ⟨q,hi,rfl⟩:=hi
          obtain ⟨v',hv1,hv2⟩:=hcell i r q hi hr
          rw [hv] at hv1; cases hv1
          rw [WideShapes.add_plain,WideShapes.add_plain,Nat.add_assoc] at hv2
          exact hv2
       ·unfold eM
        refine ⟨by simp [hL]; omega,fun x hx=>?_⟩
        obtain ⟨q,hq',rfl⟩:=dd.1 hx
        obtain ⟨i,hi⟩:=kI hq'
        exact (hq i q hi).2.2
    | arr n T=>
      have hsz:=ki h
      unfold c8 at h
      simp only [au] at h
      have h2:=h.2
      split at h2<;>first | (simp at h2; done) | skip
      ·rename_i n' e hu
       simp only [au,beq_iff_eq] at h2
       obtain ⟨rfl,he⟩:=h2
       simp only [gh] at ha
       have hc:P.cellsOf e=ay T:=ki he
       obtain ⟨xs,k,_,_,hlen,hxl,hel⟩:=DataW.trod_array hu hd
       have key:∀ i,i < n'→∃ q:List Value×den T,q.1=(cs.drop (i * ay T)).take (ay T)∧Flat P T w (fun _ _=>True) B .no q.2 q.1 []∧eM T q.2:=by
        intro i hi
        have:=hel i hi
        rw [fc (by omega),hc] at this
        obtain ⟨v,hv1,hv2⟩:=ih1 e T k _ _ he ha this
        exact ⟨(_,v),rfl,hv1,hv2⟩
       obtain ⟨L,hL,hq⟩:=yV n' key
       refine ⟨L.map (·.2),?_,?_⟩
       ·unfold Flat
        refine ⟨by simp [hL],?_⟩
        have:=vr (R:=Flat P T w (fun _ _=>True) B .no) L (fun q hq'=>by
         obtain ⟨i,hi⟩:=kI hq'
         exact (hq i q hi).2.1)
        rwa [Ji (c:=ay T) L cs (fun i q hi=>(hq i q hi).1) (by rw [hlen,hsz,hL]; rfl)] at this
       ·unfold eM
        refine ⟨by simp [hL],fun x hx=>?_⟩
        obtain ⟨q,hq',rfl⟩:=dd.1 hx
        obtain ⟨i,hi⟩:=kI hq'
        exact (hq i q hi).2.2
      ·cases m with
       | zero=>simp [eu] at h2
       | succ m=>unfold eu at h2; split at h2<;>simp at h2
    | fn A C=>simp [gh] at ha
    | map K V=>simp [gh] at ha
   ·cases fs with
    | nil=>
      unfold eu at h
      cases T<;>first | (exfalso; simp at h; done) | skip
      refine ⟨(),?_,trivial⟩
      unfold Flat
      exact ⟨by apply List.drop_eq_nil_of_le; simp [ay] at hl; omega,rfl⟩
    | cons f fs=>
      unfold eu at h
      cases T<;>first | (exfalso; simp at h; done) | skip
      rename_i A C
      simp only [au,beq_iff_eq] at h
      obtain ⟨⟨h1,h2⟩,h3⟩:=h
      simp only [gh,au] at ha
      simp only [ay] at hl
      obtain ⟨n,y,hy⟩:=hd 0 f rfl
      obtain ⟨v1,g1,g2⟩:=ih1 f.type A n _ y h2 ha.1 hy
      obtain ⟨v2,g3,g4⟩:=ih2 fs C (off+ay A) cs h3 ha.2 (by omega) (fun i f' hi=>hd (i+1) f' (by simpa using hi))
      refine ⟨(v1,v2),?_,g2,g4⟩
      unfold Flat
      refine ⟨_,_,[],[],?_,rfl,g1,g3⟩
      rw [h1,ki h2,←zE,List.take_append_drop]
theorem atj {r:Reach} {b0:Nat} {t:TypeId} {T:Ty} {v:Value} {d:DataW H} {ps:List MemPlace} (hT:eD P t T=true) (ha:gh T=true) (hval:Value.okWide P w r b0 t v) (hd:DataW.Trod enc P w 0 sp held t v d ps):
  ∃ x:den T,iE P w (fun _ _=>True) (.v T x) v∧eM T x:=by
 obtain ⟨fuel,hf⟩:=hd
 obtain ⟨x,h1,h2⟩:=(ahF (B:=w.heap.size) 64).1 t T fuel _ _ hT ha hf
 refine ⟨x,⟨_,h1,?_⟩,h2⟩
 have hTy:=eI hT
 obtain ⟨dsc,hu,hag⟩:=hTy.agg
 unfold bh
 unfold Value.okWide at hval
 by_cases hagg:cA T=true
 ·rw [if_pos hagg]
  rw [hagg] at hag
  rw [hu] at hval
  cases dsc<;>simp only [oZ] at hag<;>first | (exfalso; simp at hag; done) | (obtain ⟨cs,rfl,_⟩:=hval; simp [Value.cells])
 ·rw [if_neg hagg]
  have hagg':oZ dsc=false:=by rw [hag]; simpa using hagg
  have hl:v.cells.toList.length=1:=by
   have:=Flat.len P T h1
   rw [this]; cases T<;>simp_all [cA,ay]
  cases v<;>first | rfl | skip
  rename_i cs
  exfalso
  rw [hu] at hval
  cases dsc<;>simp only [oZ] at hagg'<;>first | (exfalso; simp at hagg'; done) | (simp [Cell.okWide,Cell.ok,hu] at hval; done) | skip
theorem Mg {W W':World} (hl:laidOutB P=true) (hB:Go.RowKit.Below W.heap.size W W'):∀ (ts:List TypeId) (vs:List Value) (ds:List (DataW H)) (ps:List MemPlace),(ts.all fun t=>P.readableRec t&&decide (t < P.types.size))=true→
  DataW.TrodAll enc P W 0 (fun _=>true) true ts vs ds ps→DataW.TrodAll enc P W' 0 (fun b=>decide (b < W.heap.size)) true ts vs ds ps
 | [],vs,ds,ps,_,h=>by
   obtain ⟨rfl,rfl,rfl⟩:=ChangeShapes.trodAll_nil h
   exact ChangeShapes.trodAll_mk0
 | t::ts,vs,ds,ps,ht,h=>by
   obtain ⟨v,vs',d,ds',p,q,rfl,rfl,rfl,h1,h2⟩:=ChangeShapes.trodAll_cons h
   simp only [dJ,au,decide_eq_true_eq] at ht
   have lt:∀ x∈p,x.block < W.heap.size:=by
    obtain ⟨n,hn⟩:=h1
    exact DataW.trod_lt n _ _ _ hn
   exact ⟨p,q,WideElems.Trod_stays hl ht.1.1 ht.1.2 h1 (fun x hx=>hB.same (lt x hx)) (fun x hx=>by simpa using lt x hx),Mg hl hB ts vs' ds' q ht.2 h2,rfl⟩
end
end Go.Fw
