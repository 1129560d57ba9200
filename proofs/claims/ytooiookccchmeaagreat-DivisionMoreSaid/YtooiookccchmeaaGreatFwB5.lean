/- Own work: the value machine, part 5. -/
import Derived.Test.YtooiookccchmeaaGreatFwB4
import Derived.Test.YtooiookccchmeaaGreatFwB3
import Derived.Laws.MakeOwn
set_option linter.unusedVariables false
set_option linter.unusedSimpArgs false
open Array renaming toList_inj → jO, toList_map → zy, getElem?_toList → jd, getD_eq_getD_getElem? → mL
open Bool renaming and_eq_true → au, not_eq_true' → du
open List renaming mem_map → dd, mem_append_right → iK, mem_append_left → gp, all_cons → dJ, mem_append → dD, nodup_append → jh, mem_cons → cS, mem_singleton → gX, all_eq_true → fj, append_assoc → bO, nodup_cons → oS, ext_getElem? → DG, replicate → kd, range' → zI
open Nat renaming zero_le → iL, le_trans → ep, lt_of_lt_of_le → dK, le_refl → cE, succ_mul → ln, mul_le_mul_right → zK
open Ne renaming symm → bu
open Option renaming bind_eq_some_iff → aq, map_some → oV, isNone_iff_eq_none → DU, isSome_iff_exists → DV, bind_some → ar
open Option.some renaming injEq → aw
open Prod.mk renaming injEq → eN
/- Soundness: calls that are lent a record, from the caller's side. -/
namespace Go.Fw
open Go Go.RowKit
theorem Flat.lift (P:Program):∀ (T:Ty) {w:World} {G:Nat→Nat→Prop} {B:Nat} {o:ax} {x:den T} {vs:List Value} {ob:OB},ej T=true→(∀ b∈blocks ob,B≤b)→Flat P T w G 0 o x vs ob→Flat P T w G B o x vs ob
 | .int k,_,_,_,_,_,_,_,_,_,h=>by unfold Flat at h ⊢; exact h
 | .bool,_,_,_,_,_,_,_,_,_,h=>by unfold Flat at h ⊢; exact h
 | .str,_,_,_,_,_,_,_,_,_,h=>by unfold Flat at h ⊢; exact h
 | .unit,_,_,_,_,_,_,_,_,_,h=>by unfold Flat at h ⊢; exact h
 | .pair A C,_,_,_,_,_,_,_,hn,hb,h=>by
   simp only [ej,au] at hn
   unfold Flat at h ⊢
   obtain ⟨v1,v2,b1,b2,rfl,rfl,h1,h2⟩:=h
   exact ⟨v1,v2,b1,b2,rfl,rfl,Flat.lift P A hn.1 (fun b hb'=>hb b (by simp [hb'])) h1,Flat.lift P C hn.2 (fun b hb'=>hb b (by simp [hb'])) h2⟩
 | .arr n T,_,_,_,_,_,_,_,hn,hb,h=>by
   simp only [ej] at hn
   unfold Flat at h ⊢
   exact ⟨h.1,aL.imp (fun x v b hs hx=>Flat.lift P T hn (fun g hg=>by
    obtain ⟨q,hq,rfl⟩:=dd.1 hg
    exact hb _ (dd.2 ⟨q,hs q hq,rfl⟩)) hx) h.2⟩
 | .sl T,w,G,B,o,xs,vs,ob,hn,hb,h=>by
   simp only [ej] at hn
   have cZ:(ob=[]∧∃ A c,vs=[.slice A xs.length c]∧xs.length≤c∧c≤maxLen∧
    (xs=[]∨∃ b off cells,A=some ⟨b,off,none⟩∧aL (Flat P T w G 0 .no) xs cells []∧∀ j v,cells[j]?=some v→w.cell? ⟨b,off+j,none⟩=some v∧G b (off+j)))→
    (ob=[]∧∃ A c,vs=[.slice A xs.length c]∧xs.length≤c∧c≤maxLen∧
    (xs=[]∨∃ b off cells,A=some ⟨b,off,none⟩∧aL (Flat P T w G B .no) xs cells []∧∀ j v,cells[j]?=some v→w.cell? ⟨b,off+j,none⟩=some v∧G b (off+j))):=by
    rintro ⟨h0,A,c,h1,h2,h3,h4⟩
    refine ⟨h0,A,c,h1,h2,h3,?_⟩
    rcases h4 with h4 | ⟨b,off,cells,h5,h6,h7⟩
    ·exact .inl h4
    ·exact .inr ⟨b,off,cells,h5,aL.imp (fun x v b _ hx=>Flat.up P T (iL _) hx) h6,h7⟩
   cases o with
   | no=>unfold Flat at h ⊢; exact cZ h
   | hole=>unfold Flat at h ⊢; exact h
   | pair a b=>unfold Flat at h ⊢; exact cZ h
   | mp=>unfold Flat at h ⊢; exact cZ h
   | own wr e o=>
     unfold Flat at h ⊢
     obtain ⟨v,cells,ob',h1,h2,h3,rfl⟩:=h
     refine ⟨v,cells,ob',h1,⟨h2.1,?_⟩,aL.imp (fun x v b hs hx=>Flat.lift P T hn (fun g hg=>by
      obtain ⟨q,hq,rfl⟩:=dd.1 hg
      exact hb _ (by rw [eW]; exact iK _ (dd.2 ⟨q,hs q hq,rfl⟩))) hx) h3,rfl⟩
     rcases h2.2 with h2 | ⟨g,cap,cur,e',fz,rfl,_,k3⟩
     ·exact .inl h2
     ·exact .inr ⟨g,cap,cur,e',fz,rfl,hb g (by rw [eW]; exact gp _ (dd.2 ⟨_,jY rfl,rfl⟩)),k3⟩
 | .fn A C,_,_,_,_,_,_,_,hn,_,_=>by simp [ej] at hn
 | .map K V,w,G,B,o,xs,vs,ob,hn,hb,h=>by
   cases o with
   | mp=>
     unfold Flat at h ⊢
     obtain ⟨h1,h2,b,ents,clk,h3,_,h5,rfl,h7⟩:=h
     refine ⟨h1,h2,b,ents,clk,h3,hb b (by simp [blocks]),h5,rfl,eF.imp (fun x m=>?_) h7⟩
     rintro ⟨ks,us,k1,k2,k3⟩
     exact ⟨ks,us,(Flat.eZ P K h1 k1).2 _ _ _ _,(Flat.eZ P V h2 k2).2 _ _ _ _,k3⟩
   | no | hole | pair | own=>unfold Flat at h ⊢; exact h
section
variable {P:Program} {B:Nat} {G0:Nat→Nat→Prop} {W0:dc} {n:Nat} {env:Env} {tm:Array Value} {a:Act} {w:World} {ob:Nat→OB} {cl:az}
variable {R:Type} {K:cM R} {r:R} {next:Act→World→Prop} {Q:Exit→Act→World→Prop} {o:Oper} {i:AI}
theorem D6 {w':World} {G1 G2:Nat→Nat→Prop} {tm1 tm2:Array Value} {env1 env2:Env} {e:E} {v:Value} {b:OB} (hb:e.back=true) (hB:∀ g∈blocks b,B≤g)
  (hG:∀ b i,b < w'.heap.size→G1 b i→G2 b i) (h:cD P w' G1 0 tm1 env1 e v b):cD P w' G2 B tm2 env2 e v b:=by
 cases e with
 | v T x=>
   obtain ⟨h0,vs,h1,h2⟩:=h
   exact ⟨h0,vs,Flat.mono P T (fun b i hb h=>⟨hG b i hb h,rfl⟩) (bV.refl _ _) (by simp) (Flat.up P T (iL _) h1),h2⟩
 | own wr ed T o xs=>
   simp only [E.back,au] at hb
   have h1:Flat P (.sl T) w' G1 B (.own wr ed o) xs [v] b:=Flat.lift P (.sl T) (by simpa only [ej] using hb.1) hB h
   exact Flat.mono P (.sl T) (o:=.own wr ed o) (fun b i hb h=>⟨hG b i hb h,rfl⟩) (bV.refl _ _) (fun _ _=>rfl) h1
 | _=>simp [E.back] at hb
theorem XE {w':World} {G1 G2:Nat→Nat→Prop} {tm1 tm2:Array Value} {env1 env2:Env} {es:List E} {v:Value} {b:OB} (hb:es.all E.back=true) (hB:∀ g∈blocks b,B≤g)
  (hG:∀ b i,b < w'.heap.size→G1 b i→G2 b i) (h:bn P w' G1 0 tm1 env1 (eH es) v b):bn P w' G2 B tm2 env2 (eH es) v b:=by
 have key:∀ {es:List E} {vs:List Value} {b:OB},es.all E.back=true→(∀ g∈blocks b,B≤g)→dX (cD P w' G1 0 tm1 env1) es vs b→dX (cD P w' G2 B tm2 env2) es vs b:=by
  intro es
  induction es with
  | nil=>intro vs b _ _ h; exact h
  | cons e es ih=>
    rintro vs b hb hB ⟨v,rr,b1,b2,rfl,rfl,h1,h2⟩
    simp only [dJ,au] at hb
    exact ⟨v,rr,b1,b2,rfl,rfl,D6 hb.1 (fun g hg=>hB g (by simp [hg])) hG h1,ih hb.2 (fun g hg=>hB g (by simp [hg])) h2⟩
 match es,hb,h with
 | [e],hb,h=>
   simp only [dJ,List.all_nil,Bool.and_true] at hb
   cases e with
   | v T x=>exact D6 (tm1:=tm1) (tm2:=tm2) (env1:=env1) (env2:=env2) (e:=.v T x) hb hB hG h
   | own wr ed T o xs=>exact D6 (tm1:=tm1) (tm2:=tm2) (env1:=env1) (env2:=env2) (e:=.own wr ed T o xs) hb hB hG h
   | _=>simp [E.back] at hb
 | [],hb,h=>obtain ⟨h0,vs,h1,h2⟩:=h; exact ⟨h0,vs,h1,key hb hB h2⟩
 | e1::e2::es,hb,h=>obtain ⟨h0,vs,h1,h2⟩:=h; exact ⟨h0,vs,h1,key hb hB h2⟩
theorem akQ {s:Nat} {e:E} (h:eS s e=true):leads s e=true:=by
 cases e<;>simp only [eS] at h<;>first | exact h | (exfalso; simp at h; done)
theorem Ww {s:Nat} {e:E} (h:e.home=true):eS s e=false:=by
 cases e<;>first | (exfalso; simp [E.home] at h; done) | rfl
theorem aeV (o:ax) (s:Nat) (env:Env) (k:Nat):look (kA o s env) k=if o.pure=false∧eS s (look env k)=true then .dead else look env k:=by
 unfold kA
 cases ho:o.pure with
 | true=>simp
 | false=>simp only [tD,true_and]
theorem TM {env:Env} {s:Nat} {T:Ty} {o:ax} {x:den T} (hs:look env s=.loc T o x) (ho:o.pure=true) (p:Path):bc env s p=none:=by
 unfold bc
 rw [hs]
 simp only
 have h:=rq p o ho
 split
 ·rename_i wr e o' T' xs h1 h2
  rw [h1] at h; simp [ax.pure] at h
 ·rfl
theorem map_pure {env:Env} {s:Nat} {T:Ty} {o:ax} {x:den T} (hs:look env s=.loc T o x) (ho:o.pure=true) (p:Path):eP env s p=false:=by
 unfold eP
 rw [hs]
 simp only
 have h:=rq p o ho
 split
 ·rename_i K V xs h1 h2
  rw [h1] at h; simp [ax.pure] at h
 ·rfl
theorem XI {l m:OB} {b:Nat}:b∈blocks (l++m)↔b∈blocks l∨b∈blocks m:=by rw [eW,dD]
theorem ah.aeq (hC:ah P B G0 W0 n env tm w ob) {s:Nat} {T:Ty} {oa oa':ax} {x x':den T} (hs:look env s=.loc T oa x) (hn:ej T=true) {w':World} {lob' rob:OB} {res:List E} {rv:Value}
  (ho:uf P w w' (Gd B G0 ob) (ob s) lob' T oa' x' (tm.getD s undef) res rv rob) {d:Option Nat} (hd:∀ k,d=some k→bl W0 n k) (hds:apart d s=true) (a:Act) (ha:a.tmps=tm):
  ∃ ob',ah P B G0 W0 n (Fw.aM ((s,.loc T oa' x')::kA oa s env) d (eH res)) (a.put d rv).tmps w' ob':=by
 subst ha
 have hds':∀ k,d=some k→k≠s:=by
  intro k hk; subst hk
  simp only [apart,du,beq_eq_false_iff_ne] at hds; exact hds
 let ob':Nat→OB:=fun j=>if d=some j then rob else if j=s then lob' else ob j
 have obs:ob' s=lob':=by
  have:d≠some s:=fun e=>hds' s e rfl
  simp [ob',this]
 have obd:∀ k,d=some k→ob' k=rob:=fun k hk=>by simp [ob',hk]
 have obo:∀ j,d≠some j→j≠s→ob' j=ob j:=fun j h1 h2=>by simp [ob',h1,h2]
 have hnew:∀ b,b∈blocks lob'∨b∈blocks rob→b < w'.heap.size∧(b∈blocks (ob s)∨w.heap.size≤b):=fun b hb=>ho.new b (XI.2 hb)
 have hnl:∀ b,b∈blocks lob'∨b∈blocks rob→B≤b∧∀ j,j≠s→b∉blocks (ob j):=fun b hb=>by
  rcases (hnew b hb).2 with h | h
  ·exact ⟨(hC.low s b h).1,fun j hj hb'=>hj (hC.dist j s b hb' h)⟩
  ·exact ⟨ep hC.base h,fun j _ hb'=>by have:=(hC.low j b hb').2; omega⟩
 have cases':∀ j b,b∈blocks (ob' j)→(d=some j∧b∈blocks rob)∨(j=s∧b∈blocks lob')∨(d≠some j∧j≠s∧b∈blocks (ob j)):=by
  intro j b hb
  by_cases h1:d=some j
  ·rw [obd j h1] at hb; exact .inl ⟨h1,hb⟩
  ·by_cases h2:j=s
   ·subst h2; rw [obs] at hb; exact .inr (.inl ⟨rfl,hb⟩)
   ·rw [obo j h1 h2] at hb; exact .inr (.inr ⟨h1,h2,hb⟩)
 have hndA:=ho.nodup
 rw [eW,jh] at hndA
 obtain ⟨nd1,nd2,nd3⟩:=hndA
 have hGl:∀ b i,Gl w (Gd B G0 ob) (ob s) (lob'++rob) b i→Gd B G0 ob' b i:=by
  intro b i h
  have lim_of:(∀ lim,(b,lim)∈lob'++rob→i < lim)→(∀ j lim,d≠some j→j≠s→(b,lim)∈ob j→i < lim)→∀ j lim,(b,lim)∈ob' j→i < lim:=by
   intro h1 h2 j lim hj
   by_cases e1:d=some j
   ·rw [obd j e1] at hj; exact h1 lim (iK _ hj)
   ·by_cases e2:j=s
    ·subst e2; rw [obs] at hj; exact h1 lim (gp _ hj)
    ·rw [obo j e1 e2] at hj; exact h2 j lim e1 e2 hj
  rcases h with ⟨h1,h2,h3⟩ | ⟨h1,h2⟩
  ·have hc:=ho.cells b i h1 h3
   rcases h3 with h3 | ⟨h3,h4,h5⟩
   ·exact .inl h3
   ·exact .inr ⟨h3,h4,lim_of hc.2 fun j lim _ _ hj=>h5 j lim hj⟩
  ·have hB:B≤b:=by
    rcases h1 with h1 | h1
    ·exact ep hC.base h1
    ·exact (hC.low s b h1).1
   refine .inr ⟨hB,hC.free b i hB (fun hx=>?_),lim_of h2 fun j lim _ hj hm=>?_⟩
   ·rcases h1 with h1 | h1
    ·have:=hC.oldx b hx; omega
    ·exact hC.prot s b h1 hx
   ·exfalso
    rcases h1 with h1 | h1
    ·have:=(hC.low j b (aE.2 ⟨_,hm⟩)).2; omega
    ·exact hj (hC.dist j s b (aE.2 ⟨_,hm⟩) h1)
 have hG:∀ b i,b < w.heap.size→Gd B G0 ob b i→Gd B G0 ob' b i∧w'.cell? ⟨b,i,none⟩=w.cell? ⟨b,i,none⟩:=by
  intro b i hb hg
  have hc:=ho.cells b i hb hg
  refine ⟨?_,hc.1⟩
  by_cases hl:b∈blocks (ob s)
  ·exact hGl b i (.inr ⟨.inr hl,hc.2⟩)
  ·exact hGl b i (.inl ⟨hb,hl,hg⟩)
 have hbel:Below B w w':=⟨ho.os,ho.tape,ho.output,ho.size,fun k hk=>ho.rest k (dK hk hC.base) fun h=>(by have:=(hC.low s k h).1; omega),ho.drawn⟩
 have hst:Steps ob ob' w w':=by
  refine ⟨fun k b hb=>?_,fun b hb hn=>ho.rest b hb (hn s)⟩
  rcases cases' k b hb with ⟨_,h⟩ | ⟨_,h⟩ | ⟨_,_,h⟩
  ·exact (hnew b (.inr h)).2.imp (fun h=>⟨s,h⟩) id
  ·exact (hnew b (.inl h)).2.imp (fun h=>⟨s,h⟩) id
  ·exact .inl ⟨k,h⟩
 have tmo:∀ j,d≠some j→(a.put d rv).tmps.getD j undef=a.tmps.getD j undef:=by
  intro j hj
  cases d with
  | none=>rfl
  | some k=>exact gU _ _ (fun e=>hj (by rw [e]))
 have tmd:∀ k,d=some k→(a.put d rv).tmps.getD k undef=rv:=by
  intro k hk; subst hk
  exact nk _ _ _ (by rw [hC.size]; exact (hd k rfl).1)
 have hback:=fun k=>Mi ho.back k
 -- what the new state shows
 have l0:∀ j,look ((s,E.loc T oa' x')::kA oa s env) j=if s=j then .loc T oa' x' else if oa.pure=false∧eS s (look env j)=true then .dead else look env j:=by
  intro j; rw [aP,aeV]
 have lk:∀ j,look (Fw.aM ((s,E.loc T oa' x')::kA oa s env) d (eH res)) j=if d=some j then eH res else if s=j then .loc T oa' x' else
   if (oa.pure=false∧eS s (look env j)=true)∨(∃ k,d=some k∧(look env k).home=true∧leads k (look env j)=true) then .dead else look env j:=by
  intro j
  cases d with
  | none=>
    simp only [reduceCtorEq,if_false,false_and,exists_false,or_false]
    exact l0 j
  | some k=>
    have hks:=hds' k rfl
    simp only [aw]
    show look (Fw.put ((s,E.loc T oa' x')::kA oa s env) k (eH res)) j=_
    rw [iZ,hback k]
    simp only [Bool.false_eq_true,if_false]
    by_cases h1:k=j
    ·rw [if_pos h1,if_pos h1]
    ·rw [if_neg h1,if_neg h1]
     have hk0:look ((s,E.loc T oa' x')::kA oa s env) k=if oa.pure=false∧eS s (look env k)=true then .dead else look env k:=by rw [l0,if_neg (bu hks)]
     by_cases h2:s=j
     ·subst h2
      have e1:look ((s,E.loc T oa' x')::kA oa s env) s=.loc T oa' x':=by rw [l0,if_pos rfl]
      rw [e1,if_pos rfl]
      simp [leads]
     ·have e1:look ((s,E.loc T oa' x')::kA oa s env) j=if oa.pure=false∧eS s (look env j)=true then .dead else look env j:=by rw [l0,if_neg h2]
      rw [e1,if_neg h2,hk0]
      by_cases h3:oa.pure=false∧eS s (look env j)=true
      ·have:∀ k,leads k E.dead=false:=fun _=>rfl
       simp [h3,this]
      ·rw [if_neg h3]; simp only [h3,false_or]
       by_cases h4:oa.pure=false∧eS s (look env k)=true
       ·have:(look env k).home=false:=by
         cases hh:(look env k).home with
         | false=>rfl
         | true=>rw [Ww hh] at h4; simp at h4
        rw [if_pos h4,if_neg (by simp [E.home]),if_neg (by rintro ⟨k',e,h6,_⟩; cases e; rw [this] at h6; simp at h6)]
       ·rw [if_neg h4]
        by_cases h5:(look env k).home=true∧leads k (look env j)=true
        ·rw [if_pos h5,if_pos ⟨k,rfl,h5⟩]
        ·rw [if_neg h5,if_neg (by rintro ⟨k',e,h6⟩; cases e; exact h5 h6)]
 refine ⟨ob',ah.step hC hst hbel hG (fun j=>?_) ?_ ?_ ?_ ?_ ?_⟩
 ·by_cases h1:d=some j
  ·right
   rw [lk,if_pos h1,tmd j h1,obd j h1]
   exact XE ho.back (fun g hg=>(hnl g (.inr hg)).1) (fun b i _ h=>hGl b i h) ho.rep
  ·by_cases h2:s=j
   ·subst h2
    right
    rw [lk,if_neg h1,if_pos rfl,tmo s h1,obs]
    obtain ⟨b,cur,e,ob2,k1,k2,k3,k4⟩:=ho.shown
    have hlb:∀ g∈blocks lob',B≤g:=fun g hg=>(hnl g (.inl hg)).1
    refine ⟨b,cur,e,ob2,k1,hlb b (by rw [k4]; simp),k2,?_,k4⟩
    exact Flat.mono P T (fun b i _ h=>⟨hGl b i h,rfl⟩) (bV.refl _ _) (fun _ _=>rfl) (Flat.lift P T hn (fun g hg=>hlb g (by rw [k4]; simp [hg])) k3)
   ·rw [lk,if_neg h1,if_neg h2,tmo j h1,obo j h1 (bu h2)]
    have hbj:∀ g∈blocks (ob j),w'.heap[g]?=w.heap[g]?:=fun g hg=>ho.rest g (hC.low j g hg).2 fun h=>h2 (hC.dist s j g h hg)
    by_cases h3:(oa.pure=false∧eS s (look env j)=true)∨(∃ k,d=some k∧(look env k).home=true∧leads k (look env j)=true)
    ·right
     rw [if_pos h3]
     rcases h3 with ⟨_,h3⟩ | ⟨k,_,_,h3⟩
     ·exact (bn.leads (akQ h3) (hC.rep j)).2
     ·exact (bn.leads h3 (hC.rep j)).2
    ·rw [if_neg h3]
     have other:∀ t,leads t (look env j)=true→s≠t→eL w a.tmps env w' (a.put d rv).tmps (Fw.aM ((s,.loc T oa' x')::kA oa s env) d (eH res)) t:=by
      intro t ht hts
      have hh:=bn.leads ht (hC.rep j)
      have htd:d≠some t:=fun e=>h3 (.inr ⟨t,e,hh.1,ht⟩)
      refine eL.same (P:=P) ?_ (tmo t htd) (hC.rep t) (fun g hg=>ho.rest g (hC.low t g hg).2 fun h=>hts (hC.dist s t g h hg))
      rw [lk,if_neg htd,if_neg hts,if_neg]
      rintro (⟨_,h⟩ | ⟨k,_,_,h⟩)
      ·rw [Ww hh.1] at h; simp at h
      ·rw [qE hh.1] at h; simp at h
     by_cases hpu:oa.pure=true
     ·left
      refine ⟨rfl,rfl,rfl,hbj,fun t ht=>?_⟩
      by_cases hts:s=t
      ·subst hts
       refine ⟨fun p v hp _=>?_,fun p h hh=>?_,fun T1 o1 x1 hx=>?_,fun p v hm _=>by rw [map_pure hs hpu] at hm; cases hm⟩
       ·rw [TM hs hpu] at hp; simp at hp
       ·rw [TM hs hpu] at hh; simp at hh
       ·rw [hs] at hx; cases hx
        exact ⟨oa',x',by rw [lk,if_neg (fun e=>hds' _ e rfl),if_pos rfl],tmo _ fun e=>hds' _ e rfl⟩
      ·exact other t ht hts
     ·have hpf:oa.pure=false:=by simpa using hpu
      by_cases h4:leads s (look env j)=true
      ·right
       have hr:=hC.rep j
       have hns:¬ eS s (look env j)=true:=fun h=>h3 (.inl ⟨hpf,h⟩)
       cases he:look env j<;>rw [he] at h4 hns hr<;>first | (exfalso; simp [leads] at h4; done) | exact absurd h4 hns | skip
       rename_i s' p
       simp only [leads,beq_iff_eq] at h4
       subst h4
       obtain ⟨m0,T1,o1,x1,b',m1,m2,m3,m4⟩:=hr
       rw [hs] at m1; cases m1
       refine ⟨m0,T,oa',x',b',?_,?_,m3,m4⟩
       ·rw [lk,if_neg (fun e=>hds' _ e rfl),if_pos rfl]
       ·rw [tmo _ (fun e=>hds' _ e rfl)]; exact m2
      ·left
       exact ⟨rfl,rfl,rfl,hbj,fun t ht=>other t ht fun e=>h4 (e▸ht)⟩
 ·intro j k b hj hk
  rcases cases' j b hj with ⟨e1,h1⟩ | ⟨e1,h1⟩ | ⟨e1,f1,h1⟩<;>rcases cases' k b hk with ⟨e2,h2⟩ | ⟨e2,h2⟩ | ⟨e2,f2,h2⟩
  ·rw [e1] at e2; cases e2; rfl
  ·exact absurd rfl (nd3 b h2 b h1)
  ·exact absurd h2 ((hnl b (.inr h1)).2 k f2)
  ·exact absurd rfl (nd3 b h1 b h2)
  ·rw [e1,e2]
  ·exact absurd h2 ((hnl b (.inl h1)).2 k f2)
  ·exact absurd h1 ((hnl b (.inr h2)).2 j f1)
  ·exact absurd h1 ((hnl b (.inl h2)).2 j f1)
  ·exact hC.dist j k b h1 h2
 ·intro k
  by_cases h1:d=some k
  ·rw [obd k h1]; exact nd2
  ·by_cases h2:k=s
   ·subst h2; rw [obs]; exact nd1
   ·rw [obo k h1 h2]; exact hC.nodup k
 ·intro k b hb
  rcases cases' k b hb with ⟨_,h⟩ | ⟨_,h⟩ | ⟨_,_,h⟩
  ·exact ⟨(hnl b (.inr h)).1,(hnew b (.inr h)).1⟩
  ·exact ⟨(hnl b (.inl h)).1,(hnew b (.inl h)).1⟩
  ·exact ⟨(hC.low k b h).1,dK (hC.low k b h).2 ho.size⟩
 ·cases d with
  | none=>exact hC.size
  | some k=>show (a.tmps.setIfInBounds k rv).size=n; rw [Array.size_setIfInBounds]; exact hC.size
 ·intro v hv
  cases d with
  | none=>rfl
  | some k=>exact (hd k rfl).aj hv _ _
theorem aer {T:Ty} {res:List E} {y:ax×den T×List E} (h:C7 T res=some y):ej T=true∧res=.loc T y.1 y.2.1::y.2.2:=by
 unfold C7 at h
 split at h
 ·split at h
  ·rename_i hn
   simp only [aq,aw] at h
   obtain ⟨x,hx,rfl⟩:=h
   have:=cL hx; cases this
   exact ⟨hn,rfl⟩
  ·simp at h
 ·simp at h
theorem alr {f:FuncId} {us:Array Operand} {ats:Array TypeId} {u:Operand} {us':List Operand} {p:Od} {ys:List Od} (hgood:Good P W0.t cl) (hC:ah P B G0 W0 n env a.tmps w ob) (hK:bE P B G0 W0 n a K r next) (hd:∀ k,o.dst=some k→bl W0 n k) (hdst:i.dst=o.dst)
  (ho:o.op=.call {callee:=.value (.func f),args:=us,argTypes:=ats}) (hi:i.op=.kX f p ys) (hus:us.toList=u::us') (hp:aF u p=true) (hx:eQ us' ys=true) (h:step cl i env K=some r):o.wp P a w next Q:=by
 unfold step at h; rw [hi] at h; simp only [hdst,az.eqn,aq] at h
 obtain ⟨⟨s,q⟩,hq,h⟩:=h
 simp only at h
 split at h
 case h_2=>simp at h
 simp only [aq] at h
 obtain ⟨as,h1,h⟩:=h
 split at h
 case h_2=>simp at h
 rename_i hla
 simp only [au] at hla
 split at h
 case h_2=>simp at h
 rename_i T oa x hsl
 simp only [aq] at h
 obtain ⟨res,hres,y,hy,h⟩:=h
 obtain ⟨hn,hy⟩:=aer hy
 obtain ⟨oa',x',rs⟩:=y
 simp only at hy h
 obtain ⟨ob',hf,hC'⟩:=vy (a:=a) ys hC
 have hz:=Cl ys env
 have hA:=nN (G':=Gd B G0 ob') hgood hC' hx (Fz.fQ hz.1 h1) ⟨fun _ _ _ h=>h,.inr fun s ⟨y,hy,hs⟩=>hz.2 y hy s (by rw [←CY (je.av hz.1 y)]; exact hs)⟩
 obtain ⟨hcal,hL⟩:=hgood.lend f T oa x as res hres
 -- the pointer
 have hev:a.eval u=a.tmps.getD s undef:=by
  have hs0:∃ o0 x0,look env s=.loc T o0 x0:=by
   rcases hz.1 s with e | ⟨_,_,_,_,_,_,e⟩ | ⟨T0,o0,x0,e1,e2⟩
   ·exact ⟨oa,x,by rw [←e]; exact hsl⟩
   ·rw [hsl] at e; cases e
   ·rw [hsl] at e2; cases e2; exact ⟨_,_,e1⟩
  obtain ⟨o0,x0,hs0⟩:=hs0
  cases p with
  | t k=>
    rw [jH hp a]
    simp only [eB,av] at hq
    split at hq
    ·rename_i s' p' hk
     cases hq
     have hr:=hC.rep k
     rw [hk] at hr
     obtain ⟨_,T1,o1,x1,b,k1,k2,_,k4⟩:=hr
     have e0:a8 T1 []=0:=by cases T1<;>rfl
     rw [k4,k2,e0]
    ·simp only [Od.slot,oV,aw,eN] at hq
     rw [hq.1]
    ·cases hq
  | c T x=>simp [eB,av] at hq
  | nil e T=>simp [eB,av] at hq
  | fn f A C=>simp [eB,av] at hq
 have hr:=hC'.rep s
 rw [hsl] at hr
 obtain ⟨b,cur,e,ob2,k1,k2,k3,k4,k5⟩:=hr
 have hcall:=hL w (Gd B G0 ob') (a.tmps.getD s undef) (us'.map a.eval) (ob' s) hn hC'.oM (fun b hb=>ep hC'.tab.1 (hC'.low s b hb).1) ⟨b,cur,e,ob2,k1,k3,Flat.down P T hn (iL _) k4,k5⟩ (hC'.nodup s) (fun b hb=>(hC'.low s b hb).2)
  (fun b lim i hb hg=>by
   rcases hg with ⟨hg,_⟩ | ⟨_,_,hg⟩
   ·have:=(hC'.low s b (aE.2 ⟨_,hb⟩)).1; omega
   ·exact hg s lim hb) hA hla.1
 have hrun:(execOp a.eval o).run P w=.ok (.enter f (us.map a.eval)) w:=by
  have:=mH hcal (us.map a.eval) w
  simp [execOp,ho,resolve,Deferred.ofValue,invoke,Act.eval,this]
 have e2:(a.tmps.getD s undef::us'.map a.eval).toArray=us.map a.eval:=by
  apply jO.1
  simp [hus,hev]
 rw [e2] at hcall
 refine kH hrun (Calls.mono hcall ?_)
 rintro en w' ⟨T',o2,x2,rs2,rv,lob',rob,e3,rfl,hout⟩
 rw [hy] at e3; cases e3
 obtain ⟨ob3,hC3⟩:=ah.aeq hC' hsl hn hout hd hla.2 a rfl
 have:=hK _ _ _ _ hC3 h
 exact ⟨rv,rfl,by rw [Wb] at this; exact this⟩
end
end Go.Fw
/- Soundness: a builder of texts. -/
namespace Go.Fw
open Go Go.RowKit
section
variable {P:Program} {B:Nat} {G0:Nat→Nat→Prop} {W0:dc} {n:Nat} {env:Env} {a:Act} {w:World} {ob:Nat→OB} {tm:Array Value}
variable {R:Type} {K:cM R} {r:R} {next:Act→World→Prop} {Q:Exit→Act→World→Prop} {o:Oper} {i:AI} {cl:az}
def Wo:Value→Bool
 | .agg u=>(match u.toList with | [.pointer none,.slice none 0 0]=>true | _=>false)
 | _=>false
def Dp (P:Program) (t:TypeId):Bool:=match P.info? t with
 | some i=>(match i.zero with | some z=>Wo z | none=>false)
 | none=>false
theorem akF {t:TypeId} (h:Dp P t=true):∃ it,P.info? t=some it∧it.zero=some (.agg #[.pointer none,.slice none 0 0]):=by
 unfold Dp at h
 split at h
 ·rename_i it hi
  split at h
  ·rename_i z hz
   refine ⟨it,hi,?_⟩
   rw [hz]
   unfold Wo at h
   split at h
   ·rename_i u
    split at h
    ·rename_i hu
     have:u=#[.pointer none,.slice none 0 0]:=jO.1 hu
     rw [this]
    ·simp at h
   ·simp at h
  ·simp at h
 ·simp at h
theorem akH {t e:TypeId} {s:List UInt8} {v:Value} {ob:OB} (h:jR w B t e s v ob):∀ b lim,(b,lim)∈ob→lim=0:=by
 obtain ⟨b,p,u,_,_,_,_,_,_,rfl⟩:=h
 intro g lim hg
 rcases cS.1 hg with h | h
 ·cases h; rfl
 ·unfold bN at h
  split at h
  ·simp only [gX,eN] at h; exact h.2
  ·cases h
theorem ah.Wn (hC:ah P B G0 W0 n env tm w ob) {k:Nat} {t e:TypeId} {s:List UInt8} (hk:look env k=.sb t e s) {w':World} {ob1:OB} {e':E} (hout:oW w w' (ob k) ob1)
  (hrep:∀ G env',bn P w' G B tm env' e' (tm.getD k undef) ob1):ah P B G0 W0 n ((k,e')::env) tm w' (fh ob k ob1):=by
 have hr:=hC.rep k
 rw [hk] at hr
 have hlim:=akH hr.1
 have kb:∀ g∈blocks (ob k),B≤g∧g < w.heap.size:=fun g hg=>hC.low k g hg
 have hlow1:∀ g∈blocks ob1,B≤g∧g < w'.heap.size:=fun g hg=>by
  obtain ⟨h1,h2⟩:=hout.new g hg
  rcases h2 with h2 | h2
  ·exact ⟨(kb g h2).1,h1⟩
  ·exact ⟨ep hC.base h2,h1⟩
 have hob:∀ j,j≠k→fh ob k ob1 j=ob j:=fun j hj=>eb ob ob1 hj
 have hobk:fh ob k ob1 k=ob1:=eJ ob k ob1
 have j0:∀ b,b < w.heap.size→b∉blocks (ob k)→w'.heap[b]?=w.heap[b]?:=hout.rest
 have homek:(look env k).home=false:=by rw [hk]; rfl
 refine ah.step hC ⟨fun j b hb=>?_,fun b hb hn=>j0 b hb (hn k)⟩ ⟨hout.os,hout.tape,hout.output,hout.size,fun g hg=>j0 g (dK hg hC.base) fun h=>(by have:=(kb g h).1; omega),hout.drawn⟩ (fun b i hb h=>?_) (fun j=>?_) ?_ ?_ ?_ hC.size (fun _ _=>rfl)
 ·by_cases hj:j=k
  ·subst hj; rw [hobk] at hb; exact (hout.new b hb).2.imp (fun h=>⟨j,h⟩) id
  ·rw [hob j hj] at hb; exact .inl ⟨j,hb⟩
 ·have hnk:b∉blocks (ob k):=by
   intro hm
   obtain ⟨q,hq,hqb⟩:=dd.1 hm
   obtain ⟨g,lim⟩:=q
   simp only at hqb; subst hqb
   have hl:=hlim _ _ hq
   subst hl
   rcases h with ⟨h,_⟩ | ⟨_,_,h⟩
   ·have:=(kb g hm).1; omega
   ·exact absurd (h k 0 hq) (by omega)
  refine ⟨?_,World.cell?_of_block (w:=w) (j0 b hb hnk)⟩
  rcases h with h | ⟨h1,h2,h3⟩
  ·exact .inl h
  ·refine .inr ⟨h1,h2,fun j lim hm=>?_⟩
   by_cases hj:j=k
   ·subst hj; rw [hobk] at hm
    have:=(hout.new b (dd.2 ⟨_,hm,rfl⟩)).2
    rcases this with h | h
    ·exact absurd h hnk
    ·omega
   ·rw [hob j hj] at hm; exact h3 j lim hm
 ·by_cases hj:j=k
  ·subst hj; right
   rw [aP,if_pos rfl,hobk]
   exact hrep _ _
  ·left
   have hnj:∀ g∈blocks (ob j),w'.heap[g]?=w.heap[g]?:=fun g hg=>j0 g (hC.low j g hg).2 fun h=>hj (hC.dist j k g hg h)
   rw [aP,if_neg (bu hj),hob j hj]
   refine ⟨rfl,rfl,rfl,hnj,fun u hu=>?_⟩
   by_cases huk:u=k
   ·subst huk
    have:=(bn.leads hu (hC.rep j)).1
    rw [homek] at this; exact absurd this (by simp)
   ·refine eL.same (P:=P) (by rw [aP,if_neg (bu huk)]) rfl (hC.rep u) (fun g hg=>j0 g (hC.low u g hg).2 fun h=>huk (hC.dist u k g hg h))
 ·have cr:∀ j b,j≠k→b∈blocks (ob j)→b∉blocks ob1:=by
   intro j b hj hb h1
   rcases (hout.new b h1).2 with h | h
   ·exact hj (hC.dist j k b hb h)
   ·have:=(hC.low j b hb).2; omega
  intro j j' b hb hb'
  by_cases h1:j=k
  ·by_cases h2:j'=k
   ·rw [h1,h2]
   ·rw [h1,hobk] at hb; rw [hob j' h2] at hb'; exact absurd hb (cr j' b h2 hb')
  ·by_cases h2:j'=k
   ·rw [h2,hobk] at hb'; rw [hob j h1] at hb; exact absurd hb' (cr j b h1 hb)
   ·rw [hob j h1] at hb; rw [hob j' h2] at hb'; exact hC.dist j j' b hb hb'
 ·intro j
  by_cases hj:j=k
  ·rw [hj,hobk]; exact hout.nodup
  ·rw [hob j hj]; exact hC.nodup j
 ·intro j b hb
  by_cases hj:j=k
  ·rw [hj,hobk] at hb; exact hlow1 b hb
  ·rw [hob j hj] at hb; exact ⟨(hC.low j b hb).1,dK (hC.low j b hb).2 hout.size⟩
theorem alE {t e:TypeId} (hC:ah P B G0 W0 n env a.tmps w ob) (hK:bE P B G0 W0 n a K r next) (hd:∀ k,o.dst=some k→bl W0 n k) (hdst:i.dst=o.dst)
  (ho:o.op=.alloc t) (hi:i.op=.zd t e) (hz:Dp P t=true) (h:step cl i env K=some r):o.wp P a w next Q:=by
 unfold step at h; rw [hi] at h; simp only [hdst] at h
 obtain ⟨it,h1,h2⟩:=akF hz
 have hcells:(Value.agg #[.pointer none,.slice none 0 0]).cells=#[.pointer none,.slice none 0 0]:=rfl
 refine bp (v:=.pointer (some ⟨w.heap.size,0,none⟩)) (w':=w.alloc (.cells #[.pointer none,.slice none 0 0] t)) ?_ ?_
 ·simp [execOp,ho,Instr.alloc,zeroValue,typeInfo,h1,h2,newVar,newRow,hcells]
 ·have hg:aO w (w.alloc (.cells #[.pointer none,.slice none 0 0] t)):=aO.alloc w _
  cases bU:o.dst with
  | none=>rw [bU] at h; exact bz (d:=none) (e:=.dead) hC hK (fun k hk=>by cases hk) hg (v:=undef) rfl h
  | some k=>
    rw [bU] at h
    have h2:=ah.mF (e:=.sb t e []) (v:=.pointer (some ⟨w.heap.size,0,none⟩)) (bk:=[(w.heap.size,0)]) hC (hd k bU) hg ?_ (by simp) (by simp)
    ·exact hK _ _ _ _ h2 h
    ·rw [if_neg (by simp [leads])]
     exact ⟨⟨w.heap.size,.pointer none,.slice none 0 0,rfl,hC.base,heap_alloc_new w _,.inl rfl,World.ownsRow_nil _ _ _ _,by simp [Value.ownBlock],rfl⟩,by simp⟩
theorem alG {f:FuncId} {us:Array Operand} {ats:Array TypeId} {k:Nat} {x:Operand} {y:Od} (hgood:Good P W0.t cl) (hC:ah P B G0 W0 n env a.tmps w ob) (hK:bE P B G0 W0 n a K r next) (hd:∀ k,o.dst=some k→bl W0 n k) (hdst:i.dst=o.dst)
  (ho:o.op=.call {callee:=.value (.func f),args:=us,argTypes:=ats}) (hi:i.op=.iC f k y) (hus:us.toList=[.tmp k,x]) (hx:aF x y=true) (h:step cl i env K=some r):o.wp P a w next Q:=by
 unfold step at h; rw [hi] at h; simp only [hdst] at h
 have hr:=hC.rep k
 split at h
 case h_2=>simp at h
 rename_i t e s hk
 rw [hk] at hr
 split at h
 case h_2=>simp at h
 rename_i hap
 simp only [az.eqn,aq] at h
 obtain ⟨u,hu,res,hres,s',hs',h⟩:=h
 obtain ⟨hv,_⟩:=tV hC hx hu
 obtain ⟨rfl,hlen,hcal,hL⟩:=hgood.iC f t e s u res hres
 simp only [Wm,aw] at hs'
 subst hs'
 have hev:us.map a.eval=#[a.tmps.getD k undef,.string ⟨⟨u⟩⟩]:=by
  apply jO.1
  simp only [zy,hus,List.map_cons,List.map_nil,hv]
  rfl
 have hrun:(execOp a.eval o).run P w=.ok (.enter f (us.map a.eval)) w:=by
  have:=mH hcal (us.map a.eval) w
  simp [execOp,ho,resolve,Deferred.ofValue,invoke,Act.eval,this]
 rw [hev] at hrun
 refine kH hrun (Calls.mono (hL w B (a.tmps.getD k undef) (ob k) hC.base hr.1) ?_)
 rintro en w' ⟨rv,ob',rfl,h1,h2⟩
 refine ⟨rv,rfl,?_⟩
 have hC1:=ah.Wn hC hk (e':=.sb t e (s++u)) h2 (fun _ _=>⟨h1,by simpa using hlen⟩)
 exact bz (e:=.dead) hC1 hK hd (aO.refl _) (v:=rv) rfl h
theorem alF {f:FuncId} {us:Array Operand} {ats:Array TypeId} {k:Nat} (hgood:Good P W0.t cl) (hC:ah P B G0 W0 n env a.tmps w ob) (hK:bE P B G0 W0 n a K r next) (hd:∀ k,o.dst=some k→bl W0 n k) (hdst:i.dst=o.dst)
  (ho:o.op=.call {callee:=.value (.func f),args:=us,argTypes:=ats}) (hi:i.op=.jJ f k) (hus:us.toList=[.tmp k]) (h:step cl i env K=some r):o.wp P a w next Q:=by
 unfold step at h; rw [hi] at h; simp only [hdst] at h
 have hr:=hC.rep k
 split at h
 case h_2=>simp at h
 rename_i t e s hk
 rw [hk] at hr
 split at h
 case h_2=>simp at h
 rename_i hap
 simp only [az.eqn,aq] at h
 obtain ⟨res,hres,u,hu,h⟩:=h
 obtain ⟨rfl,hcal,hL⟩:=hgood.jJ f t e s res hres
 simp only [WN,aw] at hu
 subst hu
 have hev:us.map a.eval=#[a.tmps.getD k undef]:=by
  apply jO.1
  simp only [zy,hus,List.map_cons,List.map_nil]
  rfl
 have hrun:(execOp a.eval o).run P w=.ok (.enter f (us.map a.eval)) w:=by
  have:=mH hcal (us.map a.eval) w
  simp [execOp,ho,resolve,Deferred.ofValue,invoke,Act.eval,this]
 rw [hev] at hrun
 refine kH hrun (Calls.mono (hL w B (a.tmps.getD k undef) (ob k) hC.base hr.1) ?_)
 rintro en w' ⟨rfl,h2⟩
 refine ⟨_,rfl,?_⟩
 have hC1:=ah.Wn hC hk (e':=.dead) h2 (fun _ _=>rfl)
 refine bz (e:=.v .str s) hC1 hK hd (aO.refl _) (v:=.string ⟨⟨s⟩⟩) ⟨rfl,[.string ⟨⟨s⟩⟩],?_,rfl⟩ h
 unfold Flat
 exact ⟨rfl,by have:=hr.2; unfold maxLen; omega,rfl⟩
end
end Go.Fw
/- Soundness: a call that takes a list over, with a function that it calls (slices.DeleteFunc). -/
namespace Go.Fw
open Go Go.RowKit
section
variable {P:Program} {B:Nat} {G0:Nat→Nat→Prop} {W0:dc} {n:Nat} {env:Env} {tm:Array Value} {a:Act} {w:World} {ob:Nat→OB} {cl:az}
variable {R:Type} {K:cM R} {r:R} {next:Act→World→Prop} {Q:Exit→Act→World→Prop} {o:Oper} {i:AI}
theorem ah.along (hC:ah P B G0 W0 n env tm w ob) {s:Nat} (hld:∀ k,leads s (look env k)=false) (hob:ob s=bN (tm.getD s undef) 0) {w1:World} (hA:iF (tm.getD s undef) w w1):
  ah P B G0 W0 n ((s,.dead)::env) tm w1 (fh ob s []):=by
 have hrest:∀ b,b < w.heap.size→b∉blocks (ob s)→w1.heap[b]?=w.heap[b]?:=fun b hb hn=>hA.rest b hb fun hv=>hn (by rw [hob]; exact aE.2 ⟨0,jY hv⟩)
 refine ah.step hC ⟨fun k b hb=>?_,fun b hb hn=>hrest b hb (hn s)⟩ ⟨hA.os,hA.tape,hA.output,hA.size,fun k hk=>hrest k (dK hk hC.base) fun h=>(by have:=(hC.low s k h).1; omega),hA.drawn⟩ (fun b i hb hg=>?_) (fun k=>?_) (fun j k b hj hk=>?_) (fun k=>?_) (fun k b hb=>?_) hC.size (fun _ _=>rfl)
 ·by_cases h:k=s
  ·subst h; rw [eJ] at hb; simp [blocks] at hb
  ·rw [eb _ _ h] at hb; exact .inl ⟨k,hb⟩
 ·have hn:b∉blocks (ob s):=by
   intro h
   obtain ⟨l,h2⟩:=aE.1 h
   have hl:l=0:=by
    rw [hob] at h2
    unfold bN at h2
    split at h2
    ·simp at h2; exact h2.2
    ·simp at h2
   subst hl
   have hB:=(hC.low s b h).1
   rcases hg with ⟨g1,_⟩ | ⟨_,_,g2⟩
   ·omega
   ·have:=g2 s 0 h2; omega
  refine ⟨?_,World.cell?_of_block (w:=w) (hrest b hb hn)⟩
  rcases hg with hg | ⟨g1,g0,g2⟩
  ·exact .inl hg
  ·refine .inr ⟨g1,g0,fun k lim hk=>?_⟩
   by_cases h:k=s
   ·subst h; rw [eJ] at hk; simp at hk
   ·rw [eb _ _ h] at hk; exact g2 k lim hk
 ·by_cases h:k=s
  ·subst h; right; rw [aP,if_pos rfl,eJ]; rfl
  ·left
   have hheap:∀ j,j≠s→∀ g∈blocks (ob j),w1.heap[g]?=w.heap[g]?:=fun j hj g hg=>hrest g (hC.low j g hg).2 fun hs=>hj (hC.dist _ _ g hg hs)
   refine ⟨by rw [aP,if_neg (bu h)],rfl,eb _ _ h,hheap k h,fun s' hs'=>?_⟩
   have hs:s'≠s:=by rintro rfl; rw [hld k] at hs'; cases hs'
   exact eL.same (P:=P) (by rw [aP,if_neg (bu hs)]) rfl (hC.rep s') (hheap s' hs)
 ·by_cases h1:j=s
  ·subst h1; rw [eJ] at hj; simp [blocks] at hj
  ·by_cases h2:k=s
   ·subst h2; rw [eJ] at hk; simp [blocks] at hk
   ·rw [eb _ _ h1] at hj; rw [eb _ _ h2] at hk; exact hC.dist _ _ b hj hk
 ·by_cases h:k=s
  ·subst h; rw [eJ]; simp [blocks]
  ·rw [eb _ _ h]; exact hC.nodup k
 ·by_cases h:k=s
  ·subst h; rw [eJ] at hb; simp [blocks] at hb
  ·rw [eb _ _ h] at hb
   have:=hC.low k b hb
   exact ⟨this.1,dK this.2 hA.size⟩
theorem kC {s k:Nat} (h:k≠s):look ((s,E.dead)::env) k=look env k:=by rw [aP,if_neg (bu h)]
theorem Xz {s:Nat} {e:E} (h:leads s e=false∨∃ f A C c,e=.cP f A C c):cU ((s,.dead)::env) e=cU env e:=by
 rcases h with h | ⟨f,A,C,c,rfl⟩
 ·cases e<;>simp only [leads,beq_eq_false_iff_ne] at h<;>try rfl
  ·simp only [cU,bc,kC h]
  ·simp only [cU,kC h]
  ·simp only [cU,bc,kC h]
 ·rfl
theorem Mf {s:Nat}:∀ {es:List E},(∀ e∈es,leads s e=false∨∃ f A C c,e=.cP f A C c)→ik ((s,.dead)::env) es=ik env es
 | [],_=>rfl
 | e::es,h=>by simp only [ik]; rw [Xz (h e (by simp)),Mf fun e he=>h e (by simp [he])]
theorem Vz {s:Nat}:∀ {env:Env},(∀ q∈env,leads s q.2=false)→∀ k,leads s (look env k)=false
 | [],_,_=>rfl
 | q::env,h,k=>by
   rw [show q=(q.1,q.2) from rfl,aP]
   split
   ·exact h q (by simp)
   ·exact Vz (fun q hq=>h q (by simp [hq])) k
theorem Q6 {s:Nat} {z:Od} {u:Operand} {fg:FuncId} {A C:Ty} {caps:List E} {e0:E} {gf:den (.fn A C)} (hgood:Good P W0.t cl) (hC:ah P B G0 W0 n env a.tmps w ob) (hld:∀ k,leads s (look env k)=false)
  (hob:ob s=bN (a.tmps.getD s undef) 0) (hs:look env s=e0) (hne:∀ f A C c,e0≠.cP f A C c) (hu:aF u z=true) (hz:av env z=.cP fg A C caps) (hgv:bn P w (Gd B G0 ob) B a.tmps env (.cP fg A C caps) (a.eval u) (qK ob z))
  (hge:jV cl env fg A C caps=some (.v (.fn A C) gf)):∀ w1,iF (a.tmps.getD s undef) w w1→Flat P (.fn A C) w1 (fun _ _=>True) w1.heap.size .no gf [a.eval u] []:=by
 have hclead:leads s (.cP fg A C caps)=false:=by
  cases z with
  | t k=>simp only [av] at hz; rw [←hz]; exact hld k
  | c=>simp [av] at hz
  | nil=>simp [av] at hz
  | fn f A C=>simp only [av] at hz; cases hz; rfl
 have hcaps:∀ c∈caps,leads s c=false∨∃ f A C c',c=.cP f A C c':=by
  intro c hc
  simp only [leads,List.any_eq_false] at hclead
  have:=hclead c hc
  cases c<;>first | exact .inl rfl | (exact .inl (by simpa [leads] using this)) | exact .inr ⟨_,_,_,_,rfl⟩
 intro w1 hA
 have hC1:=ah.along hC hld hob hA
 have hr1:bn P w1 (Gd B G0 (fh ob s [])) B a.tmps ((s,.dead)::env) (.cP fg A C caps) (a.eval u) (qK ob z):=by
  cases z with
  | t k=>
    have h1:=hC1.rep k
    simp only [av] at hz
    have hks:k≠s:=by rintro rfl; rw [hs] at hz; exact hne _ _ _ _ hz
    rw [kC hks,hz,eb _ _ hks] at h1
    rw [jH hu a]
    exact h1
  | c=>simp [av] at hz
  | nil=>simp [av] at hz
  | fn f A C=>
    simp only [av] at hz; cases hz
    obtain ⟨h0,cv,h1,h2⟩:=hgv
    obtain ⟨h3,h4⟩:=h2
    exact ⟨h0,cv,h1,h3,h4⟩
 have hcl1:jV cl ((s,.dead)::env) fg A C caps=some (.v (.fn A C) gf):=by
  rw [←hge]
  unfold jV
  rw [Mf hcaps]
 have ha:=Q7 (a:=a) (G':=fun _ _=>True) hgood hC1 hr1 hcl1
 obtain ⟨vs,hF,hv⟩:=ha
 have hv':a.eval u=vs.headD undef:=hv
 have hl:=Flat.len P (.fn A C) hF
 have:vs=[a.eval u]:=by
  match vs,hl with
  | [v],_=>rw [hv']; rfl
 rw [this] at hF
 exact hF
theorem alh {f:FuncId} {us:Array Operand} {ats:Array TypeId} {x u:Operand} {y z:Od} (hgood:Good P W0.t cl) (hC:ah P B G0 W0 n env a.tmps w ob) (hK:bE P B G0 W0 n a K r next) (hd:∀ k,o.dst=some k→bl W0 n k) (hdst:i.dst=o.dst)
  (ho:o.op=.call {callee:=.value (.func f),args:=us,argTypes:=ats}) (hi:i.op=.bU f y z) (hus:us.toList=[x,u]) (hx:aF x y=true) (hu:aF u z=true) (h:step cl i env K=some r):o.wp P a w next Q:=by
 unfold step at h; rw [hi] at h; simp only [hdst] at h
 split at h
 case h_2=>simp at h
 rename_i s
 split at h
 case h_2=>simp at h
 rename_i _ _ e T xs fg A C caps hs hz
 split at h
 case h_2=>simp at h
 rename_i hc
 simp only [au,fj,du,beq_eq_false_iff_ne] at hc
 obtain ⟨⟨hlead,hap⟩,hbuf⟩:=hc
 simp only [az.eqn,aq] at h
 obtain ⟨ge,hge,res,hres,yv,hyv,ys,hys,h⟩:=h
 have hld:∀ k,leads s (look env k)=false:=Vz hlead
 obtain ⟨cells,hrow,hel,hob⟩:=Le hC hs
 have hev:=jH hx a
 have hgv:=fr hC hu
 rw [hz] at hgv
 -- the function's value
 have hge':∃ gf:den (.fn A C),ge=.v (.fn A C) gf:=by
  unfold jV at hge
  split at hge
  ·simp only [aq,aw] at hge
   obtain ⟨cs,_,rfl⟩:=hge
   exact ⟨_,rfl⟩
  ·simp at hge
 obtain ⟨gf,rfl⟩:=hge'
 have hfn:=Q6 hgood hC hld hob hs (by intro f A C c h; cases h) hu hz hgv hge
 obtain ⟨ys',rfl,hcal,hL⟩:=hgood.bU f e T xs A C gf res hres
 simp only [qN,aw] at hyv
 subst hyv
 have:=cL hys
 cases this
 have hrun:(execOp a.eval o).run P w=.ok (.enter f (us.map a.eval)) w:=by
  have:=mH hcal (us.map a.eval) w
  simp [execOp,ho,resolve,Deferred.ofValue,invoke,Act.eval,this]
 have e2:us.map a.eval=#[a.tmps.getD s undef,a.eval u]:=by apply jO.1; simp [hus,hev]
 rw [e2] at hrun
 have hnoG:∀ g i,(a.tmps.getD s undef).ownBlock=some g→¬ Gd B G0 ob g i:=by
  intro g i hg hG
  have hm:(g,0)∈ob s:=by rw [hob]; exact jY hg
  have hB:=(hC.low s g (aE.2 ⟨_,hm⟩)).1
  rcases hG with ⟨g1,_⟩ | ⟨_,_,g2⟩
  ·omega
  ·have:=g2 s 0 hm; omega
 refine kH hrun (Calls.mono (hL w B (Gd B G0 ob) _ (a.eval u) cells hbuf hrow hel hnoG hC.base hfn) ?_)
 rintro en w' ⟨v',cells',rfl,hA,hown,hrow',hel'⟩
 refine ⟨v',rfl,?_⟩
 have hbel:Below B w w':=⟨hA.os,hA.tape,hA.output,hA.size,fun k hk=>hA.rest k (dK hk hC.base) fun hv=>(by
  have hm:(k,0)∈ob s:=by rw [hob]; exact jY hv
  have:=(hC.low s k (aE.2 ⟨_,hm⟩)).1; omega),hA.drawn⟩
 cases bU:o.dst with
 | none=>
   rw [bU] at h
   exact hK _ _ _ _ (ah.along hC hld hob hA) h
 | some d=>
   rw [bU] at h
   rw [bU] at hap
   have hds:d≠s:=by simpa [apart] using hap
   have hob2:bN v' 0=ob s:=by rw [hob]; unfold bN; rw [hown]
   refine hK _ _ _ _ (ah.Lf (k:=s) (d:=d) (w':=w') (v:=v') (b1:=[]) (b2:=ob s) (b3:=[]) (bd:=ob s) (ek:=.dead) (ed:=.own true e T .no ys) (env':=aM ((s,.dead)::env) (some d) (.own true e T .no ys))
    hC hds (hd d bU) (by simp) rfl hbel (fun b hb hn=>hA.rest b hb fun hv=>hn (by rw [hob]; exact aE.2 ⟨_,jY hv⟩)) (fun b hb=>.inl hb) (hC.nodup s) (fun b i hb hb2 hg=>?_) ?_ ?_ (fun j hjs hjd=>?_) (fun j hjs hjd hdead=>?_) (fun hG=>?_) (fun hG=>?_)) h
   ·rw [hob] at hb2
    exact absurd hg (hnoG b i (Dg _ _ _ hb2))
   ·have e0:look ((s,E.dead)::env) s=.dead:=by rw [aP,if_pos rfl]
    rw [aM,iZ,if_neg hds,e0]; simp [leads]
   ·rw [aM,iZ,if_pos rfl]; simp [leads]
   ·rw [aM,iZ,if_neg (bu hjd),kC hjs,kC hds]
    by_cases hh:(look env d).home=true∧leads d (look env j)=true
    ·left; rw [if_pos hh]
    ·right; left; rw [if_neg hh]; exact ⟨rfl,hld j,hh⟩
   ·rw [aM,iZ,if_neg (bu hjd),kC hjs,kC hds] at hdead
    split at hdead
    ·rename_i hh
     refine ⟨(bn.leads hh.2 (hC.rep j)).2,?_⟩
     cases hl:look env j<;>rw [hl] at hh<;>first | rfl | (simp [leads] at hh)
    ·have hr:=hC.rep j
     rw [hdead] at hr ⊢
     exact ⟨hr,rfl⟩
   ·rfl
   ·change Flat P (.sl T) w' _ B (.own true e .no) ys [v'] _
    unfold Flat
    refine ⟨v',cells',[],rfl,hrow',aL.imp (fun x v b hb hx=>?_) hel',by rw [←hob2]; simp⟩
    have:b=[]:=by cases b with | nil=>rfl | cons q r=>exact absurd (hb q (by simp)) (by simp)
    subst this
    refine Flat.mono P T (fun b i hb hg=>⟨?_,rfl⟩) (bV.refl _ _) (by simp) hx
    rcases hg with hg | ⟨g1,g0,g2⟩
    ·exact .inl hg
    ·refine .inr ⟨g1,g0,fun k lim hk=>?_⟩
     by_cases h1:k=d
     ·subst h1; simp only [if_true] at hk; exact g2 s lim hk
     ·by_cases h2:k=s
      ·subst h2; simp [h1] at hk
      ·simp only [h1,h2,if_false] at hk; exact g2 k lim hk
end
end Go.Fw
/- Soundness: maps: keys, what is found, what is put. -/
namespace Go.Fw
open Go Go.RowKit
section
variable {P:Program} {w:World} {G:Nat→Nat→Prop} {B:Nat}
theorem Q4 (em:Bool):∀ (n:Nat),
  (∀ (d:Nat) (t:TypeId) (T:Ty) (x:den T) (vs:List Value),iv P n t T=true→n≤d→Flat P T w G B .no x vs []→(Instr.checkKey em d t (bh T vs)).run P w=.ok () w)∧
  (∀ (d:Nat) (fs:List Field) (T:Ty) (off:Nat) (x:den T) (v1 vs:List Value),nh P n fs T off=true→n≤d→Flat P T w G B .no x vs []→v1.length=off→
   ∀ g ∈ fs, g.name ≠ "_" ∧ ∃ v, (part g.type (v1 ++ vs).toArray g.offset).run P w = .ok v w ∧ (Instr.checkKey em d g.type v).run P w = .ok () w) := by
 intro n
 induction n with
 | zero=>exact ⟨fun d t T x vs h=>by simp [iv] at h,fun d fs T off x v1 vs h=>by simp [nh] at h⟩
 | succ n ih=>
   obtain ⟨ih1,ih2⟩:=ih
   refine ⟨fun d t T x vs h hd hx=>?_,fun d fs T off x v1 vs h hd hx hv=>?_⟩
   ·obtain ⟨d,rfl⟩:∃ d',d=d'+1:=⟨d - 1,by omega⟩
    unfold iv at h
    split at h
    ·rename_i k hk
     cases T<;>first | (exfalso; simp at h; done) | skip
     unfold Flat at hx; obtain ⟨rfl,_⟩:=hx
     simp [Instr.checkKey,run_underlying hk,bh,cA]
    ·rename_i hk
     cases T<;>first | (exfalso; simp at h; done) | skip
     unfold Flat at hx; obtain ⟨rfl,_⟩:=hx
     simp [Instr.checkKey,run_underlying hk,bh,cA]
    ·rename_i hk
     cases T<;>first | (exfalso; simp at h; done) | skip
     unfold Flat at hx; obtain ⟨rfl,_⟩:=hx
     simp [Instr.checkKey,run_underlying hk,bh,cA]
    ·rename_i fs hk
     simp only [au,du] at h
     obtain ⟨⟨h1,h2⟩,h3⟩:=h
     have e1:bh T vs=.agg vs.toArray:=by unfold bh; rw [if_pos h1]
     rw [e1,Instr.checkKey]
     simp only [Sem.run_bind,run_underlying hk,Result.andThen_ok]
     rw [←Array.forIn_toList]
     have each:=ih2 d fs.toList T 0 x [] vs h3 (by omega) hx rfl
     rw [List.nil_append] at each
     generalize fs.toList=L at each
     induction L with
     | nil=>simp
     | cons g L ih=>
       obtain ⟨hn,v,p1,p2⟩:=each g (by simp)
       simp only [List.forIn_cons,Sem.run_bind,hn,ne_eq,not_false_eq_true,if_true,Result.andThen_ok,p1,p2,Sem.run_pure]
       exact ih fun y hy=>each y (by simp [hy])
    ·simp at h
   ·cases fs with
    | nil=>intro g hg; simp at hg
    | cons g fs=>
      unfold nh at h
      cases T<;>first | (exfalso; simp at h; done) | skip
      rename_i A C
      simp only [au,du,beq_iff_eq] at h
      obtain ⟨⟨⟨⟨h1,h2⟩,h3⟩,h4⟩,h5⟩:=h
      unfold Flat at hx
      obtain ⟨p1,p2,b1,b2,rfl,hob,hx1,hx2⟩:=hx
      obtain ⟨rfl,rfl⟩:=List.append_eq_nil_iff.1 hob.symm
      have hT:bH P g.type A:=⟨⟨64,h3⟩⟩
      have l1:=Flat.len P A hx1
      have r1:=zb hT w (v1:=v1) (v3:=p2) l1
      rw [hv,bO,←h2] at r1
      have r3:=ih1 d g.type A x.1 p1 h4 (by omega) hx1
      have hne : g.name ≠ "_" := by intro e; rw [e] at h1; simp at h1
      have:=ih2 d fs C (off+ay A) x.2 (v1++p1) p2 h5 (by omega) hx2 (by simp [hv,l1])
      rw [bO] at this
      intro g' hg'
      rcases cS.1 hg' with rfl | hg'
      ·exact ⟨hne,_,r1,r3⟩
      ·exact this g' hg'
def ud (P:Program) (w:World) (G:Nat→Nat→Prop) (B:Nat) (K V:Ty) (x:den K×den V) (m:MapEntry):Prop:=
 ∃ ks us,Flat P K w G B .no x.1 ks []∧Flat P V w G B .no x.2 us []∧m.key=bh K ks∧m.val=bh V us
theorem Jg {kt:TypeId} {K V:Ty} {f:den K→den K→Bool} (hk:iv P 64 kt K=true) (hf:eg K=some f) {k:den K} {ks:List Value} (hks:Flat P K w G B .no k ks []):
  ∀ (xs:List (den K×den V)) (es:List MapEntry) (i:Nat),eF (ud P w G B K V) xs es→
    (∃ j e us,(Instr.findAsking kt (bh K ks) es i).run P w=.ok (some (i+j,e.val)) w∧es[j]?=some e∧j < xs.length∧(∀ l,l < j→∃ q,xs[l]?=some q∧f k q.1=false)∧(∃ q,xs[j]?=some q∧f k q.1=true∧Flat P V w G B .no q.2 us []∧e.val=bh V us))∨
    ((Instr.findAsking kt (bh K ks) es i).run P w=.ok none w∧∀ q∈xs,f k q.1=false)
 | [],es,i,h=>by
   have:es=[]:=h
   subst this
   exact .inr ⟨by simp [Instr.findAsking],by simp⟩
 | x::xs,es,i,h=>by
   obtain ⟨m,r,rfl,⟨qs,us,k1,k2,k3,k4⟩,h2⟩:=h
   have he:(Op.equal kt (bh K ks) m.key).run P w=.ok (f k x.1) w:=by
    rw [k3]; exact (RN (P:=P) (w:=w) (G:=G) (B:=B) 64).1 10000 kt K f k x.1 ks qs hk (by decide) hf hks k1
   cases hb:f k x.1 with
   | true=>
     left
     refine ⟨0,m,us,?_,rfl,by simp,fun l hl=>absurd hl (by omega),x,rfl,hb,k2,k4⟩
     simp [Instr.findAsking,he,hb]
   | false=>
     have hrun:(Instr.findAsking kt (bh K ks) (m::r) i).run P w=(Instr.findAsking kt (bh K ks) r (i+1)).run P w:=by
      simp [Instr.findAsking,he,hb]
     rcases Jg hk hf hks xs r (i+1) h2 with ⟨j,e,us',g1,g2,g3,g4,g5⟩ | ⟨g1,g2⟩
     ·left
      refine ⟨j+1,e,us',by rw [hrun,g1]; congr 3; omega,by simpa using g2,by simpa using g3,fun l hl=>?_,by simpa using g5⟩
      cases l with
      | zero=>exact ⟨x,rfl,hb⟩
      | succ l=>obtain ⟨q,q1,q2⟩:=g4 l (by omega); exact ⟨q,by simpa using q1,q2⟩
     ·right
      refine ⟨by rw [hrun,g1],fun q hq=>?_⟩
      rcases cS.1 hq with rfl | hq
      ·exact hb
      ·exact g2 q hq
theorem VE {α β:Type} {f:α→α→Bool} {z:β} {k:α}:∀ {xs:List (α×β)} {j:Nat} {q:α×β},(∀ l,l < j→∃ q,xs[l]?=some q∧f k q.1=false)→xs[j]?=some q→f k q.1=true→iA f z xs k=(q.2,true)
 | [],_,_,_,h,_=>by simp at h
 | x::xs,0,q,_,h,hf=>by simp at h; subst h; simp [iA,hf]
 | x::xs,j+1,q,hl,h,hf=>by
   obtain ⟨q0,h0,h1⟩:=hl 0 (by omega)
   simp at h0; subst h0
   simp only [iA,h1]
   exact VE (j:=j) (fun l hlt=>by have:=hl (l+1) (by omega); simpa using this) (by simpa using h) hf
theorem VG {α β:Type} {f:α→α→Bool} {z:β} {k:α}:∀ {xs:List (α×β)},(∀ q∈xs,f k q.1=false)→iA f z xs k=(z,false)
 | [],_=>rfl
 | x::xs,h=>by simp only [iA,h x (by simp)]; exact VG fun q hq=>h q (by simp [hq])
theorem VI {α β:Type} {f:α→α→Bool} {k:α} {v:β}:∀ {xs:List (α×β)},(∀ q∈xs,f k q.1=false)→ja f xs k v=xs++[(k,v)]
 | [],_=>rfl
 | x::xs,h=>by simp only [ja,h x (by simp)]; rw [VI fun q hq=>h q (by simp [hq])]; rfl
theorem eF.snoc {α:Type} {R:α→MapEntry→Prop} {x:α} {m:MapEntry} (hx:R x m):∀ {xs:List α} {l:List MapEntry},eF R xs l→eF R (xs++[x]) (l++[m])
 | [],l,h=>by have:l=[]:=h; subst this; exact ⟨m,[],rfl,hx,rfl⟩
 | y::xs,_,h=>by
   obtain ⟨m',r,rfl,h1,h2⟩:=h
   exact ⟨m',r++[m],rfl,h1,eF.snoc hx h2⟩
theorem eF.put {α β:Type} {R:α×β→MapEntry→Prop} {f:α→α→Bool} {k:α} {v:β} {m:MapEntry} (hx:R (k,v) m):∀ {xs:List (α×β)} {l:List MapEntry} {j:Nat},eF R xs l→(∀ i,i < j→∃ q,xs[i]?=some q∧f k q.1=false)→(∃ q,xs[j]?=some q∧f k q.1=true)→
  eF R (ja f xs k v) (l.set j m)
 | [],_,_,_,_,⟨q,h,_⟩=>by simp at h
 | y::xs,_,0,h,_,⟨q,h1,h2⟩=>by
   obtain ⟨m',r,rfl,h3,h4⟩:=h
   simp at h1; subst h1
   simp only [ja,h2]
   exact ⟨m,r,rfl,hx,h4⟩
 | y::xs,_,j+1,h,hl,⟨q,h1,h2⟩=>by
   obtain ⟨m',r,rfl,h3,h4⟩:=h
   obtain ⟨q0,g0,g1⟩:=hl 0 (by omega)
   simp at g0; subst g0
   simp only [ja,g1]
   exact ⟨m',r.set j m,rfl,h3,eF.put hx h4 (fun i hi=>by have:=hl (i+1) (by omega); simpa using this) ⟨q,by simpa using h1,h2⟩⟩
end
end Go.Fw
/- Soundness: maps that a record holds. -/
namespace Go.Fw
open Go Go.RowKit
section
variable {P:Program} {B:Nat} {G0:Nat→Nat→Prop} {W0:dc} {n:Nat} {env:Env} {tm:Array Value} {a:Act} {w:World} {ob:Nat→OB} {cl:az}
variable {R:Type} {K:cM R} {r:R} {next:Act→World→Prop} {Q:Exit→Act→World→Prop} {o:Oper} {i:AI}
theorem alx {t:TypeId} {K0 V0:Ty} (hC:ah P B G0 W0 n env a.tmps w ob) (hK:bE P B G0 W0 n a K r next) (hd:∀ k,o.dst=some k→bl W0 n k) (hdst:i.dst=o.dst)
  (ho:o.op=.makeMap t none) (hi:i.op=.De K0 V0) (h1:cB K0=true) (h2:cB V0=true) (h:step cl i env K=some r):o.wp P a w next Q:=by
 unfold step at h; rw [hi] at h; simp only [hdst] at h
 refine bp (v:=.map (some w.heap.size)) (w':=w.alloc (.map #[] 0)) (by simp only [execOp,ho,Instr.makeMap,newObj]; rfl) ?_
 have hg:aO w (w.alloc (.map #[] 0)):=aO.alloc w _
 cases bU:o.dst with
 | none=>rw [bU] at h; exact bz (d:=none) (e:=.dead) hC hK (fun _ h=>by cases h) hg (v:=undef) rfl h
 | some k=>
   rw [bU] at h
   have h3:=ah.mF (e:=.nm (.map K0 V0) .mp []) (v:=.map (some w.heap.size)) (bk:=[(w.heap.size,0)]) hC (hd k bU) hg ?_ (by simp) (by simp)
   ·exact hK _ _ _ _ h3 h
   ·rw [if_neg (by simp [leads])]
    refine ⟨[.map (some w.heap.size)],?_,rfl⟩
    unfold Flat
    exact ⟨h1,h2,w.heap.size,#[],0,rfl,hC.base,heap_alloc_new w _,rfl,rfl⟩
theorem ah.pass {k d:Nat} (hC:ah P B G0 W0 n env tm w ob) (hkd:d≠k) (hd:bl W0 n d) (hk:(look env k).home=false) {e:E} (hle:leads d e=false) {v:Value} {w':World} (hg:aO w w') {bd:OB}
  (hbd:∀ b,b∈blocks bd→b∈blocks (ob k)∨(w.heap.size≤b∧b < w'.heap.size)) (hnd:(blocks bd).Nodup) (hlim:∀ b lim,(b,lim)∈bd→b < w.heap.size→(b,lim)∈ob k)
  (hrep:(∀ b i,b < w.heap.size→Gd B G0 ob b i→Gd B G0 (fun s=>if s=d then bd else if s=k then [] else ob s) b i∧w'.cell? ⟨b,i,none⟩=w.cell? ⟨b,i,none⟩)→
   bn P w' (Gd B G0 (fun s=>if s=d then bd else if s=k then [] else ob s)) B (tm.setIfInBounds d v) (Fw.aM ((k,.dead)::env) (some d) e) e v bd):
  ah P B G0 W0 n (Fw.aM ((k,.dead)::env) (some d) e) (tm.setIfInBounds d v) w' (fun s=>if s=d then bd else if s=k then [] else ob s):=by
 have hnl:∀ j,leads k (look env j)=false:=fun j=>by
  cases h:leads k (look env j) with
  | false=>rfl
  | true=>rw [(bn.leads h (hC.rep j)).1] at hk; cases hk
 refine ah.Lf (k:=k) (d:=d) (w':=w') (v:=v) (b1:=[]) (b2:=ob k) (b3:=[]) (bd:=bd) (ek:=.dead) (ed:=e) (env':=Fw.aM ((k,.dead)::env) (some d) e)
   hC hkd hd (by simp) rfl (hg.below hC.base) (fun b hb _=>hg.block b hb) hbd hnd (fun b i hb hb2 hgd=>⟨fun lim hl=>?_,hg.cell hb⟩) ?_ ?_ (fun j hjs hjd=>?_) (fun j hjs hjd hdead=>?_) (fun _=>rfl) hrep
 ·have hm:=hlim b lim hl hb
  rcases hgd with ⟨q,_⟩ | ⟨_,_,q⟩
  ·have:=(hC.low k b hb2).1; omega
  ·exact q k lim hm
 ·have e0:look ((k,E.dead)::env) k=.dead:=by rw [aP,if_pos rfl]
  rw [Fw.aM,iZ,if_neg hkd,e0]; simp [leads]
 ·rw [Fw.aM,iZ,if_pos rfl,hle]; simp
 ·rw [Fw.aM,iZ,if_neg (bu hjd),kC hjs,kC hkd]
  by_cases hh:(look env d).home=true∧leads d (look env j)=true
  ·left; rw [if_pos hh]
  ·right; left; rw [if_neg hh]; exact ⟨rfl,hnl j,hh⟩
 ·rw [Fw.aM,iZ,if_neg (bu hjd),kC hjs,kC hkd] at hdead
  split at hdead
  ·rename_i hh
   refine ⟨(bn.leads hh.2 (hC.rep j)).2,?_⟩
   cases hl:look env j<;>rw [hl] at hh<;>first | rfl | (simp [leads] at hh)
  ·have hr:=hC.rep j
   rw [hdead] at hr ⊢
   exact ⟨hr,rfl⟩
theorem RQ {place:Nat→Option (Nat×Nat)}:∀ (l1 l2:List (Nat×Value)) (cells:Array Value),Instr.fill place cells (l1++l2)=(Instr.fill place cells l1).bind fun c=>Instr.fill place c l2
 | [],_,_=>rfl
 | (f,v)::l1,l2,cells=>by
   simp only [List.cons_append,Instr.fill]
   split
   ·rfl
   ·split
    ·rfl
    ·exact RQ l1 l2 _
theorem ak5 {t:TypeId} {T:Ty} {p:Path} {k f:Nat} {us0:List (Nat×Operand)} {us:Array (Nat×Operand)} {ys:List (Path×Od)} (hC:ah P B G0 W0 n env a.tmps w ob) (hK:bE P B G0 W0 n a K r next) (hd:∀ k,o.dst=some k→bl W0 n k) (hdst:i.dst=o.dst)
  (ho:o.op=.build t us) (hi:i.op=.Ac T p k ys) (hz:mV P t T) (hagg:cA T=true) (hus:us.toList=us0++[(f,.tmp k)]) {fs:Array Field} {places:List (Nat×Nat)} {A:Ty} (hu:P.underlying t=some (.struct fs)) (hpl:fs.toList.mapM (fun f=>(P.info? f.type).map fun i=>(f.offset,i.size))=some places)
  (hok:gJ T (places.toArray[·]?) us0 ys=true) (hA:cR T p=some A) (hpf:places.toArray[f]?=some (a8 T p,ay A)) (h:step cl i env K=some r):o.wp P a w next Q:=by
 unfold step at h; rw [hi] at h; simp only [hdst,aq] at h
 obtain ⟨⟨env',x⟩,hx,h⟩:=h
 simp only at h
 split at h
 case h_2=>simp at h
 rename_i T' x' hk
 split at h
 case h_2=>simp at h
 rename_i hc
 simp only [Bool.or_eq_false_iff,Bool.not_eq_false'] at hc
 simp only [aq] at h
 obtain ⟨y,hy,h⟩:=h
 obtain ⟨it,z,vs,h1,h2,h3,h4⟩:=hz.ok
 have hcells:z.cells=vs.toArray:=by rw [h4]; exact kj (uR h3) (uS h3)
 have hF0:Flat P T w (Gd B G0 ob) B .no (zero T) vs.toArray.toList []:=by simpa using gw P T w _ B .no (gw.annOk_no T) h3
 obtain ⟨ob',cells',hf,hC',h5,h6⟩:=uH hC hok hF0 hx
 -- the map's part
 obtain ⟨y0,hy0⟩:=fU p T hy
 obtain ⟨v1,v2,v3,b1,b2,b3,e1,e2,e3,e4,e5⟩:=Flat.lens P p T h6 hy0
 have hb:b1=[]∧b2=[]∧b3=[]:=by
  have:b1++b2++b3=[]:=e2.symm
  simp at this; exact ⟨this.1,this.2.1,this.2.2⟩
 obtain ⟨rfl,rfl,rfl⟩:=hb
 have hAT:A=T':=by
  have:=qo p T h6 hy0
  rw [this] at hA; cases hA; rfl
 subst hAT
 have hrk:=hC'.rep k
 rw [hk] at hrk
 obtain ⟨ms,hm1,hm2⟩:=hrk
 have hml:=Flat.len P A hm1
 have hl2:v2.length=ay A:=Flat.len P A e4
 have hmc:(a.eval (.tmp k)).cells=ms.toArray:=by
  show (a.tmps.getD k undef).cells=_
  rw [hm2]; exact kj (Flat.len P A hm1) (Flat.one P A rfl hm1)
 have hnew:=e5 .mp x' ms (ob' k) y (fun hh=>by rw [hc.1] at hh; cases hh) hm1 hy
 have hfill:Instr.fill (places.toArray[·]?) cells' [(f,a.eval (.tmp k))]=some (v1++ms++v3).toArray:=by
  have:=Ck (place:=(places.toArray[·]?)) (rest:=[]) hpf hmc hml e1 e3 hl2
  rw [this]; rfl
 refine bp (v:=.agg (v1++ms++v3).toArray) (w':=w) ?_ ?_
 ·have hbt:P.built t ((us.map fun (i,x)=>(i,a.eval x))).toList=some (v1++ms++v3).toArray:=by
   simp only [Program.built,h1,hu,h2,hpl,hcells]
   have:(us.map fun (i,x)=>(i,a.eval x)).toList=(us0.map fun q=>(q.1,a.eval q.2))++[(f,a.eval (.tmp k))]:=by simp [hus]
   rw [this,RQ,h5]
   exact hfill
  have:=run_build (P:=P) w t (us.map fun (i,x)=>(i,a.eval x)) _ hbt
  simp [execOp,ho,this]
 ·cases bU:o.dst with
  | none=>
    rw [bU] at hc; simp [apart] at hc
  | some d=>
    rw [bU] at h hc
    have hdk:d≠k:=by simpa [apart] using hc.2
    refine hK _ _ _ _ (ah.pass (k:=k) (d:=d) (e:=.nm T (fa .no p .mp) y) (bd:=ob' k) hC' hdk (hd d bU) (by rw [hk]; rfl) rfl (aO.refl w) (fun b hb=>.inl hb) (hC'.nodup k) (fun b lim hb _=>hb) (fun hG=>?_)) h
    refine ⟨v1++ms++v3,?_,by rw [o4 hagg]⟩
    have hnew':Flat P T w (Gd B G0 ob') B (fa .no p .mp) y (v1++ms++v3) (ob' k):=by simpa using hnew
    exact Flat.mono P T (fun b i hb hg=>hG b i hb hg) (bV.refl _ _) (fun _ _=>rfl) hnew'
theorem ak3 {t:TypeId} {T:Ty} {k:Nat} (hC:ah P B G0 W0 n env a.tmps w ob) (hK:bE P B G0 W0 n a K r next) (hd:∀ k,o.dst=some k→bl W0 n k) (hdst:i.dst=o.dst)
  (ho:o.op=.box t (.tmp k)) (hi:i.op=.Ab T k) (h:step cl i env K=some r):o.wp P a w next Q:=by
 unfold step at h; rw [hi] at h; simp only [hdst] at h
 split at h
 case h_2=>simp at h
 rename_i T' oa x hk
 simp only [aq] at h
 obtain ⟨y,hy,h⟩:=h
 have:=cL hy
 cases this
 split at h
 case h_2=>simp at h
 rename_i hap
 have hrk:=hC.rep k
 rw [hk] at hrk
 obtain ⟨vs,hF,hv⟩:=hrk
 simp only [au] at hap
 obtain ⟨hap,hwh⟩:=hap
 ·have h1:∀ u∈vs,u.oneCell'=true:=Flat.one P T hwh hF
  have hcells:(a.eval (.tmp k)).cells=vs.toArray:=by
   show (a.tmps.getD k undef).cells=_
   rw [hv]; exact kj (Flat.len P T hF) h1
  have hg:aO w (w.alloc (.cells vs.toArray t)):=aO.alloc w _
  refine bp (v:=.pointer (some ⟨w.heap.size,0,none⟩)) (w':=w.alloc (.cells vs.toArray t)) (by simp [execOp,ho,Instr.box,newVar,newRow,hcells]) ?_
  cases bU:o.dst with
  | none=>rw [bU] at hap; simp [apart] at hap
  | some d=>
    rw [bU] at h hap
    have hdk:d≠k:=by simpa [apart] using hap
    refine hK _ _ _ _ (ah.pass (k:=k) (d:=d) (e:=.loc T oa y) (bd:=(w.heap.size,0)::ob k) hC hdk (hd d bU) (by rw [hk]; rfl) rfl hg (fun b hb=>?_) ?_ (fun b lim hb hlt=>?_) (fun hG=>?_)) h
    ·rw [jU] at hb
     rcases cS.1 hb with rfl | hb
     ·exact .inr ⟨cE _,by simp⟩
     ·exact .inl hb
    ·rw [jU,oS]
     exact ⟨fun hb=>by have:=(hC.low k _ hb).2; omega,hC.nodup k⟩
    ·rcases cS.1 hb with hb | hb
     ·cases hb; omega
     ·exact hb
    ·refine ⟨w.heap.size,vs.toArray,t,ob k,rfl,hC.base,heap_alloc_new w _,?_,rfl⟩
     have hF2:Flat P T w (Gd B G0 ob) B oa y vs.toArray.toList (ob k):=by simpa using hF
     exact Flat.mono P T (fun b i hb hg'=>hG b i hb hg') ⟨hg.size,fun b hb=>hg.block b (dK hb hC.base)⟩ (fun g hg'=>hg.block g (hC.low k g hg').2) hF2
theorem ah.ar2 (hC:ah P B G0 W0 n env tm w ob) {s b:Nat} (hb:(b,0)∈ob s) {w2:World} (iX:w2.os=w.os) (htp:w2.tape=w.tape) (hou:w2.output=w.output) (hdr:w.drawn≤w2.drawn) (hsz:w2.heap.size=w.heap.size) (hoth:∀ k,k≠b→w2.heap[k]?=w.heap[k]?) {e:E}
  (hhome:eL w tm env w2 tm ((s,e)::env) s) (hnew:bn P w2 (Gd B G0 ob) B tm ((s,e)::env) e (tm.getD s undef) (ob s)):ah P B G0 W0 n ((s,e)::env) tm w2 ob:=by
 have hlow:=hC.low s b (aE.2 ⟨_,hb⟩)
 refine ah.step hC ⟨fun k b hb=>.inl ⟨k,hb⟩,fun b' _ hn=>hoth b' (by rintro rfl; exact hn s (aE.2 ⟨_,hb⟩))⟩ ⟨iX,htp,hou,by rw [hsz]; exact cE _,fun k hk=>hoth k (by omega),hdr⟩ (fun b' i _ h=>⟨h,?_⟩) (fun j=>?_) hC.dist hC.nodup (fun k b' hb'=>by rw [hsz]; exact hC.low k b' hb') hC.size (fun _ _=>rfl)
 ·refine World.cell?_of_block (w:=w) (hoth b' ?_)
  rintro rfl
  rcases h with ⟨h,_⟩ | ⟨_,_,h⟩
  ·omega
  ·exact absurd (h s 0 hb) (by simp)
 ·by_cases hj:j=s
  ·subst hj; right; rw [aP,if_pos rfl]; exact hnew
  ·left
   rw [aP,if_neg (bu hj)]
   refine ⟨rfl,rfl,rfl,fun g hg=>hoth g ?_,fun t ht=>?_⟩
   ·rintro rfl; exact hj (hC.dist j s _ hg (aE.2 ⟨_,hb⟩))
   ·by_cases hts:t=s
    ·subst hts; exact hhome
    ·refine eL.same (P:=P) (by rw [aP,if_neg (bu hts)]) rfl (hC.rep t) (fun g hg=>hoth g ?_)
     rintro rfl; exact hts (hC.dist t s _ hg (aE.2 ⟨_,hb⟩))
theorem Kv:∀ (q p:Path) (T0:Ty) {x x1:den T0} {A U:Ty} {z:den A} {y:den U},a6 T0 p x ⟨A,z⟩=some x1→cA A=false→cC q=false→aH T0 q x=some ⟨U,y⟩→cA U=false→q≠p→aH T0 q x1=some ⟨U,y⟩
 | [],p,T0,x,x1,A,U,z,y,hs,hA,_,hg,hU,hne=>by
   exfalso
   have:T0=U:=by
    simp only [aH,aw] at hg
    exact (Sigma.mk.inj hg).1
   subst this
   cases p with
   | nil=>exact hne rfl
   | cons st p=>cases T0<;>simp [cA] at hU<;>cases st<;>simp [a6] at hs
 | .l::q,p,T0,x,x1,A,U,z,y,hs,hA,hx,hg,hU,hne=>by
   cases T0 with
   | pair C D=>
     simp only [aH] at hg ⊢
     simp only [cC] at hx
     match p,hs,hne with
     | [],hs,_=>
       simp only [a6] at hs
       have:=cL hs
       cases this
       simp [cA] at hA
     | .l::p,hs,hne=>
       simp only [a6,aq,aw] at hs
       obtain ⟨u,hu,rfl⟩:=hs
       exact Kv q p C hu hA hx hg hU (fun e=>hne (by rw [e]))
     | .r::p,hs,_=>
       simp only [a6,aq,aw] at hs
       obtain ⟨u,hu,rfl⟩:=hs
       exact hg
     | .ix i::p,hs,_=>simp [a6] at hs
   | _=>simp [aH] at hg
 | .r::q,p,T0,x,x1,A,U,z,y,hs,hA,hx,hg,hU,hne=>by
   cases T0 with
   | pair C D=>
     simp only [aH] at hg ⊢
     simp only [cC] at hx
     match p,hs,hne with
     | [],hs,_=>
       simp only [a6] at hs
       have:=cL hs
       cases this
       simp [cA] at hA
     | .r::p,hs,hne=>
       simp only [a6,aq,aw] at hs
       obtain ⟨u,hu,rfl⟩:=hs
       exact Kv q p D hu hA hx hg hU (fun e=>hne (by rw [e]))
     | .l::p,hs,_=>
       simp only [a6,aq,aw] at hs
       obtain ⟨u,hu,rfl⟩:=hs
       exact hg
     | .ix i::p,hs,_=>simp [a6] at hs
   | _=>simp [aH] at hg
 | .ix _::_,_,_,_,_,_,_,_,_,_,_,hx,_,_,_=>by simp [cC] at hx
theorem VJ (hC:ah P B G0 W0 n env a.tmps w ob) {x:Operand} {xo:Od} (hx:aF x xo=true) {s:Nat} {p:Path} (he:av env xo=.ref s p) {T0:Ty} {oa:ax} {x0:den T0} (hs:look env s=.loc T0 oa x0) (ha:cd oa p=.mp)
  {K0 V0:Ty} {xs:List (den K0×den V0)} (hg:aH T0 p x0=some ⟨.map K0 V0,xs⟩):
  ∃ b ents clk,a.eval x=.map (some b)∧w.heap[b]?=some (.map ents clk)∧(b,0)∈ob s∧cB K0=true∧cB V0=true∧eF (ud P w (Gd B G0 ob) B K0 V0) xs ents.toList:=by
 have hr:=fr hC hx
 rw [he] at hr
 obtain ⟨_,hh,_⟩:=hr
 obtain ⟨b',cur,e'',v1,v2,v3,b1,b2,b3,k1,k2,k3,k4,k5,k6,k7,_⟩:=kY hC hs hg
 rw [ha] at k7
 unfold Flat at k7
 obtain ⟨m1,m2,b,ents,clk,rfl,m3,m4,rfl,m5⟩:=k7
 have hcell:=nR k2 k4 0 (.map (some b)) rfl
 simp only [bj,hs,k1] at hh
 rw [k5,Nat.add_zero] at hcell
 rw [hcell] at hh
 exact ⟨b,ents,clk,(Option.some.inj hh).symm,m4,by rw [k6]; simp,m1,m2,m5⟩
theorem Lm {b:Nat} {ents:Array MapEntry} {clk:Nat} (h:w.heap[b]?=some (.map ents clk)):(getObj b).run P w=.ok (.map ents clk) w:=by
 simp [getObj,Sem.run,h]
theorem asI {kt:TypeId} {K0:Ty} (hka:cA K0=true) (hke:iv P 64 kt K0=true):(match P.underlying kt with | some (.array _ _) | some (.struct _)=>true | _=>false)=true:=by
 unfold iv at hke
 split at hke<;>first | (rename_i hq; rw [hq]; done) | (cases K0<;>simp [cA] at hka hke) | skip
 all_goals first | (rename_i hq; simp [hq]; done) | (simp at hke; done) | skip
theorem Wi {t kt et:TypeId} {b:Nat} {ents:Array MapEntry} {clk:Nat} {key:Value} (hu:P.underlying t=some (.map kt et)) (h2:w.heap[b]?=some (.map ents clk)) (hck:(Instr.checkKey ents.isEmpty 10000 kt key).run P w=.ok () w)
  (hwide:(match P.underlying kt with | some (.array _ _) | some (.struct _)=>true | _=>false)=true) {vv:Option (Nat×Value)} (hf:(Instr.findAsking kt key ents.toList).run P w=.ok vv w):
  (Instr.lookup t (.map (some b)) key true).run P w=(match vv with | some q=>(pure (.tuple #[q.2,.bool true]):Sem Value).run P w | none=>(zeroValue et).run P w |>.andThen fun z w'=>.ok (.tuple #[z,.bool false]) w'):=by
 have h3:(Instr.findKey kt key ents.toList).run P w=.ok vv w:=by rw [run_findKey_eq w hwide]; exact hf
 simp only [Instr.lookup,Sem.run_bind,run_underlying hu,Result.andThen_ok,Lm h2,Sem.run_pure,hck,h3]
 cases vv with
 | none=>simp only [Sem.run_bind,Sem.run_pure,if_true]; cases (zeroValue et).run P w<;>rfl
 | some q=>simp
theorem alu {t kt et:TypeId} {K0 V0:Ty} {x y:Operand} {xo yo:Od} (hC:ah P B G0 W0 n env a.tmps w ob) (hK:bE P B G0 W0 n a K r next) (hd:∀ k,o.dst=some k→bl W0 n k) (hdst:i.dst=o.dst)
  (ho:o.op=.lookup t x y true) (hi:i.op=.Dd K0 V0 xo yo) (hu:P.underlying t=some (.map kt et)) (hka:cA K0=true) (hke:iv P 64 kt K0=true) (hz:mV P et V0) (hx:aF x xo=true) (hy:aF y yo=true) (h:step cl i env K=some r):o.wp P a w next Q:=by
 unfold step at h; rw [hi] at h; simp only [hdst] at h
 split at h
 case h_2=>simp at h
 rename_i s p he
 split at h
 case h_2=>simp at h
 rename_i T0 oa x0 hs
 split at h
 case h_2=>simp at h
 rename_i ha
 simp only [aq] at h
 obtain ⟨z,hg,xs,hxs,kk,hk,k,hkc,f,hf,h⟩:=h
 have:=cL hxs; subst this
 have:=cL hkc; subst this
 obtain ⟨b,ents,clk,e1,e2,_,m1,m2,m3⟩:=VJ hC hx he hs ha hg
 obtain ⟨ks,f1,f2⟩:=mu hC hy hk
 have f3:Flat P K0 w (Gd B G0 ob) B .no k ks []:=(Flat.eZ P K0 m1 f2).2 _ _ _ _
 have hck:=(Q4 (P:=P) (w:=w) (G:=Gd B G0 ob) (B:=B) ents.isEmpty 64).1 10000 kt K0 k ks hke (by decide) f3
 have hwide:(match P.underlying kt with | some (.array _ _) | some (.struct _)=>true | _=>false)=true:=by
  unfold iv at hke
  split at hke<;>first | (rename_i hq; rw [hq]; done) | (cases K0<;>simp [cA] at hka hke) | skip
  all_goals first | (rename_i hq; simp [hq]; done) | (simp at hke; done) | skip
 obtain ⟨it,zv,zs,z1,z2,z3,z4⟩:=hz.ok
 have hzv:(zeroValue et).run P w=.ok zv w:=by simp only [zeroValue,typeInfo,run_program,Sem.run_bind,z1,z2,Sem.run_pure,Result.andThen_ok]
 have f1':a.eval y=bh K0 ks:=f1
 rcases Jg hke hf f3 xs ents.toList 0 m3 with ⟨j,e,us,g1,g2,g3,g4,⟨q,g5,g6,g7,g8⟩⟩ | ⟨g1,g2⟩
 ·have hl:=Wi hu e2 hck hwide g1
  refine bp (v:=.tuple #[e.val,.bool true]) (w':=w) (by simp only [execOp,ho,e1,f1',Sem.run_bind,hl]; simp) (bz hC hK hd (aO.refl w) ?_ h)
  rw [VE g4 g5 g6]
  refine ⟨by simp [leads],_,rfl,e.val,[.bool true],[],[],rfl,rfl,⟨rfl,us,g7,g8⟩,.bool true,[],[],[],rfl,rfl,⟨rfl,[.bool true],by unfold Flat; exact ⟨rfl,rfl⟩,rfl⟩,rfl,rfl⟩
 ·have hl:=Wi hu e2 hck hwide g1
  refine bp (v:=.tuple #[zv,.bool false]) (w':=w) (by simp only [execOp,ho,e1,f1',Sem.run_bind,hl,hzv]; simp) (bz hC hK hd (aO.refl w) ?_ h)
  rw [VG g2]
  refine ⟨by simp [leads],_,rfl,zv,[.bool false],[],[],rfl,rfl,⟨rfl,zs,gw P V0 w _ B .no (gw.annOk_no V0) z3,z4⟩,.bool false,[],[],[],rfl,rfl,⟨rfl,[.bool false],by unfold Flat; exact ⟨rfl,rfl⟩,rfl⟩,rfl,rfl⟩
theorem D7:∀ (T:Ty) {f:den T→den T→Bool} {x y:den T},eg T=some f→f x y=true→x=y
 | .int k,f,x,y,hf,h=>by simp only [eg,aw] at hf; subst hf; exact eq_of_beq (α:=Int) h
 | .bool,f,x,y,hf,h=>by simp only [eg,aw] at hf; subst hf; exact eq_of_beq (α:=Bool) h
 | .str,f,x,y,hf,h=>by simp only [eg,aw] at hf; subst hf; exact eq_of_beq (α:=List UInt8) h
 | .unit,f,x,y,_,_=>rfl
 | .pair A C,f,x,y,hf,h=>by
   simp only [eg] at hf
   split at hf
   ·rename_i fA fC hA hCc
    simp only [aw] at hf; subst hf
    simp only [au] at h
    exact Prod.ext (D7 A hA h.1) (D7 C hCc h.2)
   ·cases hf
 | .sl T,f,x,y,hf,h=>by simp [eg] at hf
 | .arr n T,f,x,y,hf,h=>by simp [eg] at hf
 | .fn A C,f,x,y,hf,h=>by simp [eg] at hf
 | .map A C,f,x,y,hf,h=>by simp [eg] at hf
theorem Jh (P:Program):∀ (T:Ty) {f:den T→den T→Bool} {w w':World} {G G':Nat→Nat→Prop} {B B':Nat} {o o':ax} {x:den T} {vs us:List Value} {ob ob':OB},eg T=some f→Flat P T w G B o x vs ob→Flat P T w' G' B' o' x us ob'→vs=us∧∀ v∈vs,∀ m,Instr.sameBits m v v=true
 | .int k,_,_,_,_,_,_,_,_,_,_,_,_,_,_,_,h1,h2=>by unfold Flat at h1 h2; rw [h1.1,h2.1]; exact ⟨rfl,by simp [Instr.sameBits]⟩
 | .bool,_,_,_,_,_,_,_,_,_,_,_,_,_,_,_,h1,h2=>by unfold Flat at h1 h2; rw [h1.1,h2.1]; exact ⟨rfl,by simp [Instr.sameBits]⟩
 | .str,_,_,_,_,_,_,_,_,_,_,_,_,_,_,_,h1,h2=>by
   unfold Flat at h1 h2; rw [h1.1,h2.1]
   refine ⟨rfl,fun v hv m=>?_⟩
   obtain rfl:=gX.1 hv
   cases m<;>(show ((⟨_⟩:Array UInt8)==⟨_⟩)=true; simp)
 | .unit,_,_,_,_,_,_,_,_,_,_,_,_,_,_,_,h1,h2=>by unfold Flat at h1 h2; rw [h1.1,h2.1]; exact ⟨rfl,by simp⟩
 | .pair A C,f,_,_,_,_,_,_,_,_,_,_,_,_,_,hf,h1,h2=>by
   simp only [eg] at hf
   split at hf
   ·rename_i fA fC hA hCc
    unfold Flat at h1 h2
    obtain ⟨v1,v2,b1,b2,rfl,_,k1,k2⟩:=h1
    obtain ⟨u1,u2,c1,c2,rfl,_,l1,l2⟩:=h2
    obtain ⟨e1,m1⟩:=Jh P A hA k1 l1
    obtain ⟨e2,m2⟩:=Jh P C hCc k2 l2
    exact ⟨by rw [e1,e2],fun v hv=>(dD.1 hv).elim (m1 v) (m2 v)⟩
   ·cases hf
 | .sl T,f,_,_,_,_,_,_,_,_,_,_,_,_,_,hf,_,_=>by simp [eg] at hf
 | .arr n T,f,_,_,_,_,_,_,_,_,_,_,_,_,_,hf,_,_=>by simp [eg] at hf
 | .fn A C,f,_,_,_,_,_,_,_,_,_,_,_,_,_,hf,_,_=>by simp [eg] at hf
 | .map A C,f,_,_,_,_,_,_,_,_,_,_,_,_,_,hf,_,_=>by simp [eg] at hf
theorem XH {vs:List Value} (h:∀ v∈vs,∀ m,Instr.sameBits m v v=true) (m:Nat):Instr.sameBits (m+1) (.agg vs.toArray) (.agg vs.toArray)=true:=by
 simp only [Instr.sameBits,beq_self_eq_true,Bool.true_and,fj]
 intro q hq
 have:∀ (l:List Value) q,q∈l.zip l→q.1=q.2∧q.1∈l:=by
  intro l
  induction l with
  | nil=>intro q hq; simp at hq
  | cons a l ih=>
    intro q hq
    rw [List.zip_cons_cons] at hq
    rcases cS.1 hq with rfl | hq
    ·exact ⟨rfl,by simp⟩
    ·obtain ⟨e1,e2⟩:=ih q hq
     exact ⟨e1,by simp [e2]⟩
 obtain ⟨e1,e2⟩:=this _ q hq
 obtain ⟨q1,q2⟩:=q
 simp only at e1 e2
 subst e1
 exact h q1 e2 m
def gK (w:World) (b:Nat) (ob:Obj):World:={w with heap:=w.heap.setIfInBounds b ob}
theorem akO {b:Nat} {ob:Obj} (h:b < w.heap.size):(gK w b ob).heap[b]?=some ob:=by simp [gK,h]
theorem tP {b k:Nat} {ob:Obj} (h:k≠b):(gK w b ob).heap[k]?=w.heap[k]?:=by simp [gK,Array.getElem?_setIfInBounds,bu h]
theorem akB {t kt et:TypeId} {b:Nat} {ents:Array MapEntry} {clk:Nat} {key val:Value} (hu:P.underlying t=some (.map kt et)) (h2:w.heap[b]?=some (.map ents clk)) (hck:(Instr.checkKey false 10000 kt key).run P w=.ok () w)
  (hwide:(match P.underlying kt with | some (.array _ _) | some (.struct _)=>true | _=>false)=true):
  ((Instr.findAsking kt key ents.toList).run P w=.ok none w→(Instr.mapUpdate t (.map (some b)) key val).run P w=.ok () (gK w b (.map (ents.push {key,val:=val,born:=clk}) (clk+1))))∧
  (∀ (j:Nat) (v:Value) (e:MapEntry),(Instr.findAsking kt key ents.toList).run P w=.ok (some (j,v)) w→ents[j]?=some e→Instr.sameBits 10000 e.key key=true→
   (Instr.mapUpdate t (.map (some b)) key val).run P w=.ok () (gK w b (.map (ents.modify j fun e=>{e with key,val:=val}) clk))):=by
 have hs:∀ o',(setObj b o').run P w=.ok () (gK w b o'):=fun o'=>by simp [setObj,Sem.run,h2,gK]
 refine ⟨fun hf=>?_,fun j v e hf he hb=>?_⟩
 ·have h3:(Instr.findKey kt key ents.toList).run P w=.ok none w:=by rw [run_findKey_eq w hwide]; exact hf
  simp only [Instr.mapUpdate,Sem.run_bind,run_underlying hu,Result.andThen_ok,Lm h2,hck,h3,hs]
 ·have h3:(Instr.findKey kt key ents.toList).run P w=.ok (some (j,v)) w:=by rw [run_findKey_eq w hwide]; exact hf
  have h4:(Instr.keyThatStays (((ents[j]?).map (·.key)).getD key) key).run P w=.ok key w:=by
   rw [he]; simp only [oV,Option.getD_some,Instr.keyThatStays,hb,if_true,Sem.run_pure]
  simp only [Instr.mapUpdate,Sem.run_bind,run_underlying hu,Result.andThen_ok,Lm h2,hck,h3,h4,hs]
theorem eF.get {α:Type} {R:α→MapEntry→Prop}:∀ {xs:List α} {l:List MapEntry} {j:Nat} {x:α} {m:MapEntry},eF R xs l→xs[j]?=some x→l[j]?=some m→R x m
 | [],_,_,_,_,_,h,_=>by simp at h
 | y::xs,_,0,_,_,h,h1,h2=>by obtain ⟨m',r,rfl,h3,_⟩:=h; simp at h1 h2; subst h1; subst h2; exact h3
 | y::xs,_,j+1,_,_,h,h1,h2=>by obtain ⟨m',r,rfl,_,h4⟩:=h; exact eF.get h4 (by simpa using h1) (by simpa using h2)
theorem aly {t kt et:TypeId} {K0 V0:Ty} {x y u:Operand} {xo yo uo:Od} (hC:ah P B G0 W0 n env a.tmps w ob) (hK:bE P B G0 W0 n a K r next) (hdn:o.dst=none) (hdst:i.dst=o.dst)
  (ho:o.op=.mapUpdate t x y u) (hi:i.op=.Df K0 V0 xo yo uo) (hu:P.underlying t=some (.map kt et)) (hka:cA K0=true) (hke:iv P 64 kt K0=true) (hx:aF x xo=true) (hy:aF y yo=true) (hv:aF u uo=true) (h:step cl i env K=some r):o.wp P a w next Q:=by
 unfold step at h; rw [hi] at h; simp only at h
 split at h
 case h_2=>simp at h
 rename_i s p he
 split at h
 case h_2=>simp at h
 rename_i T0 oa x0 hs
 split at h
 case h_2=>simp at h
 rename_i ha
 simp only [aq] at h
 obtain ⟨z,hg,xs,hxs,kk,hk,k,hkc,vv,hvv,v,hvc,f,hf,x1,hset,h⟩:=h
 have:=cL hxs; subst this
 have:=cL hkc; subst this
 have:=cL hvc; subst this
 obtain ⟨b,ents,clk,e1,e2,hb0,m1,m2,m3⟩:=VJ hC hx he hs ha hg
 obtain ⟨ks,f1,f2⟩:=mu hC hy hk
 obtain ⟨us,g1,g2⟩:=mu hC hv hvv
 have f3:Flat P K0 w (Gd B G0 ob) B .no k ks []:=(Flat.eZ P K0 m1 f2).2 _ _ _ _
 have g3:∀ w':World,Flat P V0 w' (Gd B G0 ob) B .no v us []:=fun w'=>(Flat.eZ P V0 m2 g2).2 _ _ _ _
 have f4:∀ w':World,Flat P K0 w' (Gd B G0 ob) B .no k ks []:=fun w'=>(Flat.eZ P K0 m1 f2).2 _ _ _ _
 have hck:=(Q4 (P:=P) (w:=w) (G:=Gd B G0 ob) (B:=B) false 64).1 10000 kt K0 k ks hke (by decide) f3
 have hwide:(match P.underlying kt with | some (.array _ _) | some (.struct _)=>true | _=>false)=true:=asI hka hke
 obtain ⟨r1,r2⟩:=akB (val:=a.eval u) hu e2 hck hwide
 have f1':a.eval y=bh K0 ks:=f1
 have g1':a.eval u=bh V0 us:=g1
 have hlow:=hC.low s b (aE.2 ⟨_,hb0⟩)
 -- the record
 have hr:=hC.rep s
 rw [hs] at hr
 obtain ⟨b',cur,ec,ob',k1,k2,k3,k4,k5⟩:=hr
 have hix:cC p=false:=zX p oa ha
 obtain ⟨v1,v2,v3,c1,c2,c3,d1,d2,d3,d4,d5⟩:=Flat.C6 P p T0 hix k4 hg
 rw [ha] at d4
 unfold Flat at d4
 obtain ⟨_,_,bq,entq,clkq,rfl,_,q4,rfl,_⟩:=d4
 have hnd:=hC.nodup s
 rw [k5,d2] at hnd
 simp only [jU,eW,Ml,oS,jh,dD,cS] at hnd
 have hhd:bj w a.tmps env s p=some (a.eval x):=by
  have hr:=fr hC hx
  rw [he] at hr
  exact hr.2.1
 have hcellb:w.cell? ⟨b',a8 T0 p,none⟩=some (.map (some bq)):=by
  rw [cell_of_row w b' _ cur ec (0,0) k3,←jd,d1,←d3]
  simp
 have hbq:bq=b:=by
  simp only [bj,hs,k1,hcellb,e1,aw,Value.map.injEq] at hhd
  exact hhd
 subst hbq
 have hbb:b'≠bq:=fun e=>hnd.1 (.inl (.inr (.inl e)))
 -- whatever is put
 have key:∀ (ob2:Obj) (ys:List (den K0×den V0)) (x2:den T0),a6 T0 p x0 ⟨.map K0 V0,ys⟩=some x2→(∃ ents2 clk2,ob2=.map ents2 clk2∧eF (ud P (gK w bq ob2) (Gd B G0 ob) B K0 V0) ys ents2.toList)→
   ah P B G0 W0 n ((s,.loc T0 oa x2)::env) a.tmps (gK w bq ob2) ob:=by
  intro ob2 ys x2 hset2 ⟨ents2,clk2,h2,h3⟩
  have hcellw:∀ i,(gK w bq ob2).cell? ⟨b',i,none⟩=w.cell? ⟨b',i,none⟩:=fun i=>World.cell?_of_block (w:=w) (tP hbb)
  refine ah.ar2 (w2:=gK w bq ob2) hC hb0 rfl rfl rfl (cE _) (by simp [gK]) (fun k hk=>tP hk) ⟨fun q' v' hq hv=>?_,fun q' h hq=>?_,fun T o x hx=>?_,fun q' v' hm hv=>⟨VD (x1:=x2) hs (by rw [aP,if_pos rfl]) hm,?_⟩⟩ ?_
  ·simp only [bj,hs,k1] at hv
   simp only [bj]; rw [aP,if_pos rfl]; simp only [k1]
   rw [hcellw]; exact hv
  ·simp only [bc,hs] at hq
   simp only [bc]; rw [aP,if_pos rfl]
   simp only
   split at hq
   ·rename_i wr ed o2 T' zs ha2 hg2
    simp only [aw] at hq; subst hq
    have h1:=Kv q' p T0 hset2 rfl (nL q' oa ha2) hg2 rfl (fun e=>by rw [e,ha] at ha2; cases ha2)
    exact ⟨⟨wr,ed,T',o2,zs⟩,by rw [ha2,h1],rfl,rfl⟩
   ·simp at hq
  ·rw [hs] at hx; cases hx
   exact ⟨_,_,by rw [aP,if_pos rfl],rfl⟩
  ·simp only [bj,hs,k1] at hv
   simp only [bj]; rw [aP,if_pos rfl]; simp only [k1]
   rw [hcellw]; exact hv
  ·refine ⟨b',cur,ec,ob',k1,k2,by rw [tP hbb]; exact k3,?_,k5⟩
   have hnew:=d5 (gK w bq ob2) .mp ys [.map (some bq)] [(bq,0)] x2 (fun b2 i _ h=>⟨h,?_⟩) ⟨by simp [gK],fun t ht=>tP (by omega)⟩ (fun t ht=>tP ?_) (by
    unfold Flat
    refine ⟨m1,m2,bq,ents2,clk2,rfl,hlow.1,by rw [akO hlow.2,h2],rfl,h3⟩) hset2
   ·rw [←ha] at hnew
    rw [d1,d2]
    exact Flat.tO p T0 hg hnew
   ·refine World.cell?_of_block (w:=w) (tP ?_)
    intro e3
    replace e3:b2=bq:=e3
    subst e3
    rcases h with ⟨h,_⟩ | ⟨_,_,h⟩
    ·omega
    ·exact absurd (h s 0 hb0) (by simp)
   ·rintro rfl
    rcases ht with ht | ht
    ·exact hnd.2.1.2.2 _ ht _ (by simp) rfl
    ·exact hnd.2.2.2 _ (.inr (by simp)) _ ht rfl
 have hmove:∀ ob2:Obj,∀ q m,ud P w (Gd B G0 ob) B K0 V0 q m→ud P (gK w bq ob2) (Gd B G0 ob) B K0 V0 q m:=fun ob2 q m ⟨ks',us',j1,j2,j3⟩=>
  ⟨ks',us',(Flat.eZ P K0 m1 j1).2 _ _ _ _,(Flat.eZ P V0 m2 j2).2 _ _ _ _,j3⟩
 rcases Jg hke hf f3 xs ents.toList 0 m3 with ⟨j,e,us',t1,t2,t3,t4,⟨q,t5,t6,t7,t8⟩⟩ | ⟨t1,t2⟩
 ·have hqk:=D7 K0 hf t6
  obtain ⟨qs,_,n1,_,n3,_⟩:=eF.get m3 t5 t2
  rw [←hqk] at n1
  obtain ⟨n4,n5⟩:=Jh P K0 hf n1 f3
  have hbits:Instr.sameBits 10000 e.key (bh K0 ks)=true:=by
   rw [n3,n4]
   unfold bh; rw [if_pos hka]
   rw [n4] at n5
   exact XH n5 9999
  rw [Nat.zero_add] at t1
  have hrun:=r2 j e.val e t1 (by rw [←jd]; exact t2) hbits
  refine lg hdn (w':=gK w bq (.map (ents.modify j fun e=>{e with key:=bh K0 ks,val:=a.eval u}) clk)) (by simp only [execOp,ho,e1,f1',Sem.run_bind,hrun]; simp) (hK _ _ _ _ (key _ (ja f xs k v) x1 hset ⟨_,_,rfl,?_⟩) h)
  have:(ents.modify j fun e=>{e with key:=bh K0 ks,val:=a.eval u}).toList=ents.toList.set j {e with key:=bh K0 ks,val:=a.eval u}:=by
   rw [Array.toList_modify]
   refine DG fun l=>?_
   rw [List.getElem?_modify,List.getElem?_set]
   by_cases hl:j=l
   ·subst hl
    have hlt:j < ents.size:=by simpa using (List.getElem?_eq_some_iff.1 t2).1
    rw [t2]; simp [hlt]
   ·simp [hl]
  rw [this]
  exact eF.put ⟨ks,us,f4 _,g3 _,rfl,g1'⟩ (eF.imp (hmove _) m3) t4 ⟨q,t5,t6⟩
 ·have hrun:=r1 t1
  refine lg hdn (w':=gK w bq (.map (ents.push {key:=bh K0 ks,val:=a.eval u,born:=clk}) (clk+1))) (by simp only [execOp,ho,e1,f1',Sem.run_bind,hrun]; simp) (hK _ _ _ _ (key _ (ja f xs k v) x1 hset ⟨_,_,rfl,?_⟩) h)
  rw [VI t2,Array.toList_push]
  exact eF.snoc ⟨ks,us,f4 _,g3 _,rfl,g1'⟩ (eF.imp (hmove _) m3)
end
end Go.Fw
/- Soundness: slices that are made. -/
namespace Go.Fw
open Go Go.RowKit
theorem We (zs:List Value):∀ (l j:Nat),(oI l zs)[j]?=if j < l * zs.length then zs[j % zs.length]? else none
 | 0,j=>by simp [oI]
 | l+1,j=>by
   simp only [oI]
   by_cases hj:j < zs.length
   ·rw [List.getElem?_append_left hj,if_pos (by rw [ln]; omega),Nat.mod_eq_of_lt hj]
   ·rw [List.getElem?_append_right (by omega),We zs l]
    have hm:(j - zs.length) % zs.length=j % zs.length:=by
     conv=>rhs; rw [←Nat.sub_add_cancel (Nat.le_of_not_lt hj)]
     simp
    rw [hm]
    by_cases h2:j < (l+1) * zs.length
    ·rw [if_pos h2,if_pos (by rw [ln] at h2; omega)]
    ·rw [if_neg h2,if_neg (by rw [ln] at h2; omega)]
theorem af0 (zs:List Value) (l c:Nat) (h:l≤c):(madeCells zs.toArray (c * zs.length)).toList.take (l * zs.length)=oI l zs:=by
 have hle:l * zs.length≤c * zs.length:=zK _ h
 apply DG
 intro j
 rw [We]
 by_cases hj:j < l * zs.length
 ·rw [if_pos hj,List.getElem?_take_of_lt hj]
  have hc:j < c * zs.length:=dK hj hle
  have hz:0 < zs.length:=by
   rcases Nat.eq_zero_or_pos zs.length with h0 | h0
   ·rw [h0] at hj; simp at hj
   ·exact h0
  have hm:j % zs.length < zs.length:=Nat.mod_lt _ hz
  simp only [madeCells,zy,Array.toList_range,List.getElem?_map,List.getElem?_range hc,oV,List.size_toArray]
  rw [List.getElem?_eq_getElem hm]
  simp [hm]
 ·rw [if_neg hj,List.getElem?_take_eq_none (by omega)]
section
variable {P:Program} {B:Nat} {G0:Nat→Nat→Prop} {W0:dc} {n:Nat} {env:Env} {a:Act} {w:World} {ob:Nat→OB}
variable {R:Type} {K:cM R} {r:R} {next:Act→World→Prop} {Q:Exit→Act→World→Prop} {o:Oper} {i:AI} {cl:az}
theorem Wd {T:Ty} {x:den T} {zs:List Value} {G:Nat→Nat→Prop} (h:Flat P T w G B .no x zs []):∀ l,aL (Flat P T w G B .no) (kd l x) (oI l zs) []
 | 0=>⟨rfl,rfl⟩
 | l+1=>⟨zs,oI l zs,[],[],rfl,rfl,h,Wd h l⟩
theorem af4 {t e:TypeId} {T:Ty} {lim:Nat} {x y:Operand} {it:TypeInfo} {l c:Int} (hC:ah P B G0 W0 n env a.tmps w ob) (hK:bE P B G0 W0 n a K r next) (hd:∀ k,o.dst=some k→bl W0 n k)
  (ho:o.op=.makeSlice t x y) (hu:P.underlying t=some (.slice e)) (hT:bH P e T) (hz:mV P e T) (h1:a.eval x=.int .i64 l) (h2:a.eval y=.int .i64 c) (hinfo:P.info? e=some it)
  (hb:lim * it.bytes≤140737488355328) (hm:lim≤maxLen) (hb2:0≤l∧l≤c∧c≤(lim:Int)) (h:K (aM env o.dst (.own true e T .no (kd l.toNat (zero T))))=some r):o.wp P a w next Q:=by
 obtain ⟨it',z,zs,k1,k2,k3,k4⟩:=hz.ok
 rw [hinfo] at k1; cases k1
 obtain ⟨it2,g1,g2⟩:=hT.size
 rw [hinfo] at g1; cases g1
 have hzl:=uR k3
 have hzc:z.cells=zs.toArray:=by rw [k4]; exact kj hzl (uS k3)
 have hbm:(it.bytes:Int) * c≤281474976710656:=by
  have e1:c=(c.toNat:Int):=by omega
  have e2:c.toNat≤lim:=by omega
  have e3:c.toNat * it.bytes≤140737488355328:=ep (zK _ e2) hb
  rw [e1,←Int.natCast_mul,Nat.mul_comm]
  omega
 have hmx:c≤9223372036854775807:=by
  have:(lim:Int)≤(maxLen:Int):=by omega
  simp [maxLen] at this; omega
 have hrun:=run_make (P:=P) w t e it z hu hinfo k2 .i64 .i64 l c hb2.1 hb2.2.1 hbm hmx
 refine bp (v:=.slice (some ⟨w.heap.size,0,none⟩) l.toNat c.toNat) (w':=w.alloc (.cells (madeCells z.cells (c.toNat * it.size)) e)) ?_ ?_
 ·simp only [execOp,ho,h1,h2,Sem.run_bind,hrun,Result.andThen_ok,Sem.run_pure]
 ·have hF:Flat P T w (Gd B G0 ob) B .no (zero T) zs []:=gw P T w _ B .no (gw.annOk_no T) k3
  have hlr:(kd l.toNat (zero T)).length=l.toNat:=List.length_replicate
  have:=VX (e:=e) (T:=T) (xs:=kd l.toNat (zero T)) (css:=oI l.toNat zs) (cur:=madeCells z.cells (c.toNat * it.size)) (cap:=c.toNat) hC hK hd (Wd hF _) (by
   rw [hlr,hzc,g2,←hzl]; exact af0 zs _ _ (by omega)) (by rw [size_madeCells,g2]) (by rw [hlr]; omega) (by omega) h
  rw [hlr] at this
  exact this
theorem alv {t e:TypeId} {T:Ty} {lim:Nat} {x y:Operand} {x' y':Od} {it:TypeInfo} (hC:ah P B G0 W0 n env a.tmps w ob) (hK:bE P B G0 W0 n a K r next) (hd:∀ k,o.dst=some k→bl W0 n k) (hdst:i.dst=o.dst)
  (ho:o.op=.makeSlice t x y) (hi:i.op=.mkSlice e T lim x' y') (hu:P.underlying t=some (.slice e)) (hT:bH P e T) (hz:mV P e T) (hx:aF x x'=true) (hy:aF y y'=true) (hinfo:P.info? e=some it)
  (hb:lim * it.bytes≤140737488355328) (hm:lim≤maxLen) (h:step cl i env K=some r):o.wp P a w next Q:=by
 unfold step at h; rw [hi] at h; simp only [hdst] at h
 split at h
 case h_2=>simp at h
 rename_i l c hl hc
 split at h
 case isFalse=>simp at h
 rename_i hb2
 exact af4 hC hK hd ho hu hT hz (my hC hx hl).1 (my hC hy hc).1 hinfo hb hm hb2 h
end
end Go.Fw
/- Soundness: a call that puts a list in order, with a function that it calls (slices.SortFunc). -/
namespace Go.Fw
open Go Go.RowKit
section
variable {P:Program} {B:Nat} {G0:Nat→Nat→Prop} {W0:dc} {n:Nat} {env:Env} {tm:Array Value} {a:Act} {w:World} {ob:Nat→OB} {cl:az}
variable {R:Type} {K:cM R} {r:R} {next:Act→World→Prop} {Q:Exit→Act→World→Prop} {o:Oper} {i:AI}
theorem ah.Xu (hC:ah P B G0 W0 n env tm w ob) {s:Nat} (hld:∀ k,leads s (look env k)=false) (hob:ob s=bN (tm.getD s undef) 0) {w1:World} (hA:iF (tm.getD s undef) w w1) {e:E}
  (hrep:bn P w1 (Gd B G0 ob) B tm ((s,e)::env) e (tm.getD s undef) (ob s)):ah P B G0 W0 n ((s,e)::env) tm w1 ob:=by
 have hrest:∀ b,b < w.heap.size→b∉blocks (ob s)→w1.heap[b]?=w.heap[b]?:=fun b hb hn=>hA.rest b hb fun hv=>hn (by rw [hob]; exact aE.2 ⟨0,jY hv⟩)
 refine ah.step hC ⟨fun k b hb=>.inl ⟨k,hb⟩,fun b hb hn=>hrest b hb (hn s)⟩ ⟨hA.os,hA.tape,hA.output,hA.size,fun k hk=>hrest k (dK hk hC.base) fun h=>(by have:=(hC.low s k h).1; omega),hA.drawn⟩
  (fun b i hb hg=>?_) (fun k=>?_) hC.dist hC.nodup (fun k b hb=>?_) hC.size (fun _ _=>rfl)
 ·have hn:b∉blocks (ob s):=by
   intro h
   obtain ⟨l,h2⟩:=aE.1 h
   have hl:l=0:=by
    rw [hob] at h2
    unfold bN at h2
    split at h2
    ·simp at h2; exact h2.2
    ·simp at h2
   subst hl
   have hB:=(hC.low s b h).1
   rcases hg with ⟨g1,_⟩ | ⟨_,_,g2⟩
   ·omega
   ·have:=g2 s 0 h2; omega
  exact ⟨hg,World.cell?_of_block (w:=w) (hrest b hb hn)⟩
 ·by_cases h:k=s
  ·subst h; right; rw [aP,if_pos rfl]; exact hrep
  ·left
   have hheap:∀ j,j≠s→∀ g∈blocks (ob j),w1.heap[g]?=w.heap[g]?:=fun j hj g hg=>hrest g (hC.low j g hg).2 fun hs=>hj (hC.dist _ _ g hg hs)
   refine ⟨by rw [aP,if_neg (bu h)],rfl,rfl,hheap k h,fun s' hs'=>?_⟩
   have hs:s'≠s:=by rintro rfl; rw [hld k] at hs'; cases hs'
   exact eL.same (P:=P) (by rw [aP,if_neg (bu hs)]) rfl (hC.rep s') (hheap s' hs)
 ·have:=hC.low k b hb
  exact ⟨this.1,dK this.2 hA.size⟩
theorem ali {f:FuncId} {us:Array Operand} {ats:Array TypeId} {x u:Operand} {y z:Od} (hgood:Good P W0.t cl) (hC:ah P B G0 W0 n env a.tmps w ob) (hK:bE P B G0 W0 n a K r next) (hd:∀ k,o.dst=some k→bl W0 n k) (hdst:i.dst=o.dst)
  (ho:o.op=.call {callee:=.value (.func f),args:=us,argTypes:=ats}) (hi:i.op=.iX f y z) (hus:us.toList=[x,u]) (hx:aF x y=true) (hu:aF u z=true) (h:step cl i env K=some r):o.wp P a w next Q:=by
 unfold step at h; rw [hi] at h; simp only [hdst,aq] at h
 obtain ⟨s,hsx,h⟩:=h
 split at h
 case h_2=>simp at h
 rename_i _ _ e T xs fg A C caps hs0 hz
 split at h
 case h_2=>simp at h
 rename_i hc
 simp only [au,du,beq_eq_false_iff_ne] at hc
 obtain ⟨hap,hbuf⟩:=hc
 simp only [az.eqn,aq] at h
 obtain ⟨ge,hge,res,hres,yv,hyv,ys,hys,h⟩:=h
 have hev:=VW hC hx hsx hs0
 -- nothing leads to the list any more
 have hld:∀ k,leads s (look (kill s env) k)=false:=fun k=>by
  rw [oA]
  split
  ·rfl
  ·rename_i hn; simpa using hn
 obtain ⟨ob1,hC⟩:∃ ob',ah P B G0 W0 n (kill s env) a.tmps w ob':=ah.forget hC fun k=>by
  rw [oA]
  split
  ·rename_i hk
   refine .inr ⟨rfl,fun j hj=>?_⟩
   rw [oA] at hj
   split at hj
   ·simp [leads] at hj
   ·have h1:=(bn.leads hj (hC.rep j)).1
    cases hl:look env k<;>rw [hl] at hk h1<;>first | (simp [E.home] at h1; done) | (simp [leads] at hk; done)
  ·exact .inl rfl
 generalize ob1=ob at hC
 have hs:look (kill s env) s=.own true e T .no xs:=by rw [oA,hs0]; simp [leads]
 obtain ⟨cells,hrow,hel,hob⟩:=Le hC hs
 have hgv:=fr hC hu
 rw [hz] at hgv
 have hge':∃ gf:den (.fn A C),ge=.v (.fn A C) gf:=by
  unfold jV at hge
  split at hge
  ·simp only [aq,aw] at hge
   obtain ⟨cs,_,rfl⟩:=hge
   exact ⟨_,rfl⟩
  ·simp at hge
 obtain ⟨gf,rfl⟩:=hge'
 have hfn:=Q6 hgood hC hld hob hs (by intro f A C c h; cases h) hu hz hgv hge
 obtain ⟨ys',rfl,hcal,hL⟩:=hgood.iX f e T xs A C gf res hres
 simp only [qN,aw] at hyv
 subst hyv
 have:=cL hys
 cases this
 have hrun:(execOp a.eval o).run P w=.ok (.enter f (us.map a.eval)) w:=by
  have:=mH hcal (us.map a.eval) w
  simp [execOp,ho,resolve,Deferred.ofValue,invoke,Act.eval,this]
 have e2:us.map a.eval=#[a.tmps.getD s undef,a.eval u]:=by apply jO.1; simp [hus,hev]
 rw [e2] at hrun
 have hnoG:∀ g i,(a.tmps.getD s undef).ownBlock=some g→¬ Gd B G0 ob g i:=by
  intro g i hg hG
  have hm:(g,0)∈ob s:=by rw [hob]; exact jY hg
  have hB:=(hC.low s g (aE.2 ⟨_,hm⟩)).1
  rcases hG with ⟨g1,_⟩ | ⟨_,_,g2⟩
  ·omega
  ·have:=g2 s 0 hm; omega
 refine kH hrun (Calls.mono (hL w B (Gd B G0 ob) _ (a.eval u) cells hbuf hrow hel hnoG hC.base hfn) ?_)
 rintro en w' ⟨cells',rfl,hA,hrow',hel'⟩
 refine ⟨_,rfl,?_⟩
 have hC1:=ah.Xu hC hld hob hA (e:=.own true e T .no ys) (by
  change Flat P (.sl T) w' _ B (.own true e .no) ys [a.tmps.getD s undef] _
  unfold Flat
  exact ⟨_,cells',[],rfl,hrow',hel',by rw [hob]; simp⟩)
 exact bz (e:=.dead) hC1 hK hd (aO.refl _) (v:=.tuple #[]) rfl h
end
end Go.Fw
/- Soundness, part 21: a region's operations, checked against the program's. -/
namespace Go.Fw
open Go Go.RowKit
def eD (P:Program) (t:TypeId) (T:Ty):Bool:=c8 P 64 t T
theorem eI {P:Program} {t:TypeId} {T:Ty} (h:eD P t T=true):bH P t T:=⟨⟨64,h⟩⟩
def nx (P:Program) (t:TypeId) (T:Ty):Bool:=
 match P.info? t with
 | some i=>match i.zero with
   | some z=>match gF T (zero T) with
     | some vs=>Cj T vs z
     | none=>false
   | none=>false
 | none=>false
theorem qY {P:Program} {t:TypeId} {T:Ty} (h:nx P t T=true):mV P t T:=by
 unfold nx at h
 split at h
 ·rename_i i hi
  split at h
  ·rename_i z hz
   split at h
   ·rename_i vs hv
    exact ⟨⟨i,z,vs,hi,hz,hv,RM h⟩⟩
   ·simp at h
  ·simp at h
 ·simp at h
def tR (P:Program) (t e:TypeId):Bool:=match P.underlying t with | some (.slice e')=>e'==e | _=>false
theorem Du {P:Program} {t e:TypeId} (h:tR P t e=true):P.underlying t=some (.slice e):=by
 unfold tR at h
 split at h
 ·rename_i e' he; rw [beq_iff_eq] at h; rw [he,h]
 ·simp at h
def elemOf (P:Program) (t:TypeId):Option TypeId:=match P.underlying t with | some (.slice e)=>some e | _=>none
theorem vq {P:Program} {t e:TypeId} (h:elemOf P t=some e):P.underlying t=some (.slice e):=by
 unfold elemOf at h
 split at h
 ·rename_i e' he; cases h; exact he
 ·simp at h
def rB (P:Program) (t:TypeId):Option (Nat×TypeId):=match P.underlying t with | some (.array m e)=>some (m,e) | _=>none
theorem z6 {P:Program} {t:TypeId} {q:Nat×TypeId} (h:rB P t=some q):P.underlying t=some (.array q.1 q.2):=by
 unfold rB at h
 split at h
 ·rename_i m e he; cases h; exact he
 ·simp at h
def pE (P:Program) (t:TypeId):Option (Array Field):=match P.underlying t with | some (.struct fs)=>some fs | _=>none
theorem vx {P:Program} {t:TypeId} {fs:Array Field} (h:pE P t=some fs):P.underlying t=some (.struct fs):=by
 unfold pE at h
 split at h
 ·rename_i m he; cases h; exact he
 ·simp at h
def VR (P:Program) (o:Oper) (i:AI):Bool:=
 match i.op with
 | .mv y=>(match o.op with | .move x=>aF x y | _=>false)
 | .ab y=>(match o.op with | .assign x=>aF x y | _=>false)
 | .pick c' x' y'=>(match o.op with | .pick c x y=>aF c c'&&aF x x'&&aF y y' | _=>false)
 | .alloc T oa=>(match o.op with | .alloc t=>nx P t T&&iS T oa | _=>false)
 | .box _ y=>(match o.op with | .box _ x=>aF x y | _=>false)
 | .build T ys=>(match o.op with
   | .build t us=>nx P t T&&cA T&&eD P t T&&(match pE P t with
     | some fs=>(match fs.toList.mapM (fun f=>(P.info? f.type).map fun i=>(f.offset,i.size)) with
       | some places=>gJ T (places.toArray[·]?) us.toList ys
       | none=>false)
     | none=>(match rB P t with
       | some q=>(match T with
         | .arr _ T'=>eD P q.2 T'&&gJ T (fun i=>some (i * ay T',ay T')) us.toList ys
         | _=>false)
       | none=>false))
   | _=>false)
 | .kh T oa ys=>(match o.op with
   | .build t us=>nx P t T&&cA T&&eD P t T&&iS T oa&&(match pE P t with
     | some fs=>(match fs.toList.mapM (fun f=>(P.info? f.type).map fun i=>(f.offset,i.size)) with
       | some places=>gJ T (places.toArray[·]?) us.toList ys
       | none=>false)
     | none=>false)
   | _=>false)
 | .buildSlice e T ys=>(match o.op with
   | .buildSlice t m us=>tR P t e&&eD P e T&&nx P e T&&us.size==m&&tJ us.toList 0&&eQ (us.toList.map (·.2)) ys&&decide (m * ay T≤2 ^ 24)&&decide (m≤2 ^ 24)
   | _=>false)
 | .load T y=>(match o.op with | .load t x=>eD P t T&&aF x y | _=>false)
 | .store T y yv=>(match o.op with | .store t x xv=>eD P t T&&aF x y&&aF xv yv&&o.dst.isNone | _=>false)
 | .bin op' x' y'=>(match o.op with | .binOp op _ x y _=>decide (op=op')&&aF x x'&&aF y y' | _=>false)
 | .un op' x'=>(match o.op with | .unOp op _ x=>decide (op=op')&&aF x x' | _=>false)
 | .shift l x' y'=>(match o.op with | .binOp op _ x y _=>decide (op=if l then .shl else .shr)&&aF x x'&&aF y y' | _=>false)
 | .kN k x'=>(match o.op with | .convert s d x=>aF x x'&&eD P d (.int k)&&(match P.underlying s with | some (.int ks)=>eD P s (.int ks) | _=>false) | _=>false)
 | .fieldAddr S p y=>(match o.op with
   | .fieldAddr t x f=>eD P t S&&aF x y&&decide (p=eX f)&&(match pE P t with | some fs=>(fs[f]?).isSome | none=>false)&&(match cR S (eX f) with | some A=>!(ay A==0) | none=>false)
   | _=>false)
 | .field S p y=>(match o.op with
   | .field t x f=>eD P t S&&aF x y&&decide (p=eX f)&&(match pE P t with | some fs=>(fs[f]?).isSome | none=>false)&&cB S
   | _=>false)
 | .indexAddr T y iy=>(match o.op with | .indexAddr t x ix=>aF x y&&aF ix iy&&(match elemOf P t with | some e=>eD P e T | none=>false) | _=>false)
 | .yR m T y iy=>(match o.op with | .indexAddr t x ix=>aF x y&&aF ix iy&&(match rB P t with | some q=>q.1==m&&eD P q.2 T | none=>false) | _=>false)
 | .dV y iy=>(match o.op with | .index t x ix=>aF x y&&aF ix iy&&eD P t .str | _=>false)
 | .yQ m T y iy=>(match o.op with | .index t x ix=>aF x y&&aF ix iy&&(match rB P t with | some q=>q.1==m&&eD P q.2 T | none=>false) | _=>false)
 | .jL y lo' hi'=>(match o.op with | .slice t x lo hi none=>eD P t .str&&aF x y&&jZ lo lo'&&jZ hi hi' | _=>false)
 | .kF T y lo' hi' mx'=>(match o.op with | .slice t x lo hi mx=>aF x y&&jZ lo lo'&&jZ hi hi'&&jZ mx mx'&&(!mx.isSome || hi.isSome)&&(match elemOf P t with | some e=>eD P e T | none=>false) | _=>false)
 | .mkSlice e T lim x' y'=>(match o.op with
   | .makeSlice t x y=>tR P t e&&eD P e T&&nx P e T&&aF x x'&&aF y y'&&(match P.info? e with | some it=>decide (lim * it.bytes≤140737488355328)&&decide (lim≤maxLen) | none=>false)
   | _=>false)
 | .bQ y=>(match o.op with | .call {callee:=.builtin .len,args:=us,argTypes:=ts}=>(match us.toList,ts.toList with | [x],[t]=>eD P t .str&&aF x y | _,_=>false) | _=>false)
 | .aX y=>(match o.op with | .call {callee:=.builtin .len,args:=us,argTypes:=ts}=>(match us.toList,ts.toList with | [x],[t]=>(elemOf P t).isSome&&aF x y | _,_=>false) | _=>false)
 | .yT m=>(match o.op with | .call {callee:=.builtin .len,args:=us,argTypes:=ts}=>(match us.toList,ts.toList with | [_],[t]=>(match rB P t with | some q=>q.1==m | none=>false)&&decide (m≤maxLen) | _,_=>false) | _=>false)
 | .mm true x' y'=>(match o.op with | .call {callee:=.builtin .max,args:=us,argTypes:=_}=>(match us.toList with | [x,y]=>aF x x'&&aF y y' | _=>false) | _=>false)
 | .mm false x' y'=>(match o.op with | .call {callee:=.builtin .min,args:=us,argTypes:=_}=>(match us.toList with | [x,y]=>aF x x'&&aF y y' | _=>false) | _=>false)
 | .append e T lim sy y=>(match o.op with
   | .call {callee:=.builtin .append,args:=us,argTypes:=ts}=>(match us.toList,ts.toList with
     | [s,x],[t,t']=>t==t'&&tR P t e&&eD P e T&&aF x y&&aF s sy&&(match P.info? e with
       | some it=>(match it.zero with | some z=>z.cells.size==ay T | none=>false)&&decide (lim * it.bytes≤140737488355328)&&decide (lim≤maxLen)&&decide (e≠gV)
       | none=>false)
     | _,_=>false)
   | _=>false)
 | .call f ys=>(match o.op with | .call {callee:=.value (.func g),args:=us,argTypes:=_}=>g==f&&eQ us.toList ys | _=>false)
 | .nP y ys=>(match o.op with | .call {callee:=.value x,args:=us,argTypes:=_}=>aF x y&&eQ us.toList ys | _=>false)
 | .extract k j=>(match o.op with | .extract (.tmp k') j'=>k==k'&&j==j'&&(match o.dst with | some d=>!(d==k) | none=>false) | _=>false)
 | .qH f _ _ ys=>(match o.op with | .makeFunc (.func g) first us=>g==f&&first.size==0&&eQ us.toList ys | _=>false)
 | .Dn y=>(match o.op with | .range t x=>eD P t .str&&aF x y | _=>false)
 | .bad=>true
 | .qW y=>(match o.op with | .convert s d x=>aF x y&&eD P s .str&&(match elemOf P d with | some e=>eD P e (.int .u8) | none=>false) | _=>false)
 | .toStr y=>(match o.op with | .convert s d x=>aF x y&&eD P d .str&&(match elemOf P s with | some e=>eD P e (.int .u8) | none=>false) | _=>false)
 | .jF y=>(match o.op with | .nilCheck x=>aF x y | _=>false)
 | .dY k=>(match o.op with | .next (.tmp k') true=>k==k' | _=>false)
 | .ni neg .bool x' y'=>(match o.op with | .binOp op t x y _=>decide (op=if neg then .neq else .eql)&&D9 P t&&aF x x'&&aF y y' | _=>false)
 | .ni neg T x' y'=>(match o.op with | .binOp op t x y _=>decide (op=if neg then .neq else .eql)&&eqStr P t T&&aF x x'&&aF y y' | _=>false)
 | .BJ f ys=>(match o.op with | .call {callee:=.value (.func g),args:=us,argTypes:=_}=>(match us.toList with | .const v::us'=>sd v (.slice none 0 0)&&g==f&&eQ us' ys | _=>false) | _=>false)
 | .uN f ys=>(match o.op with | .call {callee:=.value (.func g),args:=us,argTypes:=_}=>g==f&&eQ us.toList ys | _=>false)
 | .cp y=>(match o.op with | .move x=>aF x y | .assign x=>aF x y | _=>false)
 | .LA f y=>(match o.op with | .call {callee:=.value (.func g),args:=us,argTypes:=_}=>(match us.toList with | [x]=>g==f&&aF x y | _=>false) | _=>false)
 | .zd t _=>(match o.op with | .alloc t'=>t==t'&&Dp P t | _=>false)
 | .iC f k y=>(match o.op with | .call {callee:=.value (.func g),args:=us,argTypes:=_}=>(match us.toList with | [.tmp k',x]=>g==f&&k==k'&&aF x y | _=>false) | _=>false)
 | .jJ f k=>(match o.op with | .call {callee:=.value (.func g),args:=us,argTypes:=_}=>(match us.toList with | [.tmp k']=>g==f&&k==k' | _=>false) | _=>false)
 | .De K0 V0=>(match o.op with | .makeMap _ none=>cB K0&&cB V0 | _=>false)
 | .Ac T p k ys=>(match o.op with
   | .build t us=>(match us.toList.reverse with
     | (f,.tmp k')::us0=>k'==k&&nx P t T&&cA T&&(match pE P t with
       | some fs=>(match fs.toList.mapM (fun f=>(P.info? f.type).map fun i=>(f.offset,i.size)) with
         | some places=>gJ T (places.toArray[·]?) us0.reverse ys&&(match cR T p,places.toArray[f]? with
           | some A,some q=>q.1==a8 T p&&q.2==ay A
           | _,_=>false)
         | none=>false)
       | none=>false)
     | _=>false)
   | _=>false)
 | .Ab _ k=>(match o.op with | .box _ (.tmp k')=>k'==k | _=>false)
 | .Dd K0 V0 y z=>(match o.op with | .lookup t x u true=>(match P.underlying t with | some (.map kt et)=>cA K0&&iv P 64 kt K0&&nx P et V0&&aF x y&&aF u z | _=>false) | _=>false)
 | .Df K0 _ y z v=>(match o.op with | .mapUpdate t x u q=>(match P.underlying t with | some (.map kt _)=>o.dst.isNone&&cA K0&&iv P 64 kt K0&&aF x y&&aF u z&&aF q v | _=>false) | _=>false)
 | .bU f y z=>(match o.op with | .call {callee:=.value (.func g),args:=us,argTypes:=_}=>(match us.toList with | [x,u]=>g==f&&aF x y&&aF u z | _=>false) | _=>false)
 | .iX f y z=>(match o.op with | .call {callee:=.value (.func g),args:=us,argTypes:=_}=>(match us.toList with | [x,u]=>g==f&&aF x y&&aF u z | _=>false) | _=>false)
 | .kX f y ys=>(match o.op with | .call {callee:=.value (.func g),args:=us,argTypes:=_}=>(match us.toList with | u::us'=>g==f&&aF u y&&eQ us' ys | _=>false) | _=>false)
 | .Dz T y yv=>(match o.op with | .store t x xv=>eD P t T&&aF x y&&aF xv yv&&o.dst.isNone | _=>false)
def kZ (P:Program) (n:Nat) (o:Oper) (i:AI):Bool:=decide (i.dst=o.dst)&&(match o.dst with | some d=>decide (d < n) | none=>true)&&VR P o i
theorem rA {α:Type} {us:Array α} {x:α} (h:us.toList=[x]):us=#[x]:=jO.1 (by simpa using h)
theorem uB {α:Type} {us:Array α} {x y:α} (h:us.toList=[x,y]):us=#[x,y]:=jO.1 (by simpa using h)
section
variable {P:Program} {B:Nat} {G0:Nat→Nat→Prop} {W0:dc} {n:Nat} {env:Env} {tm:Array Value} {a:Act} {w:World} {ob:Nat→OB} {cl:az}
variable {R:Type} {K:cM R} {r:R} {next:Act→World→Prop} {Q:Exit→Act→World→Prop} {o:Oper} {i:AI}
theorem Dw (hgood:Good P W0.t cl) (hC:ah P B G0 W0 n env a.tmps w ob) (hK:bE P B G0 W0 n a K r next) (hok:kZ P n o i=true) (hz:W0.pin=none∨i.dst≠some 0) (h:step cl i env K=some r):o.wp P a w next Q:=by
 simp only [kZ,au,decide_eq_true_eq] at hok
 obtain ⟨⟨hdst,hdn⟩,hop⟩:=hok
 have hd:∀ k,o.dst=some k→bl W0 n k:=by
  intro k hk; rw [hk] at hdn; exact ⟨by simpa using hdn,hz.imp id fun h e=>h (by rw [hdst,hk,e])⟩
 unfold VR at hop
 split at hop
 case h_1 y hi=>split at hop; · rename_i x ho; exact alz hC hK hd hdst ho hi hop h
                ·simp at hop
 case h_2 y hi=>split at hop; · rename_i x ho; exact ak0 hC hK hd hdst ho hi hop h
                ·simp at hop
 case h_3 c' x' y' hi=>
  split at hop
  ·rename_i c x y ho; simp only [au] at hop; exact alC hC hK hd hdst ho hi hop.1.1 hop.1.2 hop.2 h
  ·simp at hop
 case h_4 T oa hi=>
  split at hop
  ·rename_i t ho; simp only [au] at hop; exact akY hC hK hd hdst ho hi (qY hop.1) hop.2 h
  ·simp at hop
 case h_5 T y hi=>
  split at hop
  ·rename_i t x ho; exact ak2 hC hK hd hdst ho hi hop h
  ·simp at hop
 case h_6 T ys hi=>
  split at hop
  ·rename_i t us ho
   simp only [au] at hop
   refine ak4 hC hK hd hdst ho hi (qY hop.1.1.1) hop.1.1.2 (eI hop.1.2) ?_ h
   have h2:=hop.2
   split at h2
   ·rename_i fs hfs
    split at h2
    ·rename_i places hp; exact .inl ⟨fs,places,vx hfs,hp,h2⟩
    ·simp at h2
   ·split at h2
    ·rename_i q hq
     split at h2
     ·rename_i m' T'
      simp only [au] at h2
      exact .inr ⟨q.1,q.2,T',z6 hq,eI h2.1,h2.2⟩
     ·simp at h2
    ·simp at h2
  ·simp at hop
 case h_7 T oa ys hi=>
  split at hop
  ·rename_i t us ho
   simp only [au] at hop
   refine ak6 hC hK hd hdst ho hi hop.1.2 (qY hop.1.1.1.1) hop.1.1.1.2 (eI hop.1.1.2) ?_ h
   have h2:=hop.2
   split at h2
   ·rename_i fs hfs
    split at h2
    ·rename_i places hp; exact .inl ⟨fs,places,vx hfs,hp,h2⟩
    ·simp at h2
   ·simp at h2
  ·simp at hop
 case h_8 e T ys hi=>
  split at hop
  ·rename_i t m us ho
   simp only [au,decide_eq_true_eq,beq_iff_eq] at hop
   obtain ⟨⟨⟨⟨⟨⟨⟨h1,h2⟩,h3⟩,h4⟩,h5⟩,h6⟩,h7⟩,h8⟩:=hop
   exact ak7 hC hK hd hdst ho hi (Du h1) (eI h2) (qY h3) h4 h5 h6 h7 h8 h
  ·simp at hop
 case h_9 T y hi=>
  split at hop
  ·rename_i t x ho; simp only [au] at hop; exact als hC hK hd hdst ho hi (eI hop.1) hop.2 h
  ·simp at hop
 case h_10 T y yv hi=>
  split at hop
  ·rename_i t x xv ho; simp only [au,DU] at hop; exact alK hC hK hop.2 ho hi (eI hop.1.1.1) hop.1.1.2 hop.1.2 h
  ·simp at hop
 case h_11 op' x' y' hi=>
  split at hop
  ·rename_i op xt x y yt ho; simp only [au,decide_eq_true_eq] at hop
   obtain ⟨⟨rfl,h1⟩,h2⟩:=hop
   exact ak1 hC hK hd hdst ho hi h1 h2 h
  ·simp at hop
 case h_12 op' x' hi=>
  split at hop
  ·rename_i op xt x ho; simp only [au,decide_eq_true_eq] at hop
   obtain ⟨rfl,h1⟩:=hop
   exact alO hC hK hd hdst ho hi h1 h
  ·simp at hop
 case h_13 l x' y' hi=>
  split at hop
  ·rename_i op xt x y yt ho; simp only [au,decide_eq_true_eq] at hop
   obtain ⟨⟨rfl,h1⟩,h2⟩:=hop
   exact alH hC hK hd hdst ho hi h1 h2 h
  ·simp at hop
 case h_14 k x' hi=>
  split at hop
  ·rename_i s d x ho; simp only [au] at hop
   obtain ⟨⟨h1,h2⟩,h3⟩:=hop
   split at h3
   ·exact alb hC hK hd hdst ho hi h1 (eI h3) (eI h2) h
   ·simp at h3
  ·simp at hop
 case h_15 S p y hi=>
  split at hop
  ·rename_i t x f ho; simp only [au,decide_eq_true_eq] at hop
   obtain ⟨⟨⟨⟨h1,h2⟩,rfl⟩,h4⟩,h5⟩:=hop
   split at h4
   ·rename_i fs hfs
    obtain ⟨fd,hfd⟩:=DV.1 h4
    split at h5
    ·rename_i A hA
     exact alg hC hK hd hdst ho hi (eI h1) (vx hfs) hfd hA (by simpa using h5) h2 h
    ·simp at h5
   ·simp at h4
  ·simp at hop
 case h_16 S p y hi=>
  split at hop
  ·rename_i t x f ho; simp only [au,decide_eq_true_eq] at hop
   obtain ⟨⟨⟨⟨h1,h2⟩,rfl⟩,h4⟩,h5⟩:=hop
   split at h4
   ·rename_i fs hfs
    obtain ⟨fd,hfd⟩:=DV.1 h4
    exact alf (A:=.bool) hC hK hd hdst ho hi (eI h1) (vx hfs) hfd h5 h2 h
   ·simp at h4
  ·simp at hop
 case h_17 T y iy hi=>
  split at hop
  ·rename_i t x ix ho; simp only [au] at hop
   obtain ⟨⟨h1,h2⟩,h3⟩:=hop
   split at h3
   ·rename_i e he; exact alk hC hK hd hdst ho hi (vq he) (eI h3) h1 h2 h
   ·simp at h3
  ·simp at hop
 case h_18 m T y iy hi=>
  split at hop
  ·rename_i t x ix ho; simp only [au] at hop
   obtain ⟨⟨h1,h2⟩,h3⟩:=hop
   split at h3
   ·rename_i q hq
    simp only [au,beq_iff_eq] at h3
    obtain ⟨rfl,h4⟩:=h3
    exact alm hC hK hd hdst ho hi (z6 hq) (eI h4) h1 h2 h
   ·simp at h3
  ·simp at hop
 case h_19 y iy hi=>
  split at hop
  ·rename_i t x ix ho; simp only [au] at hop
   exact aln hC hK hd hdst ho hi (eI hop.2) hop.1.1 hop.1.2 h
  ·simp at hop
 case h_20 m T y iy hi=>
  split at hop
  ·rename_i t x ix ho; simp only [au] at hop
   obtain ⟨⟨h1,h2⟩,h3⟩:=hop
   split at h3
   ·rename_i q hq
    simp only [au,beq_iff_eq] at h3
    obtain ⟨rfl,h4⟩:=h3
    exact alj hC hK hd hdst ho hi (z6 hq) (eI h4) h1 h2 h
   ·simp at h3
  ·simp at hop
 case h_21 y lo' hi' hi=>
  split at hop
  ·rename_i t x lo hh ho; simp only [au] at hop
   exact alJ hC hK hd hdst ho hi (eI hop.1.1.1) hop.1.1.2 hop.1.2 hop.2 h
  ·simp at hop
 case h_22 T y lo' hi' mx' hi=>
  split at hop
  ·rename_i t x lo hh mx ho; simp only [au,Bool.or_eq_true,du] at hop
   obtain ⟨⟨⟨⟨⟨h1,h2⟩,h3⟩,h4⟩,h5⟩,h6⟩:=hop
   split at h6
   ·rename_i e he
    exact alI hC hK hd hdst ho hi (vq he) (eI h6) h1 h2 h3 h4 (fun hm=>h5.resolve_left (by rw [hm]; simp)) h
   ·simp at h6
  ·simp at hop
 case h_23 e T lim x' y' hi=>
  split at hop
  ·rename_i t x y ho
   simp only [au] at hop
   obtain ⟨⟨⟨⟨⟨h1,h2⟩,h3⟩,h4⟩,h5⟩,h6⟩:=hop
   split at h6
   ·rename_i it hit
    simp only [au,decide_eq_true_eq] at h6
    exact alv hC hK hd hdst ho hi (Du h1) (eI h2) (qY h3) h4 h5 hit h6.1 h6.2 h
   ·simp at h6
  ·simp at hop
 case h_24 y hi=>
  split at hop
  ·rename_i us ts ho
   split at hop
   ·rename_i x t hu ht
    simp only [au] at hop
    rw [rA hu,rA ht] at ho
    exact alq hC hK hd hdst ho hi (eI hop.1) hop.2 h
   ·simp at hop
  ·simp at hop
 case h_25 y hi=>
  split at hop
  ·rename_i us ts ho
   split at hop
   ·rename_i x t hu ht
    simp only [au] at hop
    rw [rA hu,rA ht] at ho
    obtain ⟨e,he⟩:=DV.1 hop.1
    exact alp hC hK hd hdst ho hi (vq he) hop.2 h
   ·simp at hop
  ·simp at hop
 case h_26 m hi=>
  split at hop
  ·rename_i us ts ho
   split at hop
   ·rename_i x t hu ht
    simp only [au,decide_eq_true_eq] at hop
    rw [rA hu,rA ht] at ho
    obtain ⟨h1,h2⟩:=hop
    split at h1
    ·rename_i q hq
     rw [beq_iff_eq] at h1
     have:=z6 hq
     rw [h1] at this
     exact alo hC hK hd hdst ho hi this h2 h
    ·simp at h1
   ·simp at hop
  ·simp at hop
 case h_27 x' y' hi=>
  split at hop
  ·rename_i us ts ho
   split at hop
   ·rename_i x y hu
    simp only [au] at hop
    rw [uB hu] at ho
    exact WH (mx:=true) hC hK hd hdst ho hi hop.1 hop.2 h
   ·simp at hop
  ·simp at hop
 case h_28 x' y' hi=>
  split at hop
  ·rename_i us ts ho
   split at hop
   ·rename_i x y hu
    simp only [au] at hop
    rw [uB hu] at ho
    exact WH (mx:=false) hC hK hd hdst ho hi hop.1 hop.2 h
   ·simp at hop
  ·simp at hop
 case h_29 e T lim sy y hi=>
  split at hop
  ·rename_i us ts ho
   split at hop
   ·rename_i s x t t' hu ht
    simp only [au,beq_iff_eq] at hop
    obtain ⟨⟨⟨⟨⟨rfl,h2⟩,h3⟩,h4⟩,h5⟩,h6⟩:=hop
    rw [uB hu,uB ht] at ho
    split at h6
    ·rename_i it hit
     simp only [au,decide_eq_true_eq] at h6
     obtain ⟨⟨⟨h7,h8⟩,h9⟩,h10⟩:=h6
     split at h7
     ·rename_i z hz
      rw [beq_iff_eq] at h7
      exact akZ hC hK hd hdst ho hi (Du h2) (eI h3) hit hz h7 h8 h9 h10 h4 h5 h
     ·simp at h7
    ·simp at h6
   ·simp at hop
  ·simp at hop
 case h_30 f ys hi=>
  split at hop
  ·rename_i g us ts ho
   simp only [au,beq_iff_eq] at hop
   obtain ⟨rfl,h1⟩:=hop
   exact WE hgood hC hK hd hdst ho hi h1 h
  ·simp at hop
 case h_31 y ys hi=>
  split at hop
  ·rename_i x us ts ho
   simp only [au] at hop
   exact ala hgood hC hK hd hdst ho hi hop.1 hop.2 h
  ·simp at hop
 case h_32 k j hi=>
  split at hop
  ·rename_i k' j' ho
   simp only [au,beq_iff_eq] at hop
   obtain ⟨⟨rfl,rfl⟩,h1⟩:=hop
   split at h1
   ·rename_i d hdd
    exact ale hC hK hd hdst ho hi ⟨d,hdd,by simpa using h1⟩ h
   ·simp at h1
  ·simp at hop
 case h_33 f A C ys hi=>
  split at hop
  ·rename_i g first us ho
   simp only [au,beq_iff_eq] at hop
   obtain ⟨⟨rfl,h1⟩,h2⟩:=hop
   have:first=#[]:=Array.eq_empty_of_size_eq_zero h1
   subst this
   exact alw hC hK hd hdst ho hi h2 h
  ·simp at hop
 case h_34 y hi=>
  split at hop
  ·rename_i t x ho
   simp only [au] at hop
   exact alD hC hK hd hdst ho hi (eI hop.1) hop.2 h
  ·simp at hop
 case h_35 hi=>
  unfold step at h; rw [hi] at h; simp at h
 case h_36 y hi=>
  split at hop
  ·rename_i s d x ho
   simp only [au] at hop
   obtain ⟨⟨h1,h2⟩,h3⟩:=hop
   split at h3
   ·rename_i e he; exact alM hC hK hd hdst ho hi (eI h2).str (vq he) (eI h3).int h1 h
   ·simp at h3
  ·simp at hop
 case h_37 y hi=>
  split at hop
  ·rename_i s d x ho
   simp only [au] at hop
   obtain ⟨⟨h1,h2⟩,h3⟩:=hop
   split at h3
   ·rename_i e he; exact alN hC hK hd hdst ho hi (vq he) (eI h3).int (eI h2).str h1 h
   ·simp at h3
  ·simp at hop
 case h_38 y hi=>
  split at hop
  ·rename_i x ho
   exact alA hC hK hd hdst ho hi hop h
  ·simp at hop
 case h_39 k hi=>
  split at hop
  ·rename_i k' ho
   rw [beq_iff_eq] at hop
   subst hop
   exact alB hC hK hd hdst ho hi h
  ·simp at hop
 case h_40 neg x' y' hi=>
  split at hop
  ·rename_i op t x y yt ho
   simp only [au,decide_eq_true_eq] at hop
   obtain ⟨⟨⟨rfl,h2⟩,h3⟩,h4⟩:=hop
   exact alc hC hK hd hdst ho hi h2 h3 h4 h
  ·simp at hop
 case h_41 neg T x' y' _ hi=>
  split at hop
  ·rename_i op t x y yt ho
   simp only [au,decide_eq_true_eq] at hop
   obtain ⟨⟨⟨rfl,h2⟩,h3⟩,h4⟩:=hop
   exact ald hC hK hd hdst ho hi h2 h3 h4 h
  ·simp at hop
 case h_42 f ys hi=>
  split at hop
  ·rename_i g us ats ho
   split at hop
   ·rename_i v us' hus
    simp only [au,beq_iff_eq] at hop
    obtain ⟨⟨h0,rfl⟩,h1⟩:=hop
    exact ak9 hgood hC hK hd hdst ho hi hus (show v=_ from pC h0) h1 h
   ·simp at hop
  ·simp at hop
 case h_43 f ys hi=>
  split at hop
  ·rename_i g us ats ho
   simp only [au,beq_iff_eq] at hop
   obtain ⟨rfl,h1⟩:=hop
   exact ak8 hgood hC hK hd hdst ho hi h1 h
  ·simp at hop
 case h_44 y hi=>
  split at hop
  ·rename_i x ho; exact WG hC hK hd hdst (.inl ho) hi hop h
  ·rename_i x ho; exact WG hC hK hd hdst (.inr ho) hi hop h
  ·simp at hop
 case h_45 f y hi=>
  split at hop
  ·rename_i g us ats ho
   split at hop
   ·rename_i x hus
    simp only [au,beq_iff_eq] at hop
    obtain ⟨rfl,h1⟩:=hop
    exact alP hgood hC hK hd hdst ho hi hus h1 h
   ·simp at hop
  ·simp at hop
 case h_46 t e hi=>
  split at hop
  ·rename_i t' ho
   simp only [au,beq_iff_eq] at hop
   obtain ⟨rfl,h1⟩:=hop
   exact alE hC hK hd hdst ho hi h1 h
  ·simp at hop
 case h_47 f k y hi=>
  split at hop
  ·rename_i g us ats ho
   split at hop
   ·rename_i k' x hus
    simp only [au,beq_iff_eq] at hop
    obtain ⟨⟨rfl,rfl⟩,h1⟩:=hop
    exact alG hgood hC hK hd hdst ho hi hus h1 h
   ·simp at hop
  ·simp at hop
 case h_48 f k hi=>
  split at hop
  ·rename_i g us ats ho
   split at hop
   ·rename_i k' hus
    simp only [au,beq_iff_eq] at hop
    obtain ⟨rfl,rfl⟩:=hop
    exact alF hgood hC hK hd hdst ho hi hus h
   ·simp at hop
  ·simp at hop
 case h_49 K0 V0 hi=>
  split at hop
  ·rename_i t ho
   simp only [au] at hop
   exact alx hC hK hd hdst ho hi hop.1 hop.2 h
  ·simp at hop
 case h_50 T p k ys hi=>
  split at hop
  ·rename_i t us ho
   split at hop
   ·rename_i f k' us0 hrev
    simp only [au,beq_iff_eq] at hop
    obtain ⟨⟨⟨rfl,h1⟩,h2⟩,h3⟩:=hop
    have hus:us.toList=us0.reverse++[(f,.tmp k')]:=by
     have:=congrArg List.reverse hrev
     simpa using this
    split at h3
    ·rename_i fs hfs
     split at h3
     ·rename_i places hp
      simp only [au] at h3
      obtain ⟨h3,h4⟩:=h3
      split at h4
      ·rename_i A q hA hq
       simp only [au,beq_iff_eq] at h4
       obtain ⟨q1,q2⟩:=q
       obtain ⟨rfl,rfl⟩:=h4
       exact ak5 hC hK hd hdst ho hi (qY h1) h2 hus (vx hfs) hp h3 hA hq h
      ·simp at h4
     ·simp at h3
    ·simp at h3
   ·simp at hop
  ·simp at hop
 case h_51 T k hi=>
  split at hop
  ·rename_i t k' ho
   simp only [beq_iff_eq] at hop
   subst hop
   exact ak3 hC hK hd hdst ho hi h
  ·simp at hop
 case h_52 K0 V0 y z hi=>
  split at hop
  ·rename_i t x u ho
   split at hop
   ·rename_i kt et hu
    simp only [au] at hop
    obtain ⟨⟨⟨⟨h1,h2⟩,h3⟩,h4⟩,h5⟩:=hop
    exact alu hC hK hd hdst ho hi hu h1 h2 (qY h3) h4 h5 h
   ·simp at hop
  ·simp at hop
 case h_53 K0 V0 y z v hi=>
  split at hop
  ·rename_i t x u q ho
   split at hop
   ·rename_i kt et hu
    simp only [au,DU] at hop
    obtain ⟨⟨⟨⟨⟨h0,h1⟩,h2⟩,h3⟩,h4⟩,h5⟩:=hop
    exact aly hC hK h0 hdst ho hi hu h1 h2 h3 h4 h5 h
   ·simp at hop
  ·simp at hop
 case h_54 f y z hi=>
  split at hop
  ·rename_i g us ats ho
   split at hop
   ·rename_i x u hus
    simp only [au,beq_iff_eq] at hop
    obtain ⟨⟨rfl,h0⟩,h1⟩:=hop
    exact alh hgood hC hK hd hdst ho hi hus h0 h1 h
   ·simp at hop
  ·simp at hop
 case h_55 f y z hi=>
  split at hop
  ·rename_i g us ats ho
   split at hop
   ·rename_i x u hus
    simp only [au,beq_iff_eq] at hop
    obtain ⟨⟨rfl,h0⟩,h1⟩:=hop
    exact ali hgood hC hK hd hdst ho hi hus h0 h1 h
   ·simp at hop
  ·simp at hop
 case h_56 f y ys hi=>
  split at hop
  ·rename_i g us ats ho
   split at hop
   ·rename_i u us' hus
    simp only [au,beq_iff_eq] at hop
    obtain ⟨⟨rfl,h0⟩,h1⟩:=hop
    exact alr hgood hC hK hd hdst ho hi hus h0 h1 h
   ·simp at hop
  ·simp at hop
 case h_57 T y yv hi=>
  split at hop
  ·rename_i t x xv ho; simp only [au,DU] at hop; exact alL hC hK hop.2 ho hi (eI hop.1.1.1) hop.1.1.2 hop.1.2 h
  ·simp at hop
end
end Go.Fw
/- Soundness, part 22: regions, code. -/
namespace Go.Fw
open Go Go.RowKit
def mB (ops:Array Oper):Option (Nat×Bool)→Option (Nat×Bool)→Bool
 | none,none=>true
 | some (j,b),some (s,b')=>b==b'&&(match ops[j]? with | some o=>decide (o.dst=some s) | none=>false)
 | _,_=>false
def mC (P:Program) (n:Nat) (ops:Array Oper):Nat→List AI→Bool
 | j,[]=>j==ops.size
 | j,i::r=>(match ops[j]? with | some o=>mB ops o.guard i.guard&&kZ P n o i | none=>false)&&mC P n ops (j+1) r
def oD (i:AI):Bool:=match i.dst with | some 0=>false | _=>true
theorem VM {i:AI} (h:oD i=true):i.dst≠some 0:=by
 intro e; unfold oD at h; rw [e] at h; simp at h
section
variable {P:Program} {B:Nat} {G0:Nat→Nat→Prop} {W0:dc} {n:Nat} {env env':Env} {tm:Array Value} {a:Act} {w:World} {ob:Nat→OB} {cl:az}
variable {R:Type} {r:R} {Q:Exit→Act→World→Prop}
theorem ah.ext (hC:ah P B G0 W0 n env tm w ob) (h:∀ k,look env' k=look env k):∃ ob',ah P B G0 W0 n env' tm w ob':=ah.forget hC (fun k=>.inl (h k))
theorem ah.aj (hC:ah P B G0 W0 n env tm w ob) (live:List Nat):∃ ob',ah P B G0 W0 n (Fw.aj live env) tm w ob':=by
 refine ah.forget hC (fun k=>?_)
 rw [Vw]
 have gone:∀ j,leads k (look (Fw.aj live env) j)=true→k∈live∧(look env k).home=true:=by
  intro j hj
  rw [Vw] at hj
  split at hj
  ·rcases Uj live (look env j) with ⟨h1,h2⟩ | h1
   ·rw [h1] at hj; exact ⟨h2 k hj,(bn.leads hj (hC.rep j)).1⟩
   ·rw [h1] at hj; simp [leads] at hj
  ·simp [leads] at hj
 by_cases hk:k∈live
 ·rw [if_pos hk]
  rcases Uj live (look env k) with ⟨h1,_⟩ | h1
  ·exact .inl h1
  ·by_cases hh:(look env k).home=true
   ·left
    have:qF (look env k)=[]:=by
     cases he:look env k<;>rw [he] at hh<;>first | rfl | (exfalso; simp [E.home] at hh; done)
    unfold qq; rw [this]; rfl
   ·exact .inr ⟨h1,fun j hj=>hh (gone j hj).2⟩
 ·rw [if_neg hk]
  exact .inr ⟨rfl,fun j hj=>hk (gone j hj).1⟩
theorem kept (hC:ah P B G0 W0 n env a.tmps w ob) {o:Oper} {j:Nat} {ops:Array Oper} {s:Nat} {b:Bool} (hj:ops[j]?=some o) (hd:o.dst=some s) (hs:look env s=.v .bool b):yielded ops a.tmps j=some b:=by
 have hr:=hC.rep s
 rw [hs] at hr
 obtain ⟨_,vs,h1,h2⟩:=hr
 unfold Flat at h1
 obtain ⟨rfl,_⟩:=h1
 have h3:a.tmps.getD s undef=.bool b:=h2
 unfold yielded
 simp only [hj,ar,hd]
 cases h4:a.tmps[s]? with
 | none=>
   have:a.tmps.getD s undef=undef:=by simp [mL,h4]
   rw [this] at h3; exact absurd h3 (by simp [undef])
 | some v=>
   have:a.tmps.getD s undef=v:=by simp [mL,h4]
   rw [this] at h3; subst h3; rfl
theorem Uk (hC:ah P B G0 W0 n env a.tmps w ob) {o:Oper} {j:Nat} {ops:Array Oper} {s:Nat} (hj:ops[j]?=some o) (hd:o.dst=some s) (hs:look env s=.bJ):yielded ops a.tmps j=none:=by
 have hr:=hC.rep s
 rw [hs] at hr
 have h3:a.tmps.getD s undef=undef:=hr.1
 unfold yielded
 simp only [hj,ar,hd]
 cases h4:a.tmps[s]? with
 | none=>rfl
 | some v=>
   have:a.tmps.getD s undef=v:=by simp [mL,h4]
   rw [this] at h3; subst h3; rfl
theorem Lc {K:cM R} (hgood:Good P W0.t cl) {ops:Array Oper}:∀ (l:List AI) (j:Nat) (env:Env) (a:Act) (w:World) (ob:Nat→OB),mC P n ops j l=true→(W0.pin=none∨l.all oD=true)→ah P B G0 W0 n env a.tmps w ob→Fw.ops cl l env K=some r→
  bE P B G0 W0 n a K r (fun a' w'=>Q .normal a' w')→wpOps P ops Q (zI j (ops.size - j)) a w
 | [],j,env,a,w,ob,hok,_,hC,h,hK=>by
   simp only [mC,beq_iff_eq] at hok
   rw [hok,Nat.sub_self]
   have:=hK env a.tmps w ob hC h
   exact this
 | i::l,j,env,a,w,ob,hok,hz,hC,h,hK=>by
   have hz1:W0.pin=none∨i.dst≠some 0:=hz.imp id fun h=>by simp only [dJ,au] at h; exact VM h.1
   have hz2:W0.pin=none∨l.all oD=true:=hz.imp id fun h=>by simp only [dJ,au] at h; exact h.2
   simp only [mC,au] at hok
   obtain ⟨h1,h2⟩:=hok
   split at h1
   case h_2=>simp at h1
   rename_i o hj
   simp only [au] at h1
   obtain ⟨hg,hai⟩:=h1
   have hlt:j < ops.size:=(Array.getElem?_eq_some_iff.1 hj).1
   have hr:zI j (ops.size - j)=j::zI (j+1) (ops.size - (j+1)):=by
    rw [show ops.size - j=(ops.size - (j+1))+1 by omega,List.range'_succ]
   rw [hr]
   simp only [wpOps,hj]
   have hdst:i.dst=o.dst:=by simp only [kZ,au,decide_eq_true_eq] at hai; exact hai.1.1
   have hd:∀ k,o.dst=some k→bl W0 n k:=by
    simp only [kZ,au,decide_eq_true_eq] at hai
    intro k hk
    have:=hai.1.2
    rw [hk] at this; exact ⟨by simpa using this,hz1.imp id fun h e=>h (by rw [hdst,hk,e])⟩
   have yes:∀ (env:Env) (ob:Nat→OB),ah P B G0 W0 n env a.tmps w ob→step cl i env (fun env=>Fw.ops cl l env K)=some r→o.wp P a w (wpOps P ops Q (zI (j+1) (ops.size - (j+1)))) Q:=by
    intro env ob hC h
    exact Dw hgood hC (fun env' tm' w' ob' hC' h'=>Lc hgood l (j+1) env' {a with tmps:=tm'} w' ob' h2 hz2 hC' h' (fun e2 t2 w2 o2 h3 h4=>hK e2 t2 w2 o2 h3 h4)) hai hz1 h
   have no:∀ (env:Env) (ob:Nat→OB),ah P B G0 W0 n env a.tmps w ob→Fw.ops cl l (aM env i.dst .bJ) K=some r→wpOps P ops Q (zI (j+1) (ops.size - (j+1))) (a.put o.dst undef) w:=by
    intro env ob hC h
    rw [hdst] at h
    obtain ⟨ob',hC'⟩:=ah.aM (e:=.bJ) (v:=undef) hC hd (aO.refl w) ⟨rfl,rfl⟩ a rfl
    refine Lc hgood l (j+1) _ _ w ob' h2 hz2 hC' h (fun e2 t2 w2 o2 h3 h4=>?_)
    have:=hK e2 t2 w2 o2 h3 h4
    have e:({(a.put o.dst undef) with tmps:=t2}:Act)={a with tmps:=t2}:=by cases o.dst<;>rfl
    rw [e]; exact this
   unfold Fw.ops yL at h
   cases hog:o.guard with
   | none=>
     cases hig:i.guard with
     | some q=>rw [hog,hig] at hg; simp [mB] at hg
     | none=>
       rw [hig] at h
       have hw:Region.wanted o (yielded ops a.tmps)=true:=by simp [Region.wanted,hog]
       rw [if_pos hw]
       exact .inl (yes env ob hC h)
   | some q=>
     obtain ⟨gj,gb⟩:=q
     cases hig:i.guard with
     | none=>rw [hog,hig] at hg; simp [mB] at hg
     | some q'=>
       obtain ⟨s,pol⟩:=q'
       rw [hog,hig] at hg
       simp only [mB,au,beq_iff_eq] at hg
       obtain ⟨rfl,hg⟩:=hg
       split at hg
       case h_2=>simp at hg
       rename_i og hgj
       simp only [decide_eq_true_eq] at hg
       rw [hig] at h
       simp only at h
       split at h
       ·rename_i b hs
        have hy:=kept hC hgj hg hs
        have hw:Region.wanted o (yielded ops a.tmps)=(b==gb):=by
         simp only [Region.wanted,hog,hy]
         cases b<;>cases gb<;>rfl
        have ext:∀ b',b=b'→∃ ob',ah P B G0 W0 n ((s,.v .bool b')::env) a.tmps w ob':=by
         rintro b' rfl
         refine ah.ext hC (fun k=>?_)
         rw [aP]
         split
         ·rename_i e; subst e; exact hs.symm
         ·rfl
        cases b with
        | true=>
          obtain ⟨ob',hC'⟩:=ext true rfl
          simp only [ad] at h
          cases gb with
          | true=>
            rw [if_pos (by rw [hw]; rfl)]
            exact .inl (yes _ _ hC' h)
          | false=>
            rw [if_neg (by rw [hw]; decide)]
            exact no _ _ hC' h
        | false=>
          obtain ⟨ob',hC'⟩:=ext false rfl
          simp only [ad] at h
          cases gb with
          | true=>
            rw [if_neg (by rw [hw]; decide)]
            exact no _ _ hC' h
          | false=>
            rw [if_pos (by rw [hw]; rfl)]
            exact .inl (yes _ _ hC' h)
       ·rename_i hs
        have hy:=Uk hC hgj hg hs
        rw [if_neg (by simp [Region.wanted,hog,hy])]
        exact no _ _ hC h
       ·simp at h
theorem aeY {c:Code} (J:Nat→Act→World→Prop) (h0:∀ a w,¬ J 0 a w) (hs:∀ m a w,J (m+1) a w→c.wp P (Exit.then (J m) Q) a w):∀ (m:Nat) (a:Act) (w:World),J m a w→(Code.loop c).wp P Q a w:=by
 have key:∀ m a w,J m a w→∀ (b:Frame) (k:List Item) (cs:List Frame),∃ e a' w',Q e a' w'∧Arrives P (lone (b.at a (.code c::.inLoop c::k)) cs w) b k cs e a' w':=by
  intro m
  induction m with
  | zero=>intro a w h; exact absurd h (h0 a w)
  | succ m ih=>
    intro a w h b k cs
    obtain ⟨e,a₁,w₁,hq,harr⟩:=hs m a w h b (.inLoop c::k) cs
    cases e with
    | normal=>
      obtain ⟨e₂,a₂,w₂,hq₂,harr₂⟩:=ih a₁ w₁ hq b k cs
      exact ⟨e₂,a₂,w₂,hq₂,.of_steps (Steps.trans harr (.one step_inLoop)) harr₂⟩
    | exit id=>exact ⟨_,a₁,w₁,hq,.pass (x:=.inLoop c) rfl (fun _ _=>.inl (by simp)) harr⟩
    | goto l=>exact ⟨_,a₁,w₁,hq,.pass (x:=.inLoop c) rfl (fun _ _=>.inl (by simp)) harr⟩
    | ret=>exact ⟨_,a₁,w₁,hq,.pass (x:=.inLoop c) rfl (fun _ _=>.inl (by simp)) harr⟩
    | panic ch=>exact ⟨_,a₁,w₁,hq,.pass (x:=.inLoop c) rfl (fun _ _=>.inl (by simp)) harr⟩
    | outgrown=>exact ⟨_,a₁,w₁,hq,.pass (x:=.inLoop c) rfl (fun _ _=>.inl (by simp)) harr⟩
 intro m a w h b k cs
 obtain ⟨e,a',w',hq,harr⟩:=key m a w h b k cs
 exact ⟨e,a',w',hq,.of_steps (.one step_loop) harr⟩
end
end Go.Fw
