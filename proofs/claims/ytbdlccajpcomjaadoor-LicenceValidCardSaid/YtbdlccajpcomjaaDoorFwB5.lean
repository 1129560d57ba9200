/- Own work: the value machine, part 5. -/
import Derived.Test.YtbdlccajpcomjaaDoorFwB4
import Derived.Test.YtbdlccajpcomjaaDoorFwB3
import Derived.Laws.MakeOwn
import Derived.Test.YtbdlccajpcomjaaDoorFwB1
import Derived.Orders
set_option linter.unusedVariables false
set_option linter.unusedSimpArgs false
open Array renaming toList_inj → lF, toList_map → Dh, getD_eq_getD_getElem? → nv, getElem?_eq_some_iff → Df
open Bool renaming and_eq_true → aB, not_eq_true' → dX, false_eq_true → bA, or_eq_true → Su
open List renaming mem_map → ew, mem_append_right → iq, mem_append_left → gJ, all_cons → jC, mem_append → eu, mem_cons → dG, mem_singleton → vL, map_cons → fG, getElem?_map → oF, getElem?_eq_getElem → fr, replicate → jE, range' → Dp, cons_append → dQ, mem_cons_of_mem → oG, mem_cons_self → oH, all_eq_true → gl, append_assoc → bX, nil_append → eC, getElem?_cons_zero → im, countP_cons → s4, append_nil → fZ, mem_range → oI
open Nat renaming zero_le → jb, le_trans → gv, lt_of_lt_of_le → eK, succ_mul → ma, mul_le_mul_right → IQ
open Ne renaming symm → b9
open Option renaming bind_eq_some_iff → av, map_some → vM, isSome_iff_exists → IU, bind_some → ah
open Option.some renaming injEq → az
open Prod.mk renaming injEq → eL
/- Soundness: calls that are lent a record, from the caller's side. -/
namespace Go.Fw
open Go Go.RowKit
theorem Flat.lift (P:Program):∀ (T:Ty) {w:World} {G:Nat→Nat→Prop} {B:Nat} {o:aC} {x:den T} {vs:List Value} {ob:OB},ez T=true→(∀ b∈blocks ob,B≤b)→Flat P T w G 0 o x vs ob→Flat P T w G B o x vs ob
 | .int k,_,_,_,_,_,_,_,_,_,h=>by unfold Flat at h ⊢; exact h
 | .bool,_,_,_,_,_,_,_,_,_,h=>by unfold Flat at h ⊢; exact h
 | .str,_,_,_,_,_,_,_,_,_,h=>by unfold Flat at h ⊢; exact h
 | .unit,_,_,_,_,_,_,_,_,_,h=>by unfold Flat at h ⊢; exact h
 | .pair A C,_,_,_,_,_,_,_,hn,hb,h=>by
   simp only [ez,aB] at hn
   unfold Flat at h ⊢
   obtain ⟨v1,v2,b1,b2,rfl,rfl,h1,h2⟩:=h
   exact ⟨v1,v2,b1,b2,rfl,rfl,Flat.lift P A hn.1 (fun b hb'=>hb b (by simp [hb'])) h1,Flat.lift P C hn.2 (fun b hb'=>hb b (by simp [hb'])) h2⟩
 | .arr n T,_,_,_,_,_,_,_,hn,hb,h=>by
   simp only [ez] at hn
   unfold Flat at h ⊢
   exact ⟨h.1,aU.imp (fun x v b hs hx=>Flat.lift P T hn (fun g hg=>by
    obtain ⟨q,hq,rfl⟩:=ew.1 hg
    exact hb _ (ew.2 ⟨q,hs q hq,rfl⟩)) hx) h.2⟩
 | .sl T,w,G,B,o,xs,vs,ob,hn,hb,h=>by
   simp only [ez] at hn
   have dT:(ob=[]∧∃ A c,vs=[.slice A xs.length c]∧xs.length≤c∧c≤maxLen∧
    (xs=[]∨∃ b off cells,A=some ⟨b,off,none⟩∧aU (Flat P T w G 0 .no) xs cells []∧∀ j v,cells[j]?=some v→w.cell? ⟨b,off+j,none⟩=some v∧G b (off+j)))→
    (ob=[]∧∃ A c,vs=[.slice A xs.length c]∧xs.length≤c∧c≤maxLen∧
    (xs=[]∨∃ b off cells,A=some ⟨b,off,none⟩∧aU (Flat P T w G B .no) xs cells []∧∀ j v,cells[j]?=some v→w.cell? ⟨b,off+j,none⟩=some v∧G b (off+j))):=by
    rintro ⟨h0,A,c,h1,h2,h3,h4⟩
    refine ⟨h0,A,c,h1,h2,h3,?_⟩
    rcases h4 with h4 | ⟨b,off,cells,h5,h6,h7⟩
    ·exact .inl h4
    ·exact .inr ⟨b,off,cells,h5,aU.imp (fun x v b _ hx=>Flat.up P T (jb _) hx) h6,h7⟩
   cases o with
   | no=>unfold Flat at h ⊢; exact dT h
   | hole=>unfold Flat at h ⊢; exact h
   | pair a b=>unfold Flat at h ⊢; exact dT h
   | own wr e o=>
     unfold Flat at h ⊢
     obtain ⟨v,cells,ob',h1,h2,h3,rfl⟩:=h
     refine ⟨v,cells,ob',h1,⟨h2.1,?_⟩,aU.imp (fun x v b hs hx=>Flat.lift P T hn (fun g hg=>by
      obtain ⟨q,hq,rfl⟩:=ew.1 hg
      exact hb _ (by rw [eZ]; exact iq _ (ew.2 ⟨q,hs q hq,rfl⟩))) hx) h3,rfl⟩
     rcases h2.2 with h2 | ⟨g,cap,cur,e',fz,rfl,_,k3⟩
     ·exact .inl h2
     ·exact .inr ⟨g,cap,cur,e',fz,rfl,hb g (by rw [eZ]; exact gJ _ (ew.2 ⟨_,sM rfl,rfl⟩)),k3⟩
 | .fn A C,_,_,_,_,_,_,_,hn,_,_=>by simp [ez] at hn
section
variable {P:Program} {B:Nat} {G0:Nat→Nat→Prop} {W0:dF} {n:Nat} {env:Env} {tm:Array Value} {a:Act} {w:World} {ob:Nat→OB} {cl:aH}
variable {R:Type} {K:dn R} {r:R} {next:Act→World→Prop} {Q:Exit→Act→World→Prop} {o:Oper} {i:AI}
theorem I0 {w':World} {G1 G2:Nat→Nat→Prop} {tm1 tm2:Array Value} {env1 env2:Env} {e:E} {v:Value} {b:OB} (hb:e.back=true) (hB:∀ g∈blocks b,B≤g)
  (hG:∀ b i,b < w'.heap.size→G1 b i→G2 b i) (h:cx P w' G1 0 tm1 env1 e v b):cx P w' G2 B tm2 env2 e v b:=by
 cases e with
 | v T x=>
   obtain ⟨h0,vs,h1,h2⟩:=h
   exact ⟨h0,vs,Flat.mono P T (fun b i hb h=>⟨hG b i hb h,rfl⟩) (b8.refl _ _) (by simp) (Flat.up P T (jb _) h1),h2⟩
 | own wr ed T o xs=>
   simp only [E.back,aB] at hb
   have h1:Flat P (.sl T) w' G1 B (.own wr ed o) xs [v] b:=Flat.lift P (.sl T) (by simpa only [ez] using hb.1) hB h
   exact Flat.mono P (.sl T) (o:=.own wr ed o) (fun b i hb h=>⟨hG b i hb h,rfl⟩) (b8.refl _ _) (fun _ _=>rfl) h1
 | _=>simp [E.back] at hb
theorem aiA {w':World} {G1 G2:Nat→Nat→Prop} {tm1 tm2:Array Value} {env1 env2:Env} {es:List E} {v:Value} {b:OB} (hb:es.all E.back=true) (hB:∀ g∈blocks b,B≤g)
  (hG:∀ b i,b < w'.heap.size→G1 b i→G2 b i) (h:bL P w' G1 0 tm1 env1 (eI es) v b):bL P w' G2 B tm2 env2 (eI es) v b:=by
 have key:∀ {es:List E} {vs:List Value} {b:OB},es.all E.back=true→(∀ g∈blocks b,B≤g)→dR (cx P w' G1 0 tm1 env1) es vs b→dR (cx P w' G2 B tm2 env2) es vs b:=by
  intro es
  induction es with
  | nil=>intro vs b _ _ h; exact h
  | cons e es ih=>
    rintro vs b hb hB ⟨v,rr,b1,b2,rfl,rfl,h1,h2⟩
    simp only [jC,aB] at hb
    exact ⟨v,rr,b1,b2,rfl,rfl,I0 hb.1 (fun g hg=>hB g (by simp [hg])) hG h1,ih hb.2 (fun g hg=>hB g (by simp [hg])) h2⟩
 match es,hb,h with
 | [e],hb,h=>
   simp only [jC,List.all_nil,Bool.and_true] at hb
   cases e with
   | v T x=>exact I0 (tm1:=tm1) (tm2:=tm2) (env1:=env1) (env2:=env2) (e:=.v T x) hb hB hG h
   | own wr ed T o xs=>exact I0 (tm1:=tm1) (tm2:=tm2) (env1:=env1) (env2:=env2) (e:=.own wr ed T o xs) hb hB hG h
   | _=>simp [E.back] at hb
 | [],hb,h=>obtain ⟨h0,vs,h1,h2⟩:=h; exact ⟨h0,vs,h1,key hb hB h2⟩
 | e1::e2::es,hb,h=>obtain ⟨h0,vs,h1,h2⟩:=h; exact ⟨h0,vs,h1,key hb hB h2⟩
theorem aAU {s:Nat} {e:E} (h:eQ s e=true):leads s e=true:=by
 cases e<;>simp only [eQ] at h<;>first | exact h | (exfalso; simp at h; done)
theorem ahG {s:Nat} {e:E} (h:e.home=true):eQ s e=false:=by
 cases e<;>first | (exfalso; simp [E.home] at h; done) | rfl
theorem avH (o:aC) (s:Nat) (env:Env) (k:Nat):look (lv o s env) k=if o.pure=false∧eQ s (look env k)=true then .dead else look env k:=by
 unfold lv
 cases ho:o.pure with
 | true=>simp
 | false=>simp only [va,true_and]
theorem afP {env:Env} {s:Nat} {T:Ty} {o:aC} {x:den T} (hs:look env s=.loc T o x) (ho:o.pure=true) (p:Path):bC env s p=none:=by
 unfold bC
 rw [hs]
 simp only
 have h:=vQ p o ho
 split
 ·rename_i wr e o' T' xs h1 h2
  rw [h1] at h; simp [aC.pure] at h
 ·rfl
theorem aiC {l m:OB} {b:Nat}:b∈blocks (l++m)↔b∈blocks l∨b∈blocks m:=by rw [eZ,eu]
theorem ar.avd (hC:ar P B G0 W0 n env tm w ob) {s:Nat} {T:Ty} {oa oa':aC} {x x':den T} (hs:look env s=.loc T oa x) (hn:ez T=true) {w':World} {lob' rob:OB} {res:List E} {rv:Value}
  (ho:vF P w w' (Gd B G0 ob) (ob s) lob' T oa' x' (tm.getD s undef) res rv rob) {d:Option Nat} (hd:∀ k,d=some k→bH W0 n k) (hds:apart d s=true) (a:Act) (ha:a.tmps=tm):
  ∃ ob',ar P B G0 W0 n (Fw.aX ((s,.loc T oa' x')::lv oa s env) d (eI res)) (a.put d rv).tmps w' ob':=by
 subst ha
 have hds':∀ k,d=some k→k≠s:=by
  intro k hk; subst hk
  simp only [apart,dX,beq_eq_false_iff_ne] at hds; exact hds
 let ob':Nat→OB:=fun j=>if d=some j then rob else if j=s then lob' else ob j
 have obs:ob' s=lob':=by
  have:d≠some s:=fun e=>hds' s e rfl
  simp [ob',this]
 have obd:∀ k,d=some k→ob' k=rob:=fun k hk=>by simp [ob',hk]
 have obo:∀ j,d≠some j→j≠s→ob' j=ob j:=fun j h1 h2=>by simp [ob',h1,h2]
 have hnew:∀ b,b∈blocks lob'∨b∈blocks rob→b < w'.heap.size∧(b∈blocks (ob s)∨w.heap.size≤b):=fun b hb=>ho.new b (aiC.2 hb)
 have hnl:∀ b,b∈blocks lob'∨b∈blocks rob→B≤b∧∀ j,j≠s→b∉blocks (ob j):=fun b hb=>by
  rcases (hnew b hb).2 with h | h
  ·exact ⟨(hC.low s b h).1,fun j hj hb'=>hj (hC.dist j s b hb' h)⟩
  ·exact ⟨gv hC.base h,fun j _ hb'=>by have:=(hC.low j b hb').2; omega⟩
 have cases':∀ j b,b∈blocks (ob' j)→(d=some j∧b∈blocks rob)∨(j=s∧b∈blocks lob')∨(d≠some j∧j≠s∧b∈blocks (ob j)):=by
  intro j b hb
  by_cases h1:d=some j
  ·rw [obd j h1] at hb; exact .inl ⟨h1,hb⟩
  ·by_cases h2:j=s
   ·subst h2; rw [obs] at hb; exact .inr (.inl ⟨rfl,hb⟩)
   ·rw [obo j h1 h2] at hb; exact .inr (.inr ⟨h1,h2,hb⟩)
 have hndA:=ho.nodup
 rw [eZ,List.nodup_append] at hndA
 obtain ⟨nd1,nd2,nd3⟩:=hndA
 have hGl:∀ b i,Gl w (Gd B G0 ob) (ob s) (lob'++rob) b i→Gd B G0 ob' b i:=by
  intro b i h
  have lim_of:(∀ lim,(b,lim)∈lob'++rob→i < lim)→(∀ j lim,d≠some j→j≠s→(b,lim)∈ob j→i < lim)→∀ j lim,(b,lim)∈ob' j→i < lim:=by
   intro h1 h2 j lim hj
   by_cases e1:d=some j
   ·rw [obd j e1] at hj; exact h1 lim (iq _ hj)
   ·by_cases e2:j=s
    ·subst e2; rw [obs] at hj; exact h1 lim (gJ _ hj)
    ·rw [obo j e1 e2] at hj; exact h2 j lim e1 e2 hj
  rcases h with ⟨h1,h2,h3⟩ | ⟨h1,h2⟩
  ·have hc:=ho.cells b i h1 h3
   rcases h3 with h3 | ⟨h3,h4,h5⟩
   ·exact .inl h3
   ·exact .inr ⟨h3,h4,lim_of hc.2 fun j lim _ _ hj=>h5 j lim hj⟩
  ·have hB:B≤b:=by
    rcases h1 with h1 | h1
    ·exact gv hC.base h1
    ·exact (hC.low s b h1).1
   refine .inr ⟨hB,hC.free b i hB (fun hx=>?_),lim_of h2 fun j lim _ hj hm=>?_⟩
   ·rcases h1 with h1 | h1
    ·have:=hC.oldx b hx; omega
    ·exact hC.prot s b h1 hx
   ·exfalso
    rcases h1 with h1 | h1
    ·have:=(hC.low j b (aI.2 ⟨_,hm⟩)).2; omega
    ·exact hj (hC.dist j s b (aI.2 ⟨_,hm⟩) h1)
 have hG:∀ b i,b < w.heap.size→Gd B G0 ob b i→Gd B G0 ob' b i∧w'.cell? ⟨b,i,none⟩=w.cell? ⟨b,i,none⟩:=by
  intro b i hb hg
  have hc:=ho.cells b i hb hg
  refine ⟨?_,hc.1⟩
  by_cases hl:b∈blocks (ob s)
  ·exact hGl b i (.inr ⟨.inr hl,hc.2⟩)
  ·exact hGl b i (.inl ⟨hb,hl,hg⟩)
 have hbel:Below B w w':=⟨ho.os,ho.tape,ho.output,ho.size,fun k hk=>ho.rest k (eK hk hC.base) fun h=>by have:=(hC.low s k h).1; omega⟩
 have hst:Steps ob ob' w w':=by
  refine ⟨fun k b hb=>?_,fun b hb hn=>ho.rest b hb (hn s)⟩
  rcases cases' k b hb with ⟨_,h⟩ | ⟨_,h⟩ | ⟨_,_,h⟩
  ·exact (hnew b (.inr h)).2.imp (fun h=>⟨s,h⟩) id
  ·exact (hnew b (.inl h)).2.imp (fun h=>⟨s,h⟩) id
  ·exact .inl ⟨k,h⟩
 have tmo:∀ j,d≠some j→(a.put d rv).tmps.getD j undef=a.tmps.getD j undef:=by
  intro j hj
  cases d with
  | none=>rfl
  | some k=>exact hJ _ _ (fun e=>hj (by rw [e]))
 have tmd:∀ k,d=some k→(a.put d rv).tmps.getD k undef=rv:=by
  intro k hk; subst hk
  exact oe _ _ _ (by rw [hC.size]; exact (hd k rfl).1)
 have hback:=fun k=>SZ ho.back k
 -- what the new state shows
 have l0:∀ j,look ((s,E.loc T oa' x')::lv oa s env) j=if s=j then .loc T oa' x' else if oa.pure=false∧eQ s (look env j)=true then .dead else look env j:=by
  intro j; rw [bm,avH]
 have lk:∀ j,look (Fw.aX ((s,E.loc T oa' x')::lv oa s env) d (eI res)) j=if d=some j then eI res else if s=j then .loc T oa' x' else
   if (oa.pure=false∧eQ s (look env j)=true)∨(∃ k,d=some k∧(look env k).home=true∧leads k (look env j)=true) then .dead else look env j:=by
  intro j
  cases d with
  | none=>
    simp only [reduceCtorEq,if_false,false_and,exists_false,or_false]
    exact l0 j
  | some k=>
    have hks:=hds' k rfl
    simp only [az]
    show look (Fw.put ((s,E.loc T oa' x')::lv oa s env) k (eI res)) j=_
    rw [sL,hback k]
    simp only [bA,if_false]
    by_cases h1:k=j
    ·rw [if_pos h1,if_pos h1]
    ·rw [if_neg h1,if_neg h1]
     have hk0:look ((s,E.loc T oa' x')::lv oa s env) k=if oa.pure=false∧eQ s (look env k)=true then .dead else look env k:=by rw [l0,if_neg (b9 hks)]
     by_cases h2:s=j
     ·subst h2
      have e1:look ((s,E.loc T oa' x')::lv oa s env) s=.loc T oa' x':=by rw [l0,if_pos rfl]
      rw [e1,if_pos rfl]
      simp [leads]
     ·have e1:look ((s,E.loc T oa' x')::lv oa s env) j=if oa.pure=false∧eQ s (look env j)=true then .dead else look env j:=by rw [l0,if_neg h2]
      rw [e1,if_neg h2,hk0]
      by_cases h3:oa.pure=false∧eQ s (look env j)=true
      ·have:∀ k,leads k E.dead=false:=fun _=>rfl
       simp [h3,this]
      ·rw [if_neg h3]; simp only [h3,false_or]
       by_cases h4:oa.pure=false∧eQ s (look env k)=true
       ·have:(look env k).home=false:=by
         cases hh:(look env k).home with
         | false=>rfl
         | true=>rw [ahG hh] at h4; simp at h4
        rw [if_pos h4,if_neg (by simp [E.home]),if_neg (by rintro ⟨k',e,h6,_⟩; cases e; rw [this] at h6; simp at h6)]
       ·rw [if_neg h4]
        by_cases h5:(look env k).home=true∧leads k (look env j)=true
        ·rw [if_pos h5,if_pos ⟨k,rfl,h5⟩]
        ·rw [if_neg h5,if_neg (by rintro ⟨k',e,h6⟩; cases e; exact h5 h6)]
 refine ⟨ob',ar.step hC hst hbel hG (fun j=>?_) ?_ ?_ ?_ ?_ ?_⟩
 ·by_cases h1:d=some j
  ·right
   rw [lk,if_pos h1,tmd j h1,obd j h1]
   exact aiA ho.back (fun g hg=>(hnl g (.inr hg)).1) (fun b i _ h=>hGl b i h) ho.rep
  ·by_cases h2:s=j
   ·subst h2
    right
    rw [lk,if_neg h1,if_pos rfl,tmo s h1,obs]
    obtain ⟨b,cur,e,ob2,k1,k2,k3,k4⟩:=ho.shown
    have hlb:∀ g∈blocks lob',B≤g:=fun g hg=>(hnl g (.inl hg)).1
    refine ⟨b,cur,e,ob2,k1,hlb b (by rw [k4]; simp),k2,?_,k4⟩
    exact Flat.mono P T (fun b i _ h=>⟨hGl b i h,rfl⟩) (b8.refl _ _) (fun _ _=>rfl) (Flat.lift P T hn (fun g hg=>hlb g (by rw [k4]; simp [hg])) k3)
   ·rw [lk,if_neg h1,if_neg h2,tmo j h1,obo j h1 (b9 h2)]
    have hbj:∀ g∈blocks (ob j),w'.heap[g]?=w.heap[g]?:=fun g hg=>ho.rest g (hC.low j g hg).2 fun h=>h2 (hC.dist s j g h hg)
    by_cases h3:(oa.pure=false∧eQ s (look env j)=true)∨(∃ k,d=some k∧(look env k).home=true∧leads k (look env j)=true)
    ·right
     rw [if_pos h3]
     rcases h3 with ⟨_,h3⟩ | ⟨k,_,_,h3⟩
     ·exact (bL.leads (aAU h3) (hC.rep j)).2
     ·exact (bL.leads h3 (hC.rep j)).2
    ·rw [if_neg h3]
     have other:∀ t,leads t (look env j)=true→s≠t→fp w a.tmps env w' (a.put d rv).tmps (Fw.aX ((s,.loc T oa' x')::lv oa s env) d (eI res)) t:=by
      intro t ht hts
      have hh:=bL.leads ht (hC.rep j)
      have htd:d≠some t:=fun e=>h3 (.inr ⟨t,e,hh.1,ht⟩)
      refine fp.same (P:=P) ?_ (tmo t htd) (hC.rep t) (fun g hg=>ho.rest g (hC.low t g hg).2 fun h=>hts (hC.dist s t g h hg))
      rw [lk,if_neg htd,if_neg hts,if_neg]
      rintro (⟨_,h⟩ | ⟨k,_,_,h⟩)
      ·rw [ahG hh.1] at h; simp at h
      ·rw [sI hh.1] at h; simp at h
     by_cases hpu:oa.pure=true
     ·left
      refine ⟨rfl,rfl,rfl,hbj,fun t ht=>?_⟩
      by_cases hts:s=t
      ·subst hts
       refine ⟨fun p v hp _=>?_,fun p h hh=>?_,fun T1 o1 x1 hx=>?_⟩
       ·rw [afP hs hpu] at hp; simp at hp
       ·rw [afP hs hpu] at hh; simp at hh
       ·rw [hs] at hx; cases hx
        exact ⟨oa',x',by rw [lk,if_neg (fun e=>hds' _ e rfl),if_pos rfl],tmo _ fun e=>hds' _ e rfl⟩
      ·exact other t ht hts
     ·have hpf:oa.pure=false:=by simpa using hpu
      by_cases h4:leads s (look env j)=true
      ·right
       have hr:=hC.rep j
       have hns:¬ eQ s (look env j)=true:=fun h=>h3 (.inl ⟨hpf,h⟩)
       cases he:look env j<;>rw [he] at h4 hns hr<;>first | (exfalso; simp [leads] at h4; done) | exact absurd h4 hns | skip
       rename_i s' p
       simp only [leads,beq_iff_eq] at h4
       subst h4
       obtain ⟨m0,T1,o1,x1,b',m1,m2,m3,m4⟩:=hr
       rw [hs] at m1; cases m1
       refine ⟨m0,T,oa',x',b',?_,?_,m3,m4⟩
       ·rw [lk,if_neg (fun e=>hds' _ e rfl),if_pos rfl]
       ·rw [tmo _ (fun e=>hds' _ e rfl)]; exact m2
      ·left
       exact ⟨rfl,rfl,rfl,hbj,fun t ht=>other t ht fun e=>h4 (e▸ht)⟩
 ·intro j k b hj hk
  rcases cases' j b hj with ⟨e1,h1⟩ | ⟨e1,h1⟩ | ⟨e1,f1,h1⟩<;>rcases cases' k b hk with ⟨e2,h2⟩ | ⟨e2,h2⟩ | ⟨e2,f2,h2⟩
  ·rw [e1] at e2; cases e2; rfl
  ·exact absurd rfl (nd3 b h2 b h1)
  ·exact absurd h2 ((hnl b (.inr h1)).2 k f2)
  ·exact absurd rfl (nd3 b h1 b h2)
  ·rw [e1,e2]
  ·exact absurd h2 ((hnl b (.inl h1)).2 k f2)
  ·exact absurd h1 ((hnl b (.inr h2)).2 j f1)
  ·exact absurd h1 ((hnl b (.inl h2)).2 j f1)
  ·exact hC.dist j k b h1 h2
 ·intro k
  by_cases h1:d=some k
  ·rw [obd k h1]; exact nd2
  ·by_cases h2:k=s
   ·subst h2; rw [obs]; exact nd1
   ·rw [obo k h1 h2]; exact hC.nodup k
 ·intro k b hb
  rcases cases' k b hb with ⟨_,h⟩ | ⟨_,h⟩ | ⟨_,_,h⟩
  ·exact ⟨(hnl b (.inr h)).1,(hnew b (.inr h)).1⟩
  ·exact ⟨(hnl b (.inl h)).1,(hnew b (.inl h)).1⟩
  ·exact ⟨(hC.low k b h).1,eK (hC.low k b h).2 ho.size⟩
 ·cases d with
  | none=>exact hC.size
  | some k=>show (a.tmps.setIfInBounds k rv).size=n; rw [Array.size_setIfInBounds]; exact hC.size
 ·intro v hv
  cases d with
  | none=>rfl
  | some k=>exact (hd k rfl).ae hv _ _
theorem ave {T:Ty} {res:List E} {y:aC×den T×List E} (h:HI T res=some y):ez T=true∧res=.loc T y.1 y.2.1::y.2.2:=by
 unfold HI at h
 split at h
 ·split at h
  ·rename_i hn
   simp only [av,az] at h
   obtain ⟨x,hx,rfl⟩:=h
   have:=dJ hx; cases this
   exact ⟨hn,rfl⟩
  ·simp at h
 ·simp at h
theorem aBn {f:FuncId} {us:Array Operand} {ats:Array TypeId} {u:Operand} {us':List Operand} {p:Od} {ys:List Od} (hgood:Good P W0.t cl) (hC:ar P B G0 W0 n env a.tmps w ob) (hK:bU P B G0 W0 n a K r next) (hd:∀ k,o.dst=some k→bH W0 n k) (hdst:i.dst=o.dst)
  (ho:o.op=.call {callee:=.value (.func f),args:=us,argTypes:=ats}) (hi:i.op=.hN f p ys) (hus:us.toList=u::us') (hp:aK u p=true) (hx:eO us' ys=true) (h:step cl i env K=some r):o.wp P a w next Q:=by
 unfold step at h; rw [hi] at h; simp only [hdst,aH.eqn,av] at h
 obtain ⟨⟨s,q⟩,hq,h⟩:=h
 simp only at h
 split at h
 case h_2=>simp at h
 simp only [av] at h
 obtain ⟨as,h1,h⟩:=h
 split at h
 case h_2=>simp at h
 rename_i hla
 simp only [aB] at hla
 split at h
 case h_2=>simp at h
 rename_i T oa x hsl
 simp only [av] at h
 obtain ⟨res,hres,y,hy,h⟩:=h
 obtain ⟨hn,hy⟩:=ave hy
 obtain ⟨oa',x',rs⟩:=y
 simp only at hy h
 obtain ⟨ob',hf,hC'⟩:=wE (a:=a) ys hC
 have hz:=Hd ys env
 have hA:=oR (G':=Gd B G0 ob') hgood hC' hx (Fz.gg hz.1 h1) ⟨fun _ _ _ h=>h,.inr fun s ⟨y,hy,hs⟩=>hz.2 y hy s (by rw [←HC (iY.ag hz.1 y)]; exact hs)⟩
 obtain ⟨hcal,hL⟩:=hgood.lend f T oa x as res hres
 -- the pointer
 have hev:a.eval u=a.tmps.getD s undef:=by
  have hs0:∃ o0 x0,look env s=.loc T o0 x0:=by
   rcases hz.1 s with e | ⟨_,_,_,_,_,_,e⟩ | ⟨T0,o0,x0,e1,e2⟩
   ·exact ⟨oa,x,by rw [←e]; exact hsl⟩
   ·rw [hsl] at e; cases e
   ·rw [hsl] at e2; cases e2; exact ⟨_,_,e1⟩
  obtain ⟨o0,x0,hs0⟩:=hs0
  cases p with
  | t k=>
    rw [lA hp a]
    simp only [eH,ag] at hq
    split at hq
    ·rename_i s' p' hk
     cases hq
     have hr:=hC.rep k
     rw [hk] at hr
     obtain ⟨_,T1,o1,x1,b,k1,k2,_,k4⟩:=hr
     have e0:bu T1 []=0:=by cases T1<;>rfl
     rw [k4,k2,e0]
    ·simp only [Od.slot,vM,az,eL] at hq
     rw [hq.1]
    ·cases hq
  | c T x=>simp [eH,ag] at hq
  | nil e T=>simp [eH,ag] at hq
  | fn f A C=>simp [eH,ag] at hq
 have hr:=hC'.rep s
 rw [hsl] at hr
 obtain ⟨b,cur,e,ob2,k1,k2,k3,k4,k5⟩:=hr
 have hcall:=hL w (Gd B G0 ob') (a.tmps.getD s undef) (us'.map a.eval) (ob' s) hn hC'.qx (fun b hb=>gv hC'.jT.1 (hC'.low s b hb).1) ⟨b,cur,e,ob2,k1,k3,Flat.down P T hn (jb _) k4,k5⟩ (hC'.nodup s) (fun b hb=>(hC'.low s b hb).2)
  (fun b lim i hb hg=>by
   rcases hg with ⟨hg,_⟩ | ⟨_,_,hg⟩
   ·have:=(hC'.low s b (aI.2 ⟨_,hb⟩)).1; omega
   ·exact hg s lim hb) hA hla.1
 have hrun:(execOp a.eval o).run P w=.ok (.enter f (us.map a.eval)) w:=by
  have:=sR hcal (us.map a.eval) w
  simp [execOp,ho,resolve,Deferred.ofValue,invoke,Act.eval,this]
 have e2:(a.tmps.getD s undef::us'.map a.eval).toArray=us.map a.eval:=by
  apply lF.1
  simp [hus,hev]
 rw [e2] at hcall
 refine nu hrun (Calls.mono hcall ?_)
 rintro en w' ⟨T',o2,x2,rs2,rv,lob',rob,e3,rfl,hout⟩
 rw [hy] at e3; cases e3
 obtain ⟨ob3,hC3⟩:=ar.avd hC' hsl hn hout hd hla.2 a rfl
 have:=hK _ _ _ _ hC3 h
 exact ⟨rv,rfl,by rw [ahg] at this; exact this⟩
end
end Go.Fw
/- Soundness: a builder of texts. -/
namespace Go.Fw
open Go Go.RowKit
section
variable {P:Program} {B:Nat} {G0:Nat→Nat→Prop} {W0:dF} {n:Nat} {env:Env} {a:Act} {w:World} {ob:Nat→OB} {tm:Array Value}
variable {R:Type} {K:dn R} {r:R} {next:Act→World→Prop} {Q:Exit→Act→World→Prop} {o:Oper} {i:AI} {cl:aH}
def sbV:Value→Bool
 | .agg u=>(match u.toList with | [.pointer none,.slice none 0 0]=>true | _=>false)
 | _=>false
def HY (P:Program) (t:TypeId):Bool:=match P.info? t with
 | some i=>(match i.zero with | some z=>sbV z | none=>false)
 | none=>false
theorem aAM {t:TypeId} (h:HY P t=true):∃ it,P.info? t=some it∧it.zero=some (.agg #[.pointer none,.slice none 0 0]):=by
 unfold HY at h
 split at h
 ·rename_i it hi
  split at h
  ·rename_i z hz
   refine ⟨it,hi,?_⟩
   rw [hz]
   unfold sbV at h
   split at h
   ·rename_i u
    split at h
    ·rename_i hu
     have:u=#[.pointer none,.slice none 0 0]:=lF.1 hu
     rw [this]
    ·simp at h
   ·simp at h
  ·simp at h
 ·simp at h
theorem aAO {t e:TypeId} {s:List UInt8} {v:Value} {ob:OB} (h:j0 w B t e s v ob):∀ b lim,(b,lim)∈ob→lim=0:=by
 obtain ⟨b,p,u,_,_,_,_,_,_,rfl⟩:=h
 intro g lim hg
 rcases dG.1 hg with h | h
 ·cases h; rfl
 ·unfold cf at h
  split at h
  ·simp only [vL,eL] at h; exact h.2
  ·cases h
theorem ar.ahy (hC:ar P B G0 W0 n env tm w ob) {k:Nat} {t e:TypeId} {s:List UInt8} (hk:look env k=.sb t e s) {w':World} {ob1:OB} {e':E} (hout:ta w w' (ob k) ob1)
  (hrep:∀ G env',bL P w' G B tm env' e' (tm.getD k undef) ob1):ar P B G0 W0 n ((k,e')::env) tm w' (fE ob k ob1):=by
 have hr:=hC.rep k
 rw [hk] at hr
 have hlim:=aAO hr.1
 have kb:∀ g∈blocks (ob k),B≤g∧g < w.heap.size:=fun g hg=>hC.low k g hg
 have hlow1:∀ g∈blocks ob1,B≤g∧g < w'.heap.size:=fun g hg=>by
  obtain ⟨h1,h2⟩:=hout.new g hg
  rcases h2 with h2 | h2
  ·exact ⟨(kb g h2).1,h1⟩
  ·exact ⟨gv hC.base h2,h1⟩
 have hob:∀ j,j≠k→fE ob k ob1 j=ob j:=fun j hj=>fo ob ob1 hj
 have hobk:fE ob k ob1 k=ob1:=gk ob k ob1
 have jQ:∀ b,b < w.heap.size→b∉blocks (ob k)→w'.heap[b]?=w.heap[b]?:=hout.rest
 have homek:(look env k).home=false:=by rw [hk]; rfl
 refine ar.step hC ⟨fun j b hb=>?_,fun b hb hn=>jQ b hb (hn k)⟩ ⟨hout.os,hout.tape,hout.output,hout.size,fun g hg=>jQ g (eK hg hC.base) fun h=>by have:=(kb g h).1; omega⟩ (fun b i hb h=>?_) (fun j=>?_) ?_ ?_ ?_ hC.size (fun _ _=>rfl)
 ·by_cases hj:j=k
  ·subst hj; rw [hobk] at hb; exact (hout.new b hb).2.imp (fun h=>⟨j,h⟩) id
  ·rw [hob j hj] at hb; exact .inl ⟨j,hb⟩
 ·have hnk:b∉blocks (ob k):=by
   intro hm
   obtain ⟨q,hq,hqb⟩:=ew.1 hm
   obtain ⟨g,lim⟩:=q
   simp only at hqb; subst hqb
   have hl:=hlim _ _ hq
   subst hl
   rcases h with ⟨h,_⟩ | ⟨_,_,h⟩
   ·have:=(kb g hm).1; omega
   ·exact absurd (h k 0 hq) (by omega)
  refine ⟨?_,World.cell?_of_block (w:=w) (jQ b hb hnk)⟩
  rcases h with h | ⟨h1,h2,h3⟩
  ·exact .inl h
  ·refine .inr ⟨h1,h2,fun j lim hm=>?_⟩
   by_cases hj:j=k
   ·subst hj; rw [hobk] at hm
    have:=(hout.new b (ew.2 ⟨_,hm,rfl⟩)).2
    rcases this with h | h
    ·exact absurd h hnk
    ·omega
   ·rw [hob j hj] at hm; exact h3 j lim hm
 ·by_cases hj:j=k
  ·subst hj; right
   rw [bm,if_pos rfl,hobk]
   exact hrep _ _
  ·left
   have hnj:∀ g∈blocks (ob j),w'.heap[g]?=w.heap[g]?:=fun g hg=>jQ g (hC.low j g hg).2 fun h=>hj (hC.dist j k g hg h)
   rw [bm,if_neg (b9 hj),hob j hj]
   refine ⟨rfl,rfl,rfl,hnj,fun u hu=>?_⟩
   by_cases huk:u=k
   ·subst huk
    have:=(bL.leads hu (hC.rep j)).1
    rw [homek] at this; exact absurd this (by simp)
   ·refine fp.same (P:=P) (by rw [bm,if_neg (b9 huk)]) rfl (hC.rep u) (fun g hg=>jQ g (hC.low u g hg).2 fun h=>huk (hC.dist u k g hg h))
 ·have cr:∀ j b,j≠k→b∈blocks (ob j)→b∉blocks ob1:=by
   intro j b hj hb h1
   rcases (hout.new b h1).2 with h | h
   ·exact hj (hC.dist j k b hb h)
   ·have:=(hC.low j b hb).2; omega
  intro j j' b hb hb'
  by_cases h1:j=k
  ·by_cases h2:j'=k
   ·rw [h1,h2]
   ·rw [h1,hobk] at hb; rw [hob j' h2] at hb'; exact absurd hb (cr j' b h2 hb')
  ·by_cases h2:j'=k
   ·rw [h2,hobk] at hb'; rw [hob j h1] at hb; exact absurd hb' (cr j b h1 hb)
   ·rw [hob j h1] at hb; rw [hob j' h2] at hb'; exact hC.dist j j' b hb hb'
 ·intro j
  by_cases hj:j=k
  ·rw [hj,hobk]; exact hout.nodup
  ·rw [hob j hj]; exact hC.nodup j
 ·intro j b hb
  by_cases hj:j=k
  ·rw [hj,hobk] at hb; exact hlow1 b hb
  ·rw [hob j hj] at hb; exact ⟨(hC.low j b hb).1,eK (hC.low j b hb).2 hout.size⟩
theorem aBw {t e:TypeId} (hC:ar P B G0 W0 n env a.tmps w ob) (hK:bU P B G0 W0 n a K r next) (hd:∀ k,o.dst=some k→bH W0 n k) (hdst:i.dst=o.dst)
  (ho:o.op=.alloc t) (hi:i.op=.CZ t e) (hz:HY P t=true) (h:step cl i env K=some r):o.wp P a w next Q:=by
 unfold step at h; rw [hi] at h; simp only [hdst] at h
 obtain ⟨it,h1,h2⟩:=aAM hz
 have hcells:(Value.agg #[.pointer none,.slice none 0 0]).cells=#[.pointer none,.slice none 0 0]:=rfl
 refine bK (v:=.pointer (some ⟨w.heap.size,0,none⟩)) (w':=w.alloc (.cells #[.pointer none,.slice none 0 0] t)) ?_ ?_
 ·simp [execOp,ho,Instr.alloc,zeroValue,typeInfo,h1,h2,newVar,newRow,hcells]
 ·have hg:aY w (w.alloc (.cells #[.pointer none,.slice none 0 0] t)):=aY.alloc w _
  cases hod:o.dst with
  | none=>rw [hod] at h; exact bN (d:=none) (e:=.dead) hC hK (fun k hk=>by cases hk) hg (v:=undef) rfl h
  | some k=>
    rw [hod] at h
    have h2:=ar.oB (e:=.sb t e []) (v:=.pointer (some ⟨w.heap.size,0,none⟩)) (bk:=[(w.heap.size,0)]) hC (hd k hod) hg ?_ (by simp) (by simp)
    ·exact hK _ _ _ _ h2 h
    ·rw [if_neg (by simp [leads])]
     exact ⟨⟨w.heap.size,.pointer none,.slice none 0 0,rfl,hC.base,heap_alloc_new w _,.inl rfl,World.ownsRow_nil _ _ _ _,by simp [Value.ownBlock],rfl⟩,by simp⟩
theorem aBy {f:FuncId} {us:Array Operand} {ats:Array TypeId} {k:Nat} {x:Operand} {y:Od} (hgood:Good P W0.t cl) (hC:ar P B G0 W0 n env a.tmps w ob) (hK:bU P B G0 W0 n a K r next) (hd:∀ k,o.dst=some k→bH W0 n k) (hdst:i.dst=o.dst)
  (ho:o.op=.call {callee:=.value (.func f),args:=us,argTypes:=ats}) (hi:i.op=.hQ f k y) (hus:us.toList=[.tmp k,x]) (hx:aK x y=true) (h:step cl i env K=some r):o.wp P a w next Q:=by
 unfold step at h; rw [hi] at h; simp only [hdst] at h
 have hr:=hC.rep k
 split at h
 case h_2=>simp at h
 rename_i t e s hk
 rw [hk] at hr
 split at h
 case h_2=>simp at h
 rename_i hap
 simp only [aH.eqn,av] at h
 obtain ⟨u,hu,res,hres,s',hs',h⟩:=h
 obtain ⟨hv,_⟩:=vu hC hx hu
 obtain ⟨rfl,hlen,hcal,hL⟩:=hgood.hQ f t e s u res hres
 simp only [sb?,az] at hs'
 subst hs'
 have hev:us.map a.eval=#[a.tmps.getD k undef,.string ⟨⟨u⟩⟩]:=by
  apply lF.1
  simp only [Dh,hus,fG,List.map_nil,hv]
  rfl
 have hrun:(execOp a.eval o).run P w=.ok (.enter f (us.map a.eval)) w:=by
  have:=sR hcal (us.map a.eval) w
  simp [execOp,ho,resolve,Deferred.ofValue,invoke,Act.eval,this]
 rw [hev] at hrun
 refine nu hrun (Calls.mono (hL w B (a.tmps.getD k undef) (ob k) hC.base hr.1) ?_)
 rintro en w' ⟨rv,ob',rfl,h1,h2⟩
 refine ⟨rv,rfl,?_⟩
 have hC1:=ar.ahy hC hk (e':=.sb t e (s++u)) h2 (fun _ _=>⟨h1,by simpa using hlen⟩)
 exact bN (e:=.dead) hC1 hK hd (aY.refl _) (v:=rv) rfl h
theorem aBx {f:FuncId} {us:Array Operand} {ats:Array TypeId} {k:Nat} (hgood:Good P W0.t cl) (hC:ar P B G0 W0 n env a.tmps w ob) (hK:bU P B G0 W0 n a K r next) (hd:∀ k,o.dst=some k→bH W0 n k) (hdst:i.dst=o.dst)
  (ho:o.op=.call {callee:=.value (.func f),args:=us,argTypes:=ats}) (hi:i.op=.lX f k) (hus:us.toList=[.tmp k]) (h:step cl i env K=some r):o.wp P a w next Q:=by
 unfold step at h; rw [hi] at h; simp only [hdst] at h
 have hr:=hC.rep k
 split at h
 case h_2=>simp at h
 rename_i t e s hk
 rw [hk] at hr
 split at h
 case h_2=>simp at h
 rename_i hap
 simp only [aH.eqn,av] at h
 obtain ⟨res,hres,u,hu,h⟩:=h
 obtain ⟨rfl,hcal,hL⟩:=hgood.lX f t e s res hres
 simp only [ahQ,az] at hu
 subst hu
 have hev:us.map a.eval=#[a.tmps.getD k undef]:=by
  apply lF.1
  simp only [Dh,hus,fG,List.map_nil]
  rfl
 have hrun:(execOp a.eval o).run P w=.ok (.enter f (us.map a.eval)) w:=by
  have:=sR hcal (us.map a.eval) w
  simp [execOp,ho,resolve,Deferred.ofValue,invoke,Act.eval,this]
 rw [hev] at hrun
 refine nu hrun (Calls.mono (hL w B (a.tmps.getD k undef) (ob k) hC.base hr.1) ?_)
 rintro en w' ⟨rfl,h2⟩
 refine ⟨_,rfl,?_⟩
 have hC1:=ar.ahy hC hk (e':=.dead) h2 (fun _ _=>rfl)
 refine bN (e:=.v .str s) hC1 hK hd (aY.refl _) (v:=.string ⟨⟨s⟩⟩) ⟨rfl,[.string ⟨⟨s⟩⟩],?_,rfl⟩ h
 unfold Flat
 exact ⟨rfl,by have:=hr.2; unfold maxLen; omega,rfl⟩
end
end Go.Fw
/- Soundness: slices that are made. -/
namespace Go.Fw
open Go Go.RowKit
theorem ahj (zs:List Value):∀ (l j:Nat),(qt l zs)[j]?=if j < l * zs.length then zs[j % zs.length]? else none
 | 0,j=>by simp [qt]
 | l+1,j=>by
   simp only [qt]
   by_cases hj:j < zs.length
   ·rw [List.getElem?_append_left hj,if_pos (by rw [ma]; omega),Nat.mod_eq_of_lt hj]
   ·rw [List.getElem?_append_right (by omega),ahj zs l]
    have hm:(j - zs.length) % zs.length=j % zs.length:=by
     conv=>rhs; rw [←Nat.sub_add_cancel (Nat.le_of_not_lt hj)]
     simp
    rw [hm]
    by_cases h2:j < (l+1) * zs.length
    ·rw [if_pos h2,if_pos (by rw [ma] at h2; omega)]
    ·rw [if_neg h2,if_neg (by rw [ma] at h2; omega)]
theorem awL (zs:List Value) (l c:Nat) (h:l≤c):(madeCells zs.toArray (c * zs.length)).toList.take (l * zs.length)=qt l zs:=by
 have hle:l * zs.length≤c * zs.length:=IQ _ h
 apply List.ext_getElem?
 intro j
 rw [ahj]
 by_cases hj:j < l * zs.length
 ·rw [if_pos hj,List.getElem?_take_of_lt hj]
  have hc:j < c * zs.length:=eK hj hle
  have hz:0 < zs.length:=by
   rcases Nat.eq_zero_or_pos zs.length with h0 | h0
   ·rw [h0] at hj; simp at hj
   ·exact h0
  have hm:j % zs.length < zs.length:=Nat.mod_lt _ hz
  simp only [madeCells,Dh,Array.toList_range,oF,List.getElem?_range hc,vM,List.size_toArray]
  rw [fr hm]
  simp [hm]
 ·rw [if_neg hj,List.getElem?_take_eq_none (by omega)]
section
variable {P:Program} {B:Nat} {G0:Nat→Nat→Prop} {W0:dF} {n:Nat} {env:Env} {a:Act} {w:World} {ob:Nat→OB}
variable {R:Type} {K:dn R} {r:R} {next:Act→World→Prop} {Q:Exit→Act→World→Prop} {o:Oper} {i:AI} {cl:aH}
theorem ahi {T:Ty} {x:den T} {zs:List Value} {G:Nat→Nat→Prop} (h:Flat P T w G B .no x zs []):∀ l,aU (Flat P T w G B .no) (jE l x) (qt l zs) []
 | 0=>⟨rfl,rfl⟩
 | l+1=>⟨zs,qt l zs,[],[],rfl,rfl,h,ahi h l⟩
theorem awN {t e:TypeId} {T:Ty} {lim:Nat} {x y:Operand} {it:TypeInfo} {l c:Int} (hC:ar P B G0 W0 n env a.tmps w ob) (hK:bU P B G0 W0 n a K r next) (hd:∀ k,o.dst=some k→bH W0 n k)
  (ho:o.op=.makeSlice t x y) (hu:P.underlying t=some (.slice e)) (hT:bW P e T) (hz:qJ P e T) (h1:a.eval x=.int .i64 l) (h2:a.eval y=.int .i64 c) (hinfo:P.info? e=some it)
  (hb:lim * it.bytes≤140737488355328) (hm:lim≤maxLen) (hb2:0≤l∧l≤c∧c≤(lim:Int)) (h:K (aX env o.dst (.own true e T .no (jE l.toNat (zero T))))=some r):o.wp P a w next Q:=by
 obtain ⟨it',z,zs,k1,k2,k3,k4⟩:=hz.ok
 rw [hinfo] at k1; cases k1
 obtain ⟨it2,g1,g2⟩:=hT.size
 rw [hinfo] at g1; cases g1
 have hzl:=Eu k3
 have hzc:z.cells=zs.toArray:=by rw [k4]; exact nD hzl (Ev k3)
 have hbm:(it.bytes:Int) * c≤281474976710656:=by
  have e1:c=(c.toNat:Int):=by omega
  have e2:c.toNat≤lim:=by omega
  have e3:c.toNat * it.bytes≤140737488355328:=gv (IQ _ e2) hb
  rw [e1,←Int.natCast_mul,Nat.mul_comm]
  omega
 have hmx:c≤9223372036854775807:=by
  have:(lim:Int)≤(maxLen:Int):=by omega
  simp [maxLen] at this; omega
 have hrun:=run_make (P:=P) w t e it z hu hinfo k2 .i64 .i64 l c hb2.1 hb2.2.1 hbm hmx
 refine bK (v:=.slice (some ⟨w.heap.size,0,none⟩) l.toNat c.toNat) (w':=w.alloc (.cells (madeCells z.cells (c.toNat * it.size)) e)) ?_ ?_
 ·simp only [execOp,ho,h1,h2,Sem.run_bind,hrun,Result.andThen_ok,Sem.run_pure]
 ·have hF:Flat P T w (Gd B G0 ob) B .no (zero T) zs []:=iu P T w _ B .no (iu.annOk_no T) k3
  have hlr:(jE l.toNat (zero T)).length=l.toNat:=List.length_replicate
  have:=ag5 (e:=e) (T:=T) (xs:=jE l.toNat (zero T)) (css:=qt l.toNat zs) (cur:=madeCells z.cells (c.toNat * it.size)) (cap:=c.toNat) hC hK hd (ahi hF _) (by
   rw [hlr,hzc,g2,←hzl]; exact awL zs _ _ (by omega)) (by rw [size_madeCells,g2]) (by rw [hlr]; omega) (by omega) h
  rw [hlr] at this
  exact this
theorem aBp {t e:TypeId} {T:Ty} {lim:Nat} {x y:Operand} {x' y':Od} {it:TypeInfo} (hC:ar P B G0 W0 n env a.tmps w ob) (hK:bU P B G0 W0 n a K r next) (hd:∀ k,o.dst=some k→bH W0 n k) (hdst:i.dst=o.dst)
  (ho:o.op=.makeSlice t x y) (hi:i.op=.mkSlice e T lim x' y') (hu:P.underlying t=some (.slice e)) (hT:bW P e T) (hz:qJ P e T) (hx:aK x x'=true) (hy:aK y y'=true) (hinfo:P.info? e=some it)
  (hb:lim * it.bytes≤140737488355328) (hm:lim≤maxLen) (h:step cl i env K=some r):o.wp P a w next Q:=by
 unfold step at h; rw [hi] at h; simp only [hdst] at h
 split at h
 case h_2=>simp at h
 rename_i l c hl hc
 split at h
 case isFalse=>simp at h
 rename_i hb2
 exact awN hC hK hd ho hu hT hz (mY hC hx hl).1 (mY hC hy hc).1 hinfo hb hm hb2 h
end
end Go.Fw
/- Soundness, part 21: a region's operations, checked against the program's. -/
namespace Go.Fw
open Go Go.RowKit
def eJ (P:Program) (t:TypeId) (T:Ty):Bool:=dE P 64 t T
theorem eR {P:Program} {t:TypeId} {T:Ty} (h:eJ P t T=true):bW P t T:=⟨⟨64,h⟩⟩
def sX (P:Program) (t:TypeId) (T:Ty):Bool:=
 match P.info? t with
 | some i=>match i.zero with
   | some z=>match gU T (zero T) with
     | some vs=>Hb T vs z
     | none=>false
   | none=>false
 | none=>false
theorem Dd {P:Program} {t:TypeId} {T:Ty} (h:sX P t T=true):qJ P t T:=by
 unfold sX at h
 split at h
 ·rename_i i hi
  split at h
  ·rename_i z hz
   split at h
   ·rename_i vs hv
    exact ⟨⟨i,z,vs,hi,hz,hv,aek h⟩⟩
   ·simp at h
  ·simp at h
 ·simp at h
def vq (P:Program) (t e:TypeId):Bool:=match P.underlying t with | some (.slice e')=>e'==e | _=>false
theorem H7 {P:Program} {t e:TypeId} (h:vq P t e=true):P.underlying t=some (.slice e):=by
 unfold vq at h
 split at h
 ·rename_i e' he; rw [beq_iff_eq] at h; rw [he,h]
 ·simp at h
def elemOf (P:Program) (t:TypeId):Option TypeId:=match P.underlying t with | some (.slice e)=>some e | _=>none
theorem wv {P:Program} {t e:TypeId} (h:elemOf P t=some e):P.underlying t=some (.slice e):=by
 unfold elemOf at h
 split at h
 ·rename_i e' he; cases h; exact he
 ·simp at h
def th (P:Program) (t:TypeId):Option (Nat×TypeId):=match P.underlying t with | some (.array m e)=>some (m,e) | _=>none
theorem Dx {P:Program} {t:TypeId} {q:Nat×TypeId} (h:th P t=some q):P.underlying t=some (.array q.1 q.2):=by
 unfold th at h
 split at h
 ·rename_i m e he; cases h; exact he
 ·simp at h
def tT (P:Program) (t:TypeId):Option (Array Field):=match P.underlying t with | some (.struct fs)=>some fs | _=>none
theorem Hc {P:Program} {t:TypeId} {fs:Array Field} (h:tT P t=some fs):P.underlying t=some (.struct fs):=by
 unfold tT at h
 split at h
 ·rename_i m he; cases h; exact he
 ·simp at h
def ag0 (P:Program) (o:Oper) (i:AI):Bool:=
 match i.op with
 | .mv y=>(match o.op with | .move x=>aK x y | _=>false)
 | .ab y=>(match o.op with | .assign x=>aK x y | _=>false)
 | .pick c' x' y'=>(match o.op with | .pick c x y=>aK c c'&&aK x x'&&aK y y' | _=>false)
 | .alloc T oa=>(match o.op with | .alloc t=>sX P t T&&jc T oa | _=>false)
 | .box _ y=>(match o.op with | .box _ x=>aK x y | _=>false)
 | .build T ys=>(match o.op with
   | .build t us=>sX P t T&&fk T&&eJ P t T&&(match tT P t with
     | some fs=>(match fs.toList.mapM (fun f=>(P.info? f.type).map fun i=>(f.offset,i.size)) with
       | some places=>ig T (places.toArray[·]?) us.toList ys
       | none=>false)
     | none=>(match th P t with
       | some q=>(match T with
         | .arr _ T'=>eJ P q.2 T'&&ig T (fun i=>some (i * aA T',aA T')) us.toList ys
         | _=>false)
       | none=>false))
   | _=>false)
 | .j6 T oa ys=>(match o.op with
   | .build t us=>sX P t T&&fk T&&eJ P t T&&jc T oa&&(match tT P t with
     | some fs=>(match fs.toList.mapM (fun f=>(P.info? f.type).map fun i=>(f.offset,i.size)) with
       | some places=>ig T (places.toArray[·]?) us.toList ys
       | none=>false)
     | none=>false)
   | _=>false)
 | .buildSlice e T ys=>(match o.op with
   | .buildSlice t m us=>vq P t e&&eJ P e T&&sX P e T&&us.size==m&&vf us.toList 0&&eO (us.toList.map (·.2)) ys&&decide (m * aA T≤2 ^ 24)&&decide (m≤2 ^ 24)
   | _=>false)
 | .load T y=>(match o.op with | .load t x=>eJ P t T&&aK x y | _=>false)
 | .store T y yv=>(match o.op with | .store t x xv=>eJ P t T&&aK x y&&aK xv yv&&o.dst.isNone | _=>false)
 | .bin op' x' y'=>(match o.op with | .binOp op _ x y _=>decide (op=op')&&aK x x'&&aK y y' | _=>false)
 | .un op' x'=>(match o.op with | .unOp op _ x=>decide (op=op')&&aK x x' | _=>false)
 | .shift l x' y'=>(match o.op with | .binOp op _ x y _=>decide (op=if l then .shl else .shr)&&aK x x'&&aK y y' | _=>false)
 | .qP k x'=>(match o.op with | .convert s d x=>aK x x'&&eJ P d (.int k)&&(match P.underlying s with | some (.int ks)=>eJ P s (.int ks) | _=>false) | _=>false)
 | .fieldAddr S p y=>(match o.op with
   | .fieldAddr t x f=>eJ P t S&&aK x y&&decide (p=eV f)&&(match tT P t with | some fs=>(fs[f]?).isSome | none=>false)&&(match dw S (eV f) with | some A=>!(aA A==0) | none=>false)
   | _=>false)
 | .field S p y=>(match o.op with
   | .field t x f=>eJ P t S&&aK x y&&decide (p=eV f)&&(match tT P t with | some fs=>(fs[f]?).isSome | none=>false)&&dv S
   | _=>false)
 | .indexAddr T y iy=>(match o.op with | .indexAddr t x ix=>aK x y&&aK ix iy&&(match elemOf P t with | some e=>eJ P e T | none=>false) | _=>false)
 | .CE m T y iy=>(match o.op with | .indexAddr t x ix=>aK x y&&aK ix iy&&(match th P t with | some q=>q.1==m&&eJ P q.2 T | none=>false) | _=>false)
 | .du y iy=>(match o.op with | .index t x ix=>aK x y&&aK ix iy&&eJ P t .str | _=>false)
 | .CD m T y iy=>(match o.op with | .index t x ix=>aK x y&&aK ix iy&&(match th P t with | some q=>q.1==m&&eJ P q.2 T | none=>false) | _=>false)
 | .gF y lo' hi'=>(match o.op with | .slice t x lo hi none=>eJ P t .str&&aK x y&&jP lo lo'&&jP hi hi' | _=>false)
 | .lY T y lo' hi' mx'=>(match o.op with | .slice t x lo hi mx=>aK x y&&jP lo lo'&&jP hi hi'&&jP mx mx'&&(!mx.isSome || hi.isSome)&&(match elemOf P t with | some e=>eJ P e T | none=>false) | _=>false)
 | .mkSlice e T lim x' y'=>(match o.op with
   | .makeSlice t x y=>vq P t e&&eJ P e T&&sX P e T&&aK x x'&&aK y y'&&(match P.info? e with | some it=>decide (lim * it.bytes≤140737488355328)&&decide (lim≤maxLen) | none=>false)
   | _=>false)
 | .cd y=>(match o.op with | .call {callee:=.builtin .len,args:=us,argTypes:=ts}=>(match us.toList,ts.toList with | [x],[t]=>eJ P t .str&&aK x y | _,_=>false) | _=>false)
 | .b4 y=>(match o.op with | .call {callee:=.builtin .len,args:=us,argTypes:=ts}=>(match us.toList,ts.toList with | [x],[t]=>(elemOf P t).isSome&&aK x y | _,_=>false) | _=>false)
 | .CM m=>(match o.op with | .call {callee:=.builtin .len,args:=us,argTypes:=ts}=>(match us.toList,ts.toList with | [_],[t]=>(match th P t with | some q=>q.1==m | none=>false)&&decide (m≤maxLen) | _,_=>false) | _=>false)
 | .mm true x' y'=>(match o.op with | .call {callee:=.builtin .max,args:=us,argTypes:=_}=>(match us.toList with | [x,y]=>aK x x'&&aK y y' | _=>false) | _=>false)
 | .mm false x' y'=>(match o.op with | .call {callee:=.builtin .min,args:=us,argTypes:=_}=>(match us.toList with | [x,y]=>aK x x'&&aK y y' | _=>false) | _=>false)
 | .append e T lim sy y=>(match o.op with
   | .call {callee:=.builtin .append,args:=us,argTypes:=ts}=>(match us.toList,ts.toList with
     | [s,x],[t,t']=>t==t'&&vq P t e&&eJ P e T&&aK x y&&aK s sy&&(match P.info? e with
       | some it=>(match it.zero with | some z=>z.cells.size==aA T | none=>false)&&decide (lim * it.bytes≤140737488355328)&&decide (lim≤maxLen)&&decide (e≠ny)
       | none=>false)
     | _,_=>false)
   | _=>false)
 | .call f ys=>(match o.op with | .call {callee:=.value (.func g),args:=us,argTypes:=_}=>g==f&&eO us.toList ys | _=>false)
 | .tl y ys=>(match o.op with | .call {callee:=.value x,args:=us,argTypes:=_}=>aK x y&&eO us.toList ys | _=>false)
 | .extract k j=>(match o.op with | .extract (.tmp k') j'=>k==k'&&j==j'&&(match o.dst with | some d=>!(d==k) | none=>false) | _=>false)
 | .CN f _ _ ys=>(match o.op with | .makeFunc (.func g) first us=>g==f&&first.size==0&&eO us.toList ys | _=>false)
 | .Sb y=>(match o.op with | .range t x=>eJ P t .str&&aK x y | _=>false)
 | .bad=>true
 | .vw y=>(match o.op with | .convert s d x=>aK x y&&eJ P s .str&&(match elemOf P d with | some e=>eJ P e (.int .u8) | none=>false) | _=>false)
 | .toStr y=>(match o.op with | .convert s d x=>aK x y&&eJ P d .str&&(match elemOf P s with | some e=>eJ P e (.int .u8) | none=>false) | _=>false)
 | .dP y=>(match o.op with | .nilCheck x=>aK x y | _=>false)
 | .HO k=>(match o.op with | .next (.tmp k') true=>k==k' | _=>false)
 | .rL neg .bool x' y'=>(match o.op with | .binOp op t x y _=>decide (op=if neg then .neq else .eql)&&I2 P t&&aK x x'&&aK y y' | _=>false)
 | .rL neg T x' y'=>(match o.op with | .binOp op t x y _=>decide (op=if neg then .neq else .eql)&&eqStr P t T&&aK x x'&&aK y y' | _=>false)
 | .N1 f ys=>(match o.op with | .call {callee:=.value (.func g),args:=us,argTypes:=_}=>(match us.toList with | .const v::us'=>tQ v (.slice none 0 0)&&g==f&&eO us' ys | _=>false) | _=>false)
 | .vU f ys=>(match o.op with | .call {callee:=.value (.func g),args:=us,argTypes:=_}=>g==f&&eO us.toList ys | _=>false)
 | .cp y=>(match o.op with | .move x=>aK x y | .assign x=>aK x y | _=>false)
 | .Sl f y=>(match o.op with | .call {callee:=.value (.func g),args:=us,argTypes:=_}=>(match us.toList with | [x]=>g==f&&aK x y | _=>false) | _=>false)
 | .CZ t _=>(match o.op with | .alloc t'=>t==t'&&HY P t | _=>false)
 | .hQ f k y=>(match o.op with | .call {callee:=.value (.func g),args:=us,argTypes:=_}=>(match us.toList with | [.tmp k',x]=>g==f&&k==k'&&aK x y | _=>false) | _=>false)
 | .lX f k=>(match o.op with | .call {callee:=.value (.func g),args:=us,argTypes:=_}=>(match us.toList with | [.tmp k']=>g==f&&k==k' | _=>false) | _=>false)
 | .hN f y ys=>(match o.op with | .call {callee:=.value (.func g),args:=us,argTypes:=_}=>(match us.toList with | u::us'=>g==f&&aK u y&&eO us' ys | _=>false) | _=>false)
def lT (P:Program) (n:Nat) (o:Oper) (i:AI):Bool:=decide (i.dst=o.dst)&&(match o.dst with | some d=>decide (d < n) | none=>true)&&ag0 P o i
theorem tg {α:Type} {us:Array α} {x:α} (h:us.toList=[x]):us=#[x]:=lF.1 (by simpa using h)
theorem vR {α:Type} {us:Array α} {x y:α} (h:us.toList=[x,y]):us=#[x,y]:=lF.1 (by simpa using h)
section
variable {P:Program} {B:Nat} {G0:Nat→Nat→Prop} {W0:dF} {n:Nat} {env:Env} {tm:Array Value} {a:Act} {w:World} {ob:Nat→OB} {cl:aH}
variable {R:Type} {K:dn R} {r:R} {next:Act→World→Prop} {Q:Exit→Act→World→Prop} {o:Oper} {i:AI}
theorem H9 (hgood:Good P W0.t cl) (hC:ar P B G0 W0 n env a.tmps w ob) (hK:bU P B G0 W0 n a K r next) (hok:lT P n o i=true) (hz:W0.pin=none∨i.dst≠some 0) (h:step cl i env K=some r):o.wp P a w next Q:=by
 simp only [lT,aB,decide_eq_true_eq] at hok
 obtain ⟨⟨hdst,hdn⟩,hop⟩:=hok
 have hd:∀ k,o.dst=some k→bH W0 n k:=by
  intro k hk; rw [hk] at hdn; exact ⟨by simpa using hdn,hz.imp id fun h e=>h (by rw [hdst,hk,e])⟩
 unfold ag0 at hop
 split at hop
 case h_1 y hi=>split at hop; · rename_i x ho; exact aBr hC hK hd hdst ho hi hop h
                ·simp at hop
 case h_2 y hi=>split at hop; · rename_i x ho; exact aA1 hC hK hd hdst ho hi hop h
                ·simp at hop
 case h_3 c' x' y' hi=>
  split at hop
  ·rename_i c x y ho; simp only [aB] at hop; exact aBu hC hK hd hdst ho hi hop.1.1 hop.1.2 hop.2 h
  ·simp at hop
 case h_4 T oa hi=>
  split at hop
  ·rename_i t ho; simp only [aB] at hop; exact aAZ hC hK hd hdst ho hi (Dd hop.1) hop.2 h
  ·simp at hop
 case h_5 T y hi=>
  split at hop
  ·rename_i t x ho; exact aA3 hC hK hd hdst ho hi hop h
  ·simp at hop
 case h_6 T ys hi=>
  split at hop
  ·rename_i t us ho
   simp only [aB] at hop
   refine aA4 hC hK hd hdst ho hi (Dd hop.1.1.1) hop.1.1.2 (eR hop.1.2) ?_ h
   have h2:=hop.2
   split at h2
   ·rename_i fs hfs
    split at h2
    ·rename_i places hp; exact .inl ⟨fs,places,Hc hfs,hp,h2⟩
    ·simp at h2
   ·split at h2
    ·rename_i q hq
     split at h2
     ·rename_i m' T'
      simp only [aB] at h2
      exact .inr ⟨q.1,q.2,T',Dx hq,eR h2.1,h2.2⟩
     ·simp at h2
    ·simp at h2
  ·simp at hop
 case h_7 T oa ys hi=>
  split at hop
  ·rename_i t us ho
   simp only [aB] at hop
   refine aA5 hC hK hd hdst ho hi hop.1.2 (Dd hop.1.1.1.1) hop.1.1.1.2 (eR hop.1.1.2) ?_ h
   have h2:=hop.2
   split at h2
   ·rename_i fs hfs
    split at h2
    ·rename_i places hp; exact .inl ⟨fs,places,Hc hfs,hp,h2⟩
    ·simp at h2
   ·simp at h2
  ·simp at hop
 case h_8 e T ys hi=>
  split at hop
  ·rename_i t m us ho
   simp only [aB,decide_eq_true_eq,beq_iff_eq] at hop
   obtain ⟨⟨⟨⟨⟨⟨⟨h1,h2⟩,h3⟩,h4⟩,h5⟩,h6⟩,h7⟩,h8⟩:=hop
   exact aA6 hC hK hd hdst ho hi (H7 h1) (eR h2) (Dd h3) h4 h5 h6 h7 h8 h
  ·simp at hop
 case h_9 T y hi=>
  split at hop
  ·rename_i t x ho; simp only [aB] at hop; exact aBo hC hK hd hdst ho hi (eR hop.1) hop.2 h
  ·simp at hop
 case h_10 T y yv hi=>
  split at hop
  ·rename_i t x xv ho; simp only [aB,Option.isNone_iff_eq_none] at hop; exact aBC hC hK hop.2 ho hi (eR hop.1.1.1) hop.1.1.2 hop.1.2 h
  ·simp at hop
 case h_11 op' x' y' hi=>
  split at hop
  ·rename_i op xt x y yt ho; simp only [aB,decide_eq_true_eq] at hop
   obtain ⟨⟨rfl,h1⟩,h2⟩:=hop
   exact aA2 hC hK hd hdst ho hi h1 h2 h
  ·simp at hop
 case h_12 op' x' hi=>
  split at hop
  ·rename_i op xt x ho; simp only [aB,decide_eq_true_eq] at hop
   obtain ⟨rfl,h1⟩:=hop
   exact aBF hC hK hd hdst ho hi h1 h
  ·simp at hop
 case h_13 l x' y' hi=>
  split at hop
  ·rename_i op xt x y yt ho; simp only [aB,decide_eq_true_eq] at hop
   obtain ⟨⟨rfl,h1⟩,h2⟩:=hop
   exact aBz hC hK hd hdst ho hi h1 h2 h
  ·simp at hop
 case h_14 k x' hi=>
  split at hop
  ·rename_i s d x ho; simp only [aB] at hop
   obtain ⟨⟨h1,h2⟩,h3⟩:=hop
   split at h3
   ·exact aBa hC hK hd hdst ho hi h1 (eR h3) (eR h2) h
   ·simp at h3
  ·simp at hop
 case h_15 S p y hi=>
  split at hop
  ·rename_i t x f ho; simp only [aB,decide_eq_true_eq] at hop
   obtain ⟨⟨⟨⟨h1,h2⟩,rfl⟩,h4⟩,h5⟩:=hop
   split at h4
   ·rename_i fs hfs
    obtain ⟨fd,hfd⟩:=IU.1 h4
    split at h5
    ·rename_i A hA
     exact aBf hC hK hd hdst ho hi (eR h1) (Hc hfs) hfd hA (by simpa using h5) h2 h
    ·simp at h5
   ·simp at h4
  ·simp at hop
 case h_16 S p y hi=>
  split at hop
  ·rename_i t x f ho; simp only [aB,decide_eq_true_eq] at hop
   obtain ⟨⟨⟨⟨h1,h2⟩,rfl⟩,h4⟩,h5⟩:=hop
   split at h4
   ·rename_i fs hfs
    obtain ⟨fd,hfd⟩:=IU.1 h4
    exact aBe (A:=.bool) hC hK hd hdst ho hi (eR h1) (Hc hfs) hfd h5 h2 h
   ·simp at h4
  ·simp at hop
 case h_17 T y iy hi=>
  split at hop
  ·rename_i t x ix ho; simp only [aB] at hop
   obtain ⟨⟨h1,h2⟩,h3⟩:=hop
   split at h3
   ·rename_i e he; exact aBh hC hK hd hdst ho hi (wv he) (eR h3) h1 h2 h
   ·simp at h3
  ·simp at hop
 case h_18 m T y iy hi=>
  split at hop
  ·rename_i t x ix ho; simp only [aB] at hop
   obtain ⟨⟨h1,h2⟩,h3⟩:=hop
   split at h3
   ·rename_i q hq
    simp only [aB,beq_iff_eq] at h3
    obtain ⟨rfl,h4⟩:=h3
    exact aBi hC hK hd hdst ho hi (Dx hq) (eR h4) h1 h2 h
   ·simp at h3
  ·simp at hop
 case h_19 y iy hi=>
  split at hop
  ·rename_i t x ix ho; simp only [aB] at hop
   exact aBj hC hK hd hdst ho hi (eR hop.2) hop.1.1 hop.1.2 h
  ·simp at hop
 case h_20 m T y iy hi=>
  split at hop
  ·rename_i t x ix ho; simp only [aB] at hop
   obtain ⟨⟨h1,h2⟩,h3⟩:=hop
   split at h3
   ·rename_i q hq
    simp only [aB,beq_iff_eq] at h3
    obtain ⟨rfl,h4⟩:=h3
    exact aBg hC hK hd hdst ho hi (Dx hq) (eR h4) h1 h2 h
   ·simp at h3
  ·simp at hop
 case h_21 y lo' hi' hi=>
  split at hop
  ·rename_i t x lo hh ho; simp only [aB] at hop
   exact aBB hC hK hd hdst ho hi (eR hop.1.1.1) hop.1.1.2 hop.1.2 hop.2 h
  ·simp at hop
 case h_22 T y lo' hi' mx' hi=>
  split at hop
  ·rename_i t x lo hh mx ho; simp only [aB,Su,dX] at hop
   obtain ⟨⟨⟨⟨⟨h1,h2⟩,h3⟩,h4⟩,h5⟩,h6⟩:=hop
   split at h6
   ·rename_i e he
    exact aBA hC hK hd hdst ho hi (wv he) (eR h6) h1 h2 h3 h4 (fun hm=>h5.resolve_left (by rw [hm]; simp)) h
   ·simp at h6
  ·simp at hop
 case h_23 e T lim x' y' hi=>
  split at hop
  ·rename_i t x y ho
   simp only [aB] at hop
   obtain ⟨⟨⟨⟨⟨h1,h2⟩,h3⟩,h4⟩,h5⟩,h6⟩:=hop
   split at h6
   ·rename_i it hit
    simp only [aB,decide_eq_true_eq] at h6
    exact aBp hC hK hd hdst ho hi (H7 h1) (eR h2) (Dd h3) h4 h5 hit h6.1 h6.2 h
   ·simp at h6
  ·simp at hop
 case h_24 y hi=>
  split at hop
  ·rename_i us ts ho
   split at hop
   ·rename_i x t hu ht
    simp only [aB] at hop
    rw [tg hu,tg ht] at ho
    exact aBm hC hK hd hdst ho hi (eR hop.1) hop.2 h
   ·simp at hop
  ·simp at hop
 case h_25 y hi=>
  split at hop
  ·rename_i us ts ho
   split at hop
   ·rename_i x t hu ht
    simp only [aB] at hop
    rw [tg hu,tg ht] at ho
    obtain ⟨e,he⟩:=IU.1 hop.1
    exact aBl hC hK hd hdst ho hi (wv he) hop.2 h
   ·simp at hop
  ·simp at hop
 case h_26 m hi=>
  split at hop
  ·rename_i us ts ho
   split at hop
   ·rename_i x t hu ht
    simp only [aB,decide_eq_true_eq] at hop
    rw [tg hu,tg ht] at ho
    obtain ⟨h1,h2⟩:=hop
    split at h1
    ·rename_i q hq
     rw [beq_iff_eq] at h1
     have:=Dx hq
     rw [h1] at this
     exact aBk hC hK hd hdst ho hi this h2 h
    ·simp at h1
   ·simp at hop
  ·simp at hop
 case h_27 x' y' hi=>
  split at hop
  ·rename_i us ts ho
   split at hop
   ·rename_i x y hu
    simp only [aB] at hop
    rw [vR hu] at ho
    exact ahM (mx:=true) hC hK hd hdst ho hi hop.1 hop.2 h
   ·simp at hop
  ·simp at hop
 case h_28 x' y' hi=>
  split at hop
  ·rename_i us ts ho
   split at hop
   ·rename_i x y hu
    simp only [aB] at hop
    rw [vR hu] at ho
    exact ahM (mx:=false) hC hK hd hdst ho hi hop.1 hop.2 h
   ·simp at hop
  ·simp at hop
 case h_29 e T lim sy y hi=>
  split at hop
  ·rename_i us ts ho
   split at hop
   ·rename_i s x t t' hu ht
    simp only [aB,beq_iff_eq] at hop
    obtain ⟨⟨⟨⟨⟨rfl,h2⟩,h3⟩,h4⟩,h5⟩,h6⟩:=hop
    rw [vR hu,vR ht] at ho
    split at h6
    ·rename_i it hit
     simp only [aB,decide_eq_true_eq] at h6
     obtain ⟨⟨⟨h7,h8⟩,h9⟩,h10⟩:=h6
     split at h7
     ·rename_i z hz
      rw [beq_iff_eq] at h7
      exact aA0 hC hK hd hdst ho hi (H7 h2) (eR h3) hit hz h7 h8 h9 h10 h4 h5 h
     ·simp at h7
    ·simp at h6
   ·simp at hop
  ·simp at hop
 case h_30 f ys hi=>
  split at hop
  ·rename_i g us ts ho
   simp only [aB,beq_iff_eq] at hop
   obtain ⟨rfl,h1⟩:=hop
   exact ahK hgood hC hK hd hdst ho hi h1 h
  ·simp at hop
 case h_31 y ys hi=>
  split at hop
  ·rename_i x us ts ho
   simp only [aB] at hop
   exact aA9 hgood hC hK hd hdst ho hi hop.1 hop.2 h
  ·simp at hop
 case h_32 k j hi=>
  split at hop
  ·rename_i k' j' ho
   simp only [aB,beq_iff_eq] at hop
   obtain ⟨⟨rfl,rfl⟩,h1⟩:=hop
   split at h1
   ·rename_i d hdd
    exact aBd hC hK hd hdst ho hi ⟨d,hdd,by simpa using h1⟩ h
   ·simp at h1
  ·simp at hop
 case h_33 f A C ys hi=>
  split at hop
  ·rename_i g first us ho
   simp only [aB,beq_iff_eq] at hop
   obtain ⟨⟨rfl,h1⟩,h2⟩:=hop
   have:first=#[]:=Array.eq_empty_of_size_eq_zero h1
   subst this
   exact aBq hC hK hd hdst ho hi h2 h
  ·simp at hop
 case h_34 y hi=>
  split at hop
  ·rename_i t x ho
   simp only [aB] at hop
   exact aBv hC hK hd hdst ho hi (eR hop.1) hop.2 h
  ·simp at hop
 case h_35 hi=>
  unfold step at h; rw [hi] at h; simp at h
 case h_36 y hi=>
  split at hop
  ·rename_i s d x ho
   simp only [aB] at hop
   obtain ⟨⟨h1,h2⟩,h3⟩:=hop
   split at h3
   ·rename_i e he; exact aBD hC hK hd hdst ho hi (eR h2).str (wv he) (eR h3).int h1 h
   ·simp at h3
  ·simp at hop
 case h_37 y hi=>
  split at hop
  ·rename_i s d x ho
   simp only [aB] at hop
   obtain ⟨⟨h1,h2⟩,h3⟩:=hop
   split at h3
   ·rename_i e he; exact aBE hC hK hd hdst ho hi (wv he) (eR h3).int (eR h2).str h1 h
   ·simp at h3
  ·simp at hop
 case h_38 y hi=>
  split at hop
  ·rename_i x ho
   exact aBs hC hK hd hdst ho hi hop h
  ·simp at hop
 case h_39 k hi=>
  split at hop
  ·rename_i k' ho
   rw [beq_iff_eq] at hop
   subst hop
   exact aBt hC hK hd hdst ho hi h
  ·simp at hop
 case h_40 neg x' y' hi=>
  split at hop
  ·rename_i op t x y yt ho
   simp only [aB,decide_eq_true_eq] at hop
   obtain ⟨⟨⟨rfl,h2⟩,h3⟩,h4⟩:=hop
   exact aBb hC hK hd hdst ho hi h2 h3 h4 h
  ·simp at hop
 case h_41 neg T x' y' _ hi=>
  split at hop
  ·rename_i op t x y yt ho
   simp only [aB,decide_eq_true_eq] at hop
   obtain ⟨⟨⟨rfl,h2⟩,h3⟩,h4⟩:=hop
   exact aBc hC hK hd hdst ho hi h2 h3 h4 h
  ·simp at hop
 case h_42 f ys hi=>
  split at hop
  ·rename_i g us ats ho
   split at hop
   ·rename_i v us' hus
    simp only [aB,beq_iff_eq] at hop
    obtain ⟨⟨h0,rfl⟩,h1⟩:=hop
    exact aA8 hgood hC hK hd hdst ho hi hus (show v=_ from rK h0) h1 h
   ·simp at hop
  ·simp at hop
 case h_43 f ys hi=>
  split at hop
  ·rename_i g us ats ho
   simp only [aB,beq_iff_eq] at hop
   obtain ⟨rfl,h1⟩:=hop
   exact aA7 hgood hC hK hd hdst ho hi h1 h
  ·simp at hop
 case h_44 y hi=>
  split at hop
  ·rename_i x ho; exact ahL hC hK hd hdst (.inl ho) hi hop h
  ·rename_i x ho; exact ahL hC hK hd hdst (.inr ho) hi hop h
  ·simp at hop
 case h_45 f y hi=>
  split at hop
  ·rename_i g us ats ho
   split at hop
   ·rename_i x hus
    simp only [aB,beq_iff_eq] at hop
    obtain ⟨rfl,h1⟩:=hop
    exact aBG hgood hC hK hd hdst ho hi hus h1 h
   ·simp at hop
  ·simp at hop
 case h_46 t e hi=>
  split at hop
  ·rename_i t' ho
   simp only [aB,beq_iff_eq] at hop
   obtain ⟨rfl,h1⟩:=hop
   exact aBw hC hK hd hdst ho hi h1 h
  ·simp at hop
 case h_47 f k y hi=>
  split at hop
  ·rename_i g us ats ho
   split at hop
   ·rename_i k' x hus
    simp only [aB,beq_iff_eq] at hop
    obtain ⟨⟨rfl,rfl⟩,h1⟩:=hop
    exact aBy hgood hC hK hd hdst ho hi hus h1 h
   ·simp at hop
  ·simp at hop
 case h_48 f k hi=>
  split at hop
  ·rename_i g us ats ho
   split at hop
   ·rename_i k' hus
    simp only [aB,beq_iff_eq] at hop
    obtain ⟨rfl,rfl⟩:=hop
    exact aBx hgood hC hK hd hdst ho hi hus h
   ·simp at hop
  ·simp at hop
 case h_49 f y ys hi=>
  split at hop
  ·rename_i g us ats ho
   split at hop
   ·rename_i u us' hus
    simp only [aB,beq_iff_eq] at hop
    obtain ⟨⟨rfl,h0⟩,h1⟩:=hop
    exact aBn hgood hC hK hd hdst ho hi hus h0 h1 h
   ·simp at hop
  ·simp at hop
end
end Go.Fw
/- Soundness, part 22: regions, code. -/
namespace Go.Fw
open Go Go.RowKit
def nd (ops:Array Oper):Option (Nat×Bool)→Option (Nat×Bool)→Bool
 | none,none=>true
 | some (j,b),some (s,b')=>b==b'&&(match ops[j]? with | some o=>decide (o.dst=some s) | none=>false)
 | _,_=>false
def nf (P:Program) (n:Nat) (ops:Array Oper):Nat→List AI→Bool
 | j,[]=>j==ops.size
 | j,i::r=>(match ops[j]? with | some o=>nd ops o.guard i.guard&&lT P n o i | none=>false)&&nf P n ops (j+1) r
def qj (i:AI):Bool:=match i.dst with | some 0=>false | _=>true
theorem agU {i:AI} (h:qj i=true):i.dst≠some 0:=by
 intro e; unfold qj at h; rw [e] at h; simp at h
section
variable {P:Program} {B:Nat} {G0:Nat→Nat→Prop} {W0:dF} {n:Nat} {env env':Env} {tm:Array Value} {a:Act} {w:World} {ob:Nat→OB} {cl:aH}
variable {R:Type} {r:R} {Q:Exit→Act→World→Prop}
theorem ar.ext (hC:ar P B G0 W0 n env tm w ob) (h:∀ k,look env' k=look env k):∃ ob',ar P B G0 W0 n env' tm w ob':=ar.forget hC (fun k=>.inl (h k))
theorem ar.ae (hC:ar P B G0 W0 n env tm w ob) (live:List Nat):∃ ob',ar P B G0 W0 n (Fw.ae live env) tm w ob':=by
 refine ar.forget hC (fun k=>?_)
 rw [agO]
 have gone:∀ j,leads k (look (Fw.ae live env) j)=true→k∈live∧(look env k).home=true:=by
  intro j hj
  rw [agO] at hj
  split at hj
  ·rcases agc live (look env j) with ⟨h1,h2⟩ | h1
   ·rw [h1] at hj; exact ⟨h2 k hj,(bL.leads hj (hC.rep j)).1⟩
   ·rw [h1] at hj; simp [leads] at hj
  ·simp [leads] at hj
 by_cases hk:k∈live
 ·rw [if_pos hk]
  rcases agc live (look env k) with ⟨h1,_⟩ | h1
  ·exact .inl h1
  ·by_cases hh:(look env k).home=true
   ·left
    have:sJ (look env k)=[]:=by
     cases he:look env k<;>rw [he] at hh<;>first | rfl | (exfalso; simp [E.home] at hh; done)
    unfold sF; rw [this]; rfl
   ·exact .inr ⟨h1,fun j hj=>hh (gone j hj).2⟩
 ·rw [if_neg hk]
  exact .inr ⟨rfl,fun j hj=>hk (gone j hj).1⟩
theorem kept (hC:ar P B G0 W0 n env a.tmps w ob) {o:Oper} {j:Nat} {ops:Array Oper} {s:Nat} {b:Bool} (hj:ops[j]?=some o) (hd:o.dst=some s) (hs:look env s=.v .bool b):yielded ops a.tmps j=some b:=by
 have hr:=hC.rep s
 rw [hs] at hr
 obtain ⟨_,vs,h1,h2⟩:=hr
 unfold Flat at h1
 obtain ⟨rfl,_⟩:=h1
 have h3:a.tmps.getD s undef=.bool b:=h2
 unfold yielded
 simp only [hj,ah,hd]
 cases h4:a.tmps[s]? with
 | none=>
   have:a.tmps.getD s undef=undef:=by simp [nv,h4]
   rw [this] at h3; exact absurd h3 (by simp [undef])
 | some v=>
   have:a.tmps.getD s undef=v:=by simp [nv,h4]
   rw [this] at h3; subst h3; rfl
theorem agd (hC:ar P B G0 W0 n env a.tmps w ob) {o:Oper} {j:Nat} {ops:Array Oper} {s:Nat} (hj:ops[j]?=some o) (hd:o.dst=some s) (hs:look env s=.cn):yielded ops a.tmps j=none:=by
 have hr:=hC.rep s
 rw [hs] at hr
 have h3:a.tmps.getD s undef=undef:=hr.1
 unfold yielded
 simp only [hj,ah,hd]
 cases h4:a.tmps[s]? with
 | none=>rfl
 | some v=>
   have:a.tmps.getD s undef=v:=by simp [nv,h4]
   rw [this] at h3; subst h3; rfl
theorem R0 {K:dn R} (hgood:Good P W0.t cl) {ops:Array Oper}:∀ (l:List AI) (j:Nat) (env:Env) (a:Act) (w:World) (ob:Nat→OB),nf P n ops j l=true→(W0.pin=none∨l.all qj=true)→ar P B G0 W0 n env a.tmps w ob→Fw.ops cl l env K=some r→
  bU P B G0 W0 n a K r (fun a' w'=>Q .normal a' w')→wpOps P ops Q (Dp j (ops.size - j)) a w
 | [],j,env,a,w,ob,hok,_,hC,h,hK=>by
   simp only [nf,beq_iff_eq] at hok
   rw [hok,Nat.sub_self]
   have:=hK env a.tmps w ob hC h
   exact this
 | i::l,j,env,a,w,ob,hok,hz,hC,h,hK=>by
   have hz1:W0.pin=none∨i.dst≠some 0:=hz.imp id fun h=>by simp only [jC,aB] at h; exact agU h.1
   have hz2:W0.pin=none∨l.all qj=true:=hz.imp id fun h=>by simp only [jC,aB] at h; exact h.2
   simp only [nf,aB] at hok
   obtain ⟨h1,h2⟩:=hok
   split at h1
   case h_2=>simp at h1
   rename_i o hj
   simp only [aB] at h1
   obtain ⟨hg,hai⟩:=h1
   have hlt:j < ops.size:=(Df.1 hj).1
   have hr:Dp j (ops.size - j)=j::Dp (j+1) (ops.size - (j+1)):=by
    rw [show ops.size - j=(ops.size - (j+1))+1 by omega,List.range'_succ]
   rw [hr]
   simp only [wpOps,hj]
   have hdst:i.dst=o.dst:=by simp only [lT,aB,decide_eq_true_eq] at hai; exact hai.1.1
   have hd:∀ k,o.dst=some k→bH W0 n k:=by
    simp only [lT,aB,decide_eq_true_eq] at hai
    intro k hk
    have:=hai.1.2
    rw [hk] at this; exact ⟨by simpa using this,hz1.imp id fun h e=>h (by rw [hdst,hk,e])⟩
   have yes:∀ (env:Env) (ob:Nat→OB),ar P B G0 W0 n env a.tmps w ob→step cl i env (fun env=>Fw.ops cl l env K)=some r→o.wp P a w (wpOps P ops Q (Dp (j+1) (ops.size - (j+1)))) Q:=by
    intro env ob hC h
    exact H9 hgood hC (fun env' tm' w' ob' hC' h'=>R0 hgood l (j+1) env' {a with tmps:=tm'} w' ob' h2 hz2 hC' h' (fun e2 t2 w2 o2 h3 h4=>hK e2 t2 w2 o2 h3 h4)) hai hz1 h
   have no:∀ (env:Env) (ob:Nat→OB),ar P B G0 W0 n env a.tmps w ob→Fw.ops cl l (aX env i.dst .cn) K=some r→wpOps P ops Q (Dp (j+1) (ops.size - (j+1))) (a.put o.dst undef) w:=by
    intro env ob hC h
    rw [hdst] at h
    obtain ⟨ob',hC'⟩:=ar.aX (e:=.cn) (v:=undef) hC hd (aY.refl w) ⟨rfl,rfl⟩ a rfl
    refine R0 hgood l (j+1) _ _ w ob' h2 hz2 hC' h (fun e2 t2 w2 o2 h3 h4=>?_)
    have:=hK e2 t2 w2 o2 h3 h4
    have e:({(a.put o.dst undef) with tmps:=t2}:Act)={a with tmps:=t2}:=by cases o.dst<;>rfl
    rw [e]; exact this
   unfold Fw.ops Cy at h
   cases hog:o.guard with
   | none=>
     cases hig:i.guard with
     | some q=>rw [hog,hig] at hg; simp [nd] at hg
     | none=>
       rw [hig] at h
       have hw:Region.wanted o (yielded ops a.tmps)=true:=by simp [Region.wanted,hog]
       rw [if_pos hw]
       exact .inl (yes env ob hC h)
   | some q=>
     obtain ⟨gj,gb⟩:=q
     cases hig:i.guard with
     | none=>rw [hog,hig] at hg; simp [nd] at hg
     | some q'=>
       obtain ⟨s,pol⟩:=q'
       rw [hog,hig] at hg
       simp only [nd,aB,beq_iff_eq] at hg
       obtain ⟨rfl,hg⟩:=hg
       split at hg
       case h_2=>simp at hg
       rename_i og hgj
       simp only [decide_eq_true_eq] at hg
       rw [hig] at h
       simp only at h
       split at h
       ·rename_i b hs
        have hy:=kept hC hgj hg hs
        have hw:Region.wanted o (yielded ops a.tmps)=(b==gb):=by
         simp only [Region.wanted,hog,hy]
         cases b<;>cases gb<;>rfl
        have ext:∀ b',b=b'→∃ ob',ar P B G0 W0 n ((s,.v .bool b')::env) a.tmps w ob':=by
         rintro b' rfl
         refine ar.ext hC (fun k=>?_)
         rw [bm]
         split
         ·rename_i e; subst e; exact hs.symm
         ·rfl
        cases b with
        | true=>
          obtain ⟨ob',hC'⟩:=ext true rfl
          simp only [al] at h
          cases gb with
          | true=>
            rw [if_pos (by rw [hw]; rfl)]
            exact .inl (yes _ _ hC' h)
          | false=>
            rw [if_neg (by rw [hw]; decide)]
            exact no _ _ hC' h
        | false=>
          obtain ⟨ob',hC'⟩:=ext false rfl
          simp only [al] at h
          cases gb with
          | true=>
            rw [if_neg (by rw [hw]; decide)]
            exact no _ _ hC' h
          | false=>
            rw [if_pos (by rw [hw]; rfl)]
            exact .inl (yes _ _ hC' h)
       ·rename_i hs
        have hy:=agd hC hgj hg hs
        rw [if_neg (by simp [Region.wanted,hog,hy])]
        exact no _ _ hC h
       ·simp at h
theorem avK {c:Code} (J:Nat→Act→World→Prop) (h0:∀ a w,¬ J 0 a w) (hs:∀ m a w,J (m+1) a w→c.wp P (Exit.then (J m) Q) a w):∀ (m:Nat) (a:Act) (w:World),J m a w→(Code.loop c).wp P Q a w:=by
 have key:∀ m a w,J m a w→∀ (b:Frame) (k:List Item) (cs:List Frame),∃ e a' w',Q e a' w'∧Arrives P (lone (b.at a (.code c::.inLoop c::k)) cs w) b k cs e a' w':=by
  intro m
  induction m with
  | zero=>intro a w h; exact absurd h (h0 a w)
  | succ m ih=>
    intro a w h b k cs
    obtain ⟨e,a₁,w₁,hq,harr⟩:=hs m a w h b (.inLoop c::k) cs
    cases e with
    | normal=>
      obtain ⟨e₂,a₂,w₂,hq₂,harr₂⟩:=ih a₁ w₁ hq b k cs
      exact ⟨e₂,a₂,w₂,hq₂,.of_steps (Steps.trans harr (.one step_inLoop)) harr₂⟩
    | exit id=>exact ⟨_,a₁,w₁,hq,.pass (x:=.inLoop c) rfl (fun _ _=>.inl (by simp)) harr⟩
    | goto l=>exact ⟨_,a₁,w₁,hq,.pass (x:=.inLoop c) rfl (fun _ _=>.inl (by simp)) harr⟩
    | ret=>exact ⟨_,a₁,w₁,hq,.pass (x:=.inLoop c) rfl (fun _ _=>.inl (by simp)) harr⟩
    | panic ch=>exact ⟨_,a₁,w₁,hq,.pass (x:=.inLoop c) rfl (fun _ _=>.inl (by simp)) harr⟩
    | outgrown=>exact ⟨_,a₁,w₁,hq,.pass (x:=.inLoop c) rfl (fun _ _=>.inl (by simp)) harr⟩
 intro m a w h b k cs
 obtain ⟨e,a',w',hq,harr⟩:=key m a w h b k cs
 exact ⟨e,a',w',hq,.of_steps (.one step_loop) harr⟩
end
end Go.Fw
/- Soundness: regions whose order is open. -/
namespace Go.Fw
open Go Go.RowKit
abbrev Ch:=List (Nat×E)
def Ch.ks (δ:Ch):List Nat:=δ.map (·.1)
theorem HK {δ:Ch} {env:Env} {k:Nat} (h:k∈Ch.ks δ):look (δ++env) k=look δ k:=by
 induction δ with
 | nil=>simp [Ch.ks] at h
 | cons q δ ih=>
   obtain ⟨j,e⟩:=q
   rw [dQ,bm,bm]
   split
   ·rfl
   ·rename_i hj
    apply ih
    simp only [Ch.ks,fG,dG] at h
    rcases h with h | h
    ·exact absurd h.symm hj
    ·exact h
theorem u7 {δ:Ch} {env:Env} {k:Nat} (h:k∉Ch.ks δ):look (δ++env) k=look env k:=by
 induction δ with
 | nil=>rfl
 | cons q δ ih=>
   obtain ⟨j,e⟩:=q
   simp only [Ch.ks,fG,dG,not_or] at h
   rw [dQ,bm,if_neg (fun e=>h.1 e.symm)]
   exact ih h.2
def Inv (D:Nat→Ch) (env0:Env) (S:Nat→Prop) (env:Env):Prop:=
 ∀ k,(∃ m,S m∧k∈(D m).ks∧(∀ m',m < m'→S m'→k∉(D m').ks)∧look env k=look (D m) k)∨((∀ m,S m→k∉(D m).ks)∧look env k=look env0 k)
theorem Inv.start {D:Nat→Ch} {env0:Env} {S:Nat→Prop} (h:∀ m,¬ S m):Inv D env0 S env0:=fun _=>.inr ⟨fun m hm=>absurd hm (h m),rfl⟩
theorem Inv.add {D:Nat→Ch} {env0 env:Env} {S:Nat→Prop} {i:Nat} (h:Inv D env0 S env) (hi:∀ k∈(D i).ks,∀ m',i < m'→S m'→k∉(D m').ks):Inv D env0 (fun m=>S m∨m=i) (D i++env):=by
 intro k
 by_cases hk:k∈(D i).ks
 ·refine .inl ⟨i,.inr rfl,hk,fun m' hm hs=>?_,HK hk⟩
  rcases hs with hs | rfl
  ·exact hi k hk m' hm hs
  ·omega
 ·rw [u7 hk]
  rcases h k with ⟨m,h1,h2,h3,h4⟩ | ⟨h1,h2⟩
  ·refine .inl ⟨m,.inl h1,h2,fun m' hm hs=>?_,h4⟩
   rcases hs with hs | rfl
   ·exact h3 m' hm hs
   ·exact hk
  ·refine .inr ⟨fun m hm=>?_,h2⟩
   rcases hm with hm | rfl
   ·exact h1 m hm
   ·exact hk
theorem Inv.set {D:Nat→Ch} {env0 env:Env} {S S':Nat→Prop} (h:Inv D env0 S env) (hs:∀ m,S m↔S' m):Inv D env0 S' env:=by
 intro k
 rcases h k with ⟨m,h1,h2,h3,h4⟩ | ⟨h1,h2⟩
 ·exact .inl ⟨m,(hs m).1 h1,h2,fun m' hm hs'=>h3 m' hm ((hs m').2 hs'),h4⟩
 ·exact .inr ⟨fun m hm=>h1 m ((hs m).2 hm),h2⟩
theorem Inv.ext {D:Nat→Ch} {env0 e1 e2:Env} {S:Nat→Prop} (h:Inv D env0 S e1) (he:∀ k,look e2 k=look e1 k):Inv D env0 S e2:=by
 intro k
 rcases h k with ⟨m,h1,h2,h3,h4⟩ | ⟨h1,h2⟩
 ·exact .inl ⟨m,h1,h2,h3,by rw [he]; exact h4⟩
 ·exact .inr ⟨h1,by rw [he]; exact h2⟩
theorem Inv.same {D:Nat→Ch} {env0 e1 e2:Env} {S S':Nat→Prop} {k:Nat} (h:Inv D env0 S e1) (h':Inv D env0 S' e2) (hk:∀ m,k∈(D m).ks→(S m↔S' m)):look e1 k=look e2 k:=by
 rcases h k with ⟨m,h1,h2,h3,h4⟩ | ⟨h1,h2⟩
 ·rcases h' k with ⟨m',h1',h2',h3',h4'⟩ | ⟨h1',_⟩
  ·have:m=m':=by
    rcases Nat.lt_trichotomy m m' with hl | hl | hl
    ·exact absurd h2' (h3 m' hl ((hk m' h2').2 h1'))
    ·exact hl
    ·exact absurd h2 (h3' m hl ((hk m h2).1 h1))
   subst this
   rw [h4,h4']
  ·exact absurd h2 (h1' m ((hk m h2).1 h1))
 ·rcases h' k with ⟨m',h1',h2',_,_⟩ | ⟨_,h2'⟩
  ·exact absurd h2' (h1 m' ((hk m' h2').2 h1'))
  ·rw [h2,h2']
section
variable {cl:aH} {env:Env} {R:Type} {K:dn R}
theorem mw {d:Option Nat} {e:E} (h:free env d=true):aX env d e=one d e++env:=by
 cases d with
 | none=>rfl
 | some d=>
   simp only [free,dX] at h
   simp only [aX,put,h,one,agE]
   rfl
theorem age {s:Nat}:∀ {env:Env},(∀ q∈env,leads s q.2=false)→kill s env=env
 | [],_=>rfl
 | q::env,h=>by
   have h1:=age (s:=s) (env:=env) (fun q' hq=>h q' (oG _ hq))
   unfold kill at h1 ⊢
   rw [fG,h1,h q (oH ..)]
   rfl
theorem aiv {d:Option Nat} {k0:Nat} {x:Od} {q:TV×List (Nat×E)} (h:(IW d k0 x).run (look env)=some q):
  ea env x=some (q.2++env,q.1)∧(∀ s,∀ u∈q.2,leads s u.2=false)∧look (q.2++env) k0=look env k0∧∀ d',d=some d'→look (q.2++env) d'=look env d':=by
 unfold IW at h
 rw [Rd.run_bind,dS] at h
 replace h:=dC h
 split at h
 ·rename_i T y he
  cases h
  refine ⟨by unfold ea; rw [he]; rfl,fun s u hu=>by simp at hu,rfl,fun _ _=>rfl⟩
 ·rename_i wr ed T o xs he
  split at h
  ·rename_i k
   rw [Rd.dy] at h
   split at h
   ·rename_i hc
    simp only [aB,dX,beq_eq_false_iff_ne] at hc
    obtain ⟨⟨h1,h2⟩,h3⟩:=hc
    cases h
    have hl:look env k=.own wr ed T o xs:=he
    refine ⟨?_,fun s u hu=>?_,?_,fun d' hd=>?_⟩
    ·unfold ea
     rw [he]
     simp only [dT,h3,if_true,ah,fx,freeze,hl]
     rfl
    ·simp only [vL] at hu; subst hu; rfl
    ·show look ((k,_)::env) k0=_
     rw [bm,if_neg h1]
    ·subst hd
     simp only [apart,dX,beq_eq_false_iff_ne] at h2
     show look ((k,_)::env) d'=_
     rw [bm,if_neg (b9 h2)]
   ·simp [Rd.bh] at h
  ·simp [Rd.bh] at h
 ·simp [Rd.bh] at h
def Di (d:Option Nat) (env:Env) (ch:List (Nat×E)):Prop:=∀ q∈ch,(∃ wr ed T o,∃ xs:List (den T),look env q.1=.own wr ed T o xs)∧apart d q.1=true
theorem RQ {d:Option Nat} {ch:List (Nat×E)} {k:Nat} (h:∀ q∈ch,q.1≠k):look (ch++env) k=look env k:=by
 induction ch with
 | nil=>rfl
 | cons q ch ih=>
   rw [dQ,bm,if_neg (h q (oH ..))]
   exact ih fun q' hq=>h q' (oG _ hq)
theorem ayp {d:Option Nat} {ch:List (Nat×E)} {x:Od} {q:TV×List (Nat×E)} (hc:Di d env ch) (h:(R6 d ch x).run (look env)=some q):ea (ch++env) x=some (q.2++env,q.1)∧Di d env q.2:=by
 unfold R6 at h
 rw [Rd.run_bind,dS] at h
 replace h:=dC h
 split at h
 ·rename_i T y he
  cases h
  have he2:ag (ch++env) x=.v T y:=by
   cases x with
   | t k=>
     have he:look env k=.v T y:=he
     show look (ch++env) k=_
     rw [RQ (d:=d) fun u hu e=>?_,he]
     obtain ⟨⟨wr,ed,T',o,xs,h1⟩,_⟩:=hc u hu
     rw [e,he] at h1; cases h1
   | c T' y'=>exact he
   | nil e T'=>exact he
   | fn f A C=>exact he
  exact ⟨by unfold ea; rw [he2]; rfl,hc⟩
 ·rename_i wr ed T o xs he
  split at h
  ·rename_i k
   rw [Rd.dy] at h
   split at h
   ·rename_i hk
    simp only [aB,gl,dX,beq_eq_false_iff_ne] at hk
    obtain ⟨⟨h1,h2⟩,h3⟩:=hk
    cases h
    have he:look env k=.own wr ed T o xs:=he
    have hl:look (ch++env) k=.own wr ed T o xs:=by rw [RQ (d:=d) h1,he]
    have he2:ag (ch++env) (.t k)=.own wr ed T o xs:=hl
    refine ⟨?_,fun u hu=>?_⟩
    ·unfold ea
     rw [he2]
     simp only [dT,h3,if_true,ah,fx,freeze,hl]
     rfl
    ·rcases dG.1 hu with rfl | hu
     ·exact ⟨⟨wr,ed,T,o,xs,he⟩,h2⟩
     ·exact hc u hu
   ·simp [Rd.bh] at h
  ·simp [Rd.bh] at h
 ·simp [Rd.bh] at h
theorem Tc {d:Option Nat}:∀ (T:Ty) (x:den T) (ch:List (Nat×E)) (l:List (Path×Od)) (q:den T×List (Nat×E)),Di d env ch→(vT d T x ch l).run (look env)=some q→ir T x (ch++env) l=some (q.2++env,q.1)∧Di d env q.2
 | T,x,ch,[],q,hc,h=>by simp only [vT,Rd.lV,az] at h; subst h; exact ⟨by simp [ir],hc⟩
 | T,x,ch,(p,a)::r,q,hc,h=>by
   unfold vT at h
   rw [Rd.run_bind] at h
   obtain ⟨u,hu,h⟩:=av.1 h
   rw [Rd.run_bind,Rd.er] at h
   obtain ⟨z,hz,h⟩:=av.1 h
   obtain ⟨h1,h2⟩:=ayp hc hu
   unfold ir
   rw [h1]
   simp only [ah,hz]
   exact Tc T z u.2 r q h2 h
theorem aNa {d:Option Nat} {op:sY} {g:Option (Nat×Bool)} {δ:Ch} (h:(gG cl d op).run (look env)=some δ) (hf:free env d=true) (hn:∀ s,Pa op=some s→∀ q∈env,leads s q.2=false):step cl ⟨d,op,g⟩ env K=K (δ++env):=by
 have pure:((vy cl d op).bind fun e=>Rd.ok (one d e)).run (look env)=some δ→step cl ⟨d,op,g⟩ env K=K (δ++env):=by
  intro h
  rw [Rd.run_bind] at h
  obtain ⟨e,he,h⟩:=av.1 h
  cases h
  rw [aMX (i:=⟨d,op,g⟩) he,mw hf]
 cases op
 case store T a x=>
  simp only [gG] at h
  rw [Rd.run_bind,C9] at h
  obtain ⟨y,hy,h⟩:=av.1 h
  rw [Rd.run_bind,Rd.er] at h
  obtain ⟨z,hz,h⟩:=av.1 h
  rw [Rd.run_bind,dS] at h
  have h:=dC h
  have hpub:=CW hy
  have hx:=ah5 hy
  have himm:dT env (ag env x)=some y:=by rw [hx]; rfl
  have loc:∀ s p,eH env a=some (s,p)→(Ia T z s p (look env s)).run (look env)=some δ→step cl ⟨d,.store T a x,g⟩ env K=K (δ++env):=by
   intro s p h0 h
   have h1:∀ T0 o x0,look env s=.loc T0 o x0→(dv T || (ct o p).pure)=true→step cl ⟨d,.store T a x,g⟩ env K=(bz T0 p x0 ⟨T,z⟩).bind fun x1=>K ((s,.loc T0 o x1)::env):=by
    intro T0 o x0 hl hsc
    unfold eH at h0
    by_cases hs1:dv T=true
    case neg=>
     have hp:(ct o p).pure=true:=by simpa [hs1] using hsc
     cases he:ag env a<;>rw [he] at h0<;>first | (exfalso; simp at h0; done) | skip
     ·simp only [step,he,eH,h0,hl,if_neg hs1,hx,hpub,ah,hz,hp]
     ·simp only [az,eL] at h0
      obtain ⟨rfl,rfl⟩:=h0
      simp only [step,he,eH,hl,if_neg hs1,hx,hpub,ah,hz,hp]
    replace hsc:=hs1
    cases he:ag env a<;>rw [he] at h0<;>first | (exfalso; simp at h0; done) | skip
    ·simp only [step,he,eH,h0,hl,hsc,if_true,himm,ah,hz]
    ·simp only [az,eL] at h0
     obtain ⟨rfl,rfl⟩:=h0
     simp only [step,he,eH,hl,hsc,if_true,himm,ah,hz]
   cases hl:look env s<;>rw [hl] at h<;>simp only [Ia,Rd.bh] at h<;>first | (exfalso; simp at h; done) | skip
   rename_i T0 o x0
   rw [Rd.dy] at h
   split at h
   ·rename_i hsc
    rw [Rd.run_bind,Rd.er] at h
    obtain ⟨x1,hx1,h⟩:=av.1 h
    cases h
    rw [h1 T0 o x0 hl hsc,hx1]
    rfl
   ·simp [Rd.bh] at h
  split at h
  ·rename_i s j q he
   rw [Rd.run_bind,Rd.run_get] at h
   have h:=dC h
   cases hl:look env s<;>rw [hl] at h<;>simp only [ahP,Rd.bh] at h<;>first | (exfalso; simp at h; done) | skip
   rename_i wr ed T0 o xs
   cases wr
   ·simp [Rd.bh] at h
   ·simp only [Rd.run_ite] at h
    split at h
    ·rename_i hj
     rw [Rd.run_bind,Rd.er] at h
     obtain ⟨u,hu,h⟩:=av.1 h
     rw [Rd.dy] at h
     split at h
     ·rename_i ho
      cases h
      simp only [step,he,hl,hpub,ah,hz,if_pos hj,hu,if_pos ho]
      rfl
     ·simp [Rd.bh] at h
    ·simp [Rd.bh] at h
  ·rename_i s p he
   rw [Rd.run_bind,Rd.run_get] at h
   exact loc s p (by simp only [eH,he]) (dC h)
  ·rename_i T0 o x0 he
   split at h
   ·rename_i k _ _ _
    have hl:look env k=.loc T0 o x0:=he
    rw [he,←hl] at h
    exact loc k [] (by simp only [eH,he,Od.slot,vM]) h
   ·simp [Rd.bh] at h
  ·simp [Rd.bh] at h
 case lY T x lo hi mx=>
  simp only [gG] at h
  rw [Rd.run_bind,dS] at h
  have h:=dC h
  split at h
  ·rename_i s p he
   split at h
   ·rw [Rd.run_bind,Rd.run_get] at h
    have h:=dC h
    split at h
    ·rename_i wr ed T' o xs hl
     rw [Rd.dy] at h
     split at h
     ·rename_i ho
      rw [Rd.run_bind] at h
      obtain ⟨v,hv,h⟩:=av.1 h
      cases h
      unfold ahH at hv
      rw [Rd.run_bind,qm] at hv
      obtain ⟨q1,hq1,hv⟩:=av.1 hv
      rw [Rd.run_bind,qm] at hv
      obtain ⟨q2,hq2,hv⟩:=av.1 hv
      rw [Rd.run_bind,qm] at hv
      obtain ⟨q3,hq3,hv⟩:=av.1 hv
      rw [Rd.run_bind,Rd.er] at hv
      obtain ⟨ys,hys,hv⟩:=av.1 hv
      rw [Rd.run_ite] at hv
      split at hv
      ·rename_i hb
       cases hv
       have hpub:ea env x=some (freeze env s,⟨.sl T',xs⟩):=by simp [ea,he,dT,bC,hl,ho,fx]
       have hfr:freeze env s=(s,.own false ed T' o.bJ xs)::env:=by simp [freeze,hl]
       have hf2:free ((s,.own false ed T' o.bJ xs)::env) d=true:=by
        cases d with
        | none=>rfl
        | some d=>
          simp only [free] at hf ⊢
          rw [bm]
          by_cases hsd:s=d
          ·subst hsd; rw [hl] at hf; simp [E.home] at hf
          ·rw [if_neg hsd]; exact hf
       simp only [step,hq1,hq2,hq3,ah,hpub,hys,if_pos hb,hfr,mw hf2,bX,dQ,eC]
      ·simp [Rd.bh] at hv
     ·simp [Rd.bh] at h
    ·simp [Rd.bh] at h
   ·simp [Rd.bh] at h
  ·exact pure h
 case cp x=>
  simp only [gG] at h
  rw [Rd.run_bind,dS] at h
  replace h:=dC h
  split at h
  ·rename_i T y he
   cases h
   have hpub:ea env x=some (env,⟨T,y⟩):=by simp [ea,he,dT,fx]
   simp only [step,hpub,ah,mw hf]
  ·rename_i wr ed T o xs he
   split at h
   ·rename_i k
    rw [Rd.dy] at h
    split at h
    ·rename_i ho
     cases h
     have hl:look env k=.own wr ed T o xs:=he
     have hpub:ea env (.t k)=some (freeze env k,⟨.sl T,xs⟩):=by simp [ea,he,dT,ho,fx]
     have hfr:freeze env k=(k,.own false ed T o.bJ xs)::env:=by simp [freeze,hl]
     have hf2:free ((k,.own false ed T o.bJ xs)::env) d=true:=by
      cases d with
      | none=>rfl
      | some d=>
        simp only [free] at hf ⊢
        rw [bm]
        by_cases hsd:k=d
        ·subst hsd; rw [hl] at hf; simp [E.home] at hf
        ·rw [if_neg hsd]; exact hf
     simp only [step,ah,hpub,hfr,mw hf2,bX,dQ,eC]
    ·simp [Rd.bh] at h
   ·simp [Rd.bh] at h
  ·simp [Rd.bh] at h
 case mv x=>
  simp only [gG] at h
  rw [Rd.run_bind,dS] at h
  replace h:=dC h
  split at h
  ·rename_i es he
   split at h
   ·rename_i k d
    rw [Rd.dy] at h
    split at h
    ·simp [Rd.bh] at h
    ·rename_i hkd
     cases h
     have hh:(look env d).home=false:=by simpa [free] using hf
     simp only [step,qi,he,hkd,hh]
     rfl
   ·simp [Rd.bh] at h
  ·exact pure h
 case build T parts=>
  simp only [gG] at h
  rw [Rd.run_bind] at h
  obtain ⟨q,hq,h⟩:=av.1 h
  cases h
  obtain ⟨h1,h2⟩:=Tc T (zero T) [] parts q (fun u hu=>by simp at hu) hq
  rw [eC] at h1
  have hf2:free (q.2++env) d=true:=by
   cases hd:d with
   | none=>rfl
   | some d'=>
     subst hd
     simp only [free] at hf ⊢
     rw [RQ (d:=some d') fun u hu e=>?_]
     ·exact hf
     ·have:=(h2 u hu).2
      simp only [apart,dX,beq_eq_false_iff_ne] at this
      exact this e.symm
  simp only [step,h1,ah,mw hf2,bX]
 case append e T lim s x=>
  simp only [gG] at h
  split at h
  case h_2=>simp [Rd.bh] at h
  rename_i k0
  rw [Rd.run_bind,Rd.run_get] at h
  have h:=dC h
  split at h
  case h_2=>simp [Rd.bh] at h
  rename_i wr e' T' o xs hk0
  rw [Rd.run_bind] at h
  obtain ⟨q,hq,h⟩:=av.1 h
  rw [Rd.run_bind,Rd.er] at h
  obtain ⟨ys,hys,h⟩:=av.1 h
  rw [Rd.run_bind,Rd.er] at h
  obtain ⟨xs',hxs,h⟩:=av.1 h
  rw [Rd.dy] at h
  split at h
  case isFalse=>simp [Rd.bh] at h
  rename_i hc
  rw [Rd.run_ite] at h
  split at h
  case isFalse=>simp [Rd.bh] at h
  rename_i hle
  cases h
  obtain ⟨p1,p2,p3,p4⟩:=aiv hq
  have hl:look (q.2++env) k0=.own wr e' T' o xs:=p3.trans hk0
  have hkill:kill k0 (q.2++env)=q.2++env:=age fun u hu=>by
   rcases eu.1 hu with hu | hu
   ·exact p2 k0 u hu
   ·exact hn k0 rfl u hu
  have h1:placeOf (q.2++env) k0=some (k0,[]):=by unfold placeOf; rw [hl]
  have h2:bC (q.2++env) k0 []=some ⟨wr,e',T',o,xs⟩:=by unfold bC; rw [hl]
  have h3:vv (q.2++env) k0 []=some ((k0,.dead)::(q.2++env)):=by unfold vv; rw [hl,hkill]
  have h4:free ((k0,.dead)::(q.2++env)) d=true:=by
   cases hd:d with
   | none=>rfl
   | some d'=>
     subst hd
     simp only [aB,apart,dX,beq_eq_false_iff_ne] at hc
     simp only [free] at hf ⊢
     rw [bm,if_neg (b9 hc.1.1),p4 d' rfl]; exact hf
  simp only [step,p1,ah,hys,h1,h2,hxs,h3,hc,if_pos hle,mw h4,bX,dQ]
 case hN f p args=>
  simp only [gG] at h
  rw [Rd.run_bind,te] at h
  obtain ⟨es,hes,h⟩:=av.1 h
  rw [Rd.run_bind] at h
  obtain ⟨u,hu,h⟩:=av.1 h
  have hfr:=Rk args hu
  rw [Rd.run_bind] at h
  obtain ⟨⟨⟨s,q⟩,e⟩,hq,h⟩:=av.1 h
  obtain ⟨hp1,hp2⟩:=ayk hq
  simp only at h hp1 hp2
  split at h
  case h_2=>simp [Rd.bh] at h
  split at h
  case h_2=>simp [Rd.bh] at h
  rename_i T o x
  rw [Rd.dy] at h
  split at h
  case isFalse=>simp [Rd.bh] at h
  rename_i hc
  simp only [aB] at hc
  rw [Rd.run_bind,Rd.HW] at h
  obtain ⟨res,hres,h⟩:=av.1 h
  rw [Rd.run_bind,Rd.er] at h
  obtain ⟨y,hy,h⟩:=av.1 h
  cases h
  have hf2:free ((s,.loc T y.1 y.2.1)::env) d=true:=by
   cases hd:d with
   | none=>rfl
   | some d'=>
     subst hd
     simp only [apart,dX,beq_eq_false_iff_ne] at hc
     simp only [free] at hf ⊢
     rw [bm,if_neg (b9 hc.1.2)]; exact hf
  simp only [step,hp1,ah,hes,hc.1.1,hc.1.2,Bool.and_self,hfr,hp2,aH.eqn,hres,hy,lv,hc.2,mw hf2,bX,dQ,eC]
 case vU f args=>
  simp only [gG] at h
  rw [Rd.run_bind,te] at h
  obtain ⟨es,hes,h⟩:=av.1 h
  rw [Rd.run_bind,Rd.HW] at h
  obtain ⟨res,hres,h⟩:=av.1 h
  rw [Rd.run_bind] at h
  obtain ⟨e,he,h⟩:=av.1 h
  obtain ⟨rfl,h2⟩:=ahk he
  cases h
  have h3:rO d (one d (eI res)++env)=rO d (one d (eI res))++env:=by cases d<;>rfl
  simp only [step,aH.eqn,hes,hres,ah,h2,mw hf,h3]
 all_goals exact pure h
end
def mX (l:List Nat) (k:Nat):Bool:=l.any fun j=>j==k
theorem sE {l:List Nat} {k:Nat}:mX l k=true↔k∈l:=by simp [mX]
def agY (ops:Array Oper) (l:List DI) (j:Nat) (i:DI):Bool:=
 match ops[j]? with
 | some o=>(o.after.toList.all fun e=>!Region.binds .any e || decide (e.on < j))&&
   i.pre.all fun p=>decide (p < j)&&o.after.toList.any fun e=>Region.binds .any e&&(e.on==p || (match l[e.on]? with | some u=>mX u.pre p | none=>false))
 | none=>false
def ag2 (i j:Nat) (a b:DI):Bool:=i==j || mX a.pre j || mX b.pre i || (!a.piv&&!b.piv&&b.wr.all fun k=>mX a.hide k&&!mX a.wr k)
def sT:List DI→List Nat
 | i::_=>i.safe
 | []=> []
def okE (l:List DI) (i:DI):Bool:=i.safe==sT l&&(i.piv || match Pa i.ai.op with | some k=>mX i.safe k | none=>true)
def ve (P:Program) (n:Nat) (ops:Array Oper) (l:List DI):Bool:=
 P.follows .mixedOrders&&nf P n ops 0 (l.map (·.ai))&&
 (l.zipIdx.all fun q=>agY ops l q.2 q.1&&(match q.1.ai.dst with | some d=>mX q.1.wr d | none=>true)&&(!q.1.piv || q.1.ai.guard.isNone)&&okE l q.1)&&
 l.zipIdx.all fun q=>l.zipIdx.all fun u=>ag2 q.2 u.2 q.1 u.1
theorem Sm {α:Type} {l:List α} {i:Nat} {x:α} (h:l[i]?=some x):(x,i)∈l.zipIdx:=by
 rw [List.mem_zipIdx_iff_getElem?]; exact h
theorem ag1 {P:Program} {n:Nat} {ops:Array Oper}:∀ (l:List AI) (j:Nat),nf P n ops j l=true→j+l.length=ops.size∧∀ (m:Nat) (i:AI),l[m]?=some i→∃ o,ops[j+m]?=some o∧nd ops o.guard i.guard=true∧lT P n o i=true
 | [],j,h=>by simp only [nf,beq_iff_eq] at h; exact ⟨by simpa using h,fun m i hm=>by simp at hm⟩
 | i::r,j,h=>by
   simp only [nf,aB] at h
   obtain ⟨h1,h2⟩:=h
   obtain ⟨h3,h4⟩:=ag1 r (j+1) h2
   refine ⟨by simp only [List.length_cons]; omega,fun m i' hm=>?_⟩
   cases m with
   | zero=>
     simp only [im,az] at hm
     subst hm
     split at h1
     ·rename_i o ho
      simp only [aB] at h1
      exact ⟨o,by simpa using ho,h1.1,h1.2⟩
     ·simp at h1
   | succ m=>
     simp only [List.getElem?_cons_succ] at hm
     obtain ⟨o,ho,h5⟩:=h4 m i' hm
     exact ⟨o,by rw [←ho]; congr 1; omega,h5⟩
theorem adK {α:Type} {p q:α→Bool}:∀ {l:List α},(∀ x∈l,p x=true→q x=true)→(∃ x∈l,q x=true∧p x=false)→l.countP p < l.countP q
 | [],_,h=>by obtain ⟨x,hx,_⟩:=h; simp at hx
 | y::l,h1,h2=>by
   have hle:l.countP p≤l.countP q:=List.countP_mono_left fun x hx=>h1 x (oG _ hx)
   rw [s4,s4]
   by_cases hy:q y=true∧p y=false
   ·simp only [hy.1,hy.2,if_true,bA,if_false]; omega
   ·have h3:∃ x∈l,q x=true∧p x=false:=by
     obtain ⟨x,hx,hq⟩:=h2
     rcases dG.1 hx with rfl | hx
     ·exact absurd hq hy
     ·exact ⟨x,hx,hq⟩
    have:=adK (fun x hx=>h1 x (oG _ hx)) h3
    have h4:(if p y=true then 1 else 0)≤(if q y=true then 1 else 0):=by
     split
     ·rw [if_pos (h1 y (by simp) (by assumption))]; exact Nat.le_refl _
     ·split<;>omega
    omega
section
variable {P:Program} {B:Nat} {G0:Nat→Nat→Prop} {W0:dF} {n:Nat} {cl:aH}
variable {R:Type} {r:R} {Q:Exit→Act→World→Prop}
def jU (cl:aH) (i:DI) (L:Nat→E) (δ:Ch):Prop:=
 match i.ai.guard with
 | none=>(gG cl i.ai.dst i.ai.op).run (hid i.hide L)=some δ
 | some (s,pol)=>(hid i.hide L s=.v .bool pol∧(gG cl i.ai.dst i.ai.op).run (hid i.hide L)=some δ)∨
   ((hid i.hide L s=.v .bool (!pol)∨hid i.hide L s=.cn)∧δ=one i.ai.dst .cn)
structure Text (cl:aH) (l:List DI) (env0:Env) (D:Nat→Ch) (T:Nat→Env):Prop where
 start:T 0=env0
 next:∀ m k,look (T (m+1)) k=look (D m++T m) k
 at':∀ (m:Nat) (i:DI),l[m]?=some i→i.piv=false→jU cl i (look (T m)) (D m)∧free (T m) i.ai.dst=true∧∀ k∈(D m).ks,k∈i.wr
 piv:∀ (m:Nat) (i:DI),l[m]?=some i→i.piv=true→step cl i.ai (T m) (some:dn Env)=some (T (m+1))
 out:∀ m,l[m]?=none→D m=[]
 safe:∀ (m:Nat) (i:DI),l[m]?=some i→∀ s∈i.safe,(∀ q∈T m,leads s q.2=false)∧(∀ q∈D m,leads s q.2=false)∧∀ q∈T (m+1),leads s q.2=false
theorem agM {δ:Ch} {e1 e2:Env} (h:∀ k,look e1 k=look e2 k) (k:Nat):look (δ++e1) k=look (δ++e2) k:=by
 by_cases hk:k∈Ch.ks δ
 ·rw [HK hk,HK hk]
 ·rw [u7 hk,u7 hk,h]
theorem Text.cons {l:List DI} {i:DI} {env0 env':Env} {δ:Ch} {D:Nat→Ch} {T:Nat→Env} (ht:Text cl l (δ++env') D T) (he:∀ k,look env' k=look env0 k) (hp:i.piv=false) (hd:jU cl i (look env0) δ) (hw:okW i env0 δ=true) (hnl:∀ s∈i.safe,∀ q∈env',leads s q.2=false):
  Text cl (i::l) env0 (fun m=>match m with | 0=>δ | m+1=>D m) (fun m=>match m with | 0=>env0 | m+1=>T m):=by
 simp only [okW,ow,aB,gl,dX] at hw
 obtain ⟨hw,hsf⟩:=hw
 refine ⟨rfl,fun m k=>?_,fun m i' hm hpi=>?_,fun m i' hm hpi=>?_,fun m hm=>?_,fun m i' hm s hs=>?_⟩
 ·cases m with
  | zero=>simp only [ht.start]; exact agM he k
  | succ m=>exact ht.next m k
 ·cases m with
  | zero=>
    simp only [im,az] at hm
    subst hm
    refine ⟨hd,hw.1,fun k hk=>?_⟩
    obtain ⟨q,hq,rfl⟩:=ew.1 hk
    exact sE.1 (hw.2 q hq)
  | succ m=>exact ht.at' m i' (by simpa using hm) hpi
 ·cases m with
  | zero=>
    simp only [im,az] at hm
    subst hm
    rw [hp] at hpi; cases hpi
  | succ m=>exact ht.piv m i' (by simpa using hm) hpi
 ·cases m with
  | zero=>simp at hm
  | succ m=>exact ht.out m (by simpa using hm)
 ·cases m with
  | zero=>
    simp only [im,az] at hm
    subst hm
    refine ⟨fun q hq=>hsf s hs q (iq _ hq),fun q hq=>hsf s hs q (gJ _ hq),fun q hq=>?_⟩
    simp only [ht.start] at hq
    rcases eu.1 hq with hq | hq
    ·exact hsf s hs q (gJ _ hq)
    ·exact hnl s hs q hq
  | succ m=>exact ht.safe m i' (by simpa using hm) s hs
def Dt (env' env:Env):Ch:=env'++env.map fun q=>(q.1,look env' q.1)
theorem avF (env' env:Env) (k:Nat):look (Dt env' env++env) k=look env' k:=by
 unfold Dt
 by_cases h1:k∈Ch.ks env'
 ·rw [bX,HK h1]
 ·rw [bX,u7 h1]
  have hd:look env' k=.dead:=by
   have:=u7 (env:=[]) h1
   rw [fZ] at this
   exact this
  have key:∀ (e2:Env),look (e2.map (fun q=>(q.1,look env' q.1))++env) k=if k∈Ch.ks e2 then look env' k else look env k:=by
   intro e2
   induction e2 with
   | nil=>simp [Ch.ks]
   | cons q e2 ih=>
     rw [fG,dQ,bm]
     by_cases hq:q.1=k
     ·rw [if_pos hq,hq]; simp [Ch.ks,hq]
     ·have hk:k∈Ch.ks (q::e2)↔k∈Ch.ks e2:=by simp [Ch.ks,b9 hq]
      rw [if_neg hq,ih]
      by_cases h3:k∈Ch.ks e2
      ·rw [if_pos h3,if_pos (hk.2 h3)]
      ·rw [if_neg h3,if_neg (fun h=>h3 (hk.1 h))]
  rw [key]
  split
  ·rfl
  ·rename_i h2
   have:=u7 (env:=[]) h2
   rw [fZ] at this
   rw [hd,this]; rfl
theorem agQ {s:Nat}:∀ {env:Env},(∀ q∈env,leads s q.2=false)→∀ k,leads s (look env k)=false
 | [],_,k=>rfl
 | q::env,h,k=>by
   rw [bm]
   split
   ·exact h q (oH ..)
   ·exact agQ (fun q' hq=>h q' (oG _ hq)) k
theorem Text.aiL {l:List DI} {i:DI} {env0 env':Env} {D:Nat→Ch} {T:Nat→Env} (ht:Text cl l env' D T) (hp:i.piv=true) (hs:step cl i.ai env0 (some:dn Env)=some env') (hw0:ow i env0=true) (hw1:ow i env'=true):
  Text cl (i::l) env0 (fun m=>match m with | 0=>Dt env' env0 | m+1=>D m) (fun m=>match m with | 0=>env0 | m+1=>T m):=by
 simp only [ow,gl,dX] at hw0 hw1
 refine ⟨rfl,fun m k=>?_,fun m i' hm hpi=>?_,fun m i' hm hpi=>?_,fun m hm=>?_,fun m i' hm s hs=>?_⟩
 ·cases m with
  | zero=>simp only [ht.start]; exact (avF env' env0 k).symm
  | succ m=>exact ht.next m k
 ·cases m with
  | zero=>
    simp only [im,az] at hm
    subst hm
    rw [hp] at hpi; cases hpi
  | succ m=>exact ht.at' m i' (by simpa using hm) hpi
 ·cases m with
  | zero=>
    simp only [im,az] at hm
    subst hm
    simp only [ht.start]; exact hs
  | succ m=>exact ht.piv m i' (by simpa using hm) hpi
 ·cases m with
  | zero=>simp at hm
  | succ m=>exact ht.out m (by simpa using hm)
 ·cases m with
  | zero=>
    simp only [im,az] at hm
    subst hm
    refine ⟨hw0 s hs,fun q hq=>?_,fun q hq=>?_⟩
    ·simp only [Dt] at hq
     rcases eu.1 hq with hq | hq
     ·exact hw1 s hs q hq
     ·obtain ⟨u,hu,rfl⟩:=ew.1 hq
      exact agQ (hw1 s hs) _
    ·simp only [ht.start] at hq
     exact hw1 s hs q hq
  | succ m=>exact ht.safe m i' (by simpa using hm) s hs
theorem EW {K:dn R}:∀ (l:List DI) (env0:Env),hR cl l env0 K=some r→∃ D T,Text cl l env0 D T∧K (T l.length)=some r
 | [],env0,h=>⟨fun _=> [],fun _=>env0,⟨rfl,fun _ _=>rfl,fun m i hm=>by simp at hm,fun m i hm=>by simp at hm,fun _ _=>rfl,fun m i hm=>by simp at hm⟩,h⟩
 | i::l,env0,h=>by
   simp only [hR] at h
   cases hpv:i.piv with
   | true=>
     rw [hpv] at h
     simp only at h
     split at h
     case h_2=>simp at h
     rename_i hw0
     rw [Sf] at h
     obtain ⟨env',h1,h2⟩:=av.1 h
     split at h2
     case h_2=>simp at h2
     rename_i hw1
     obtain ⟨D,T,ht,hk⟩:=EW l _ h2
     exact ⟨_,_,ht.aiL hpv h1 hw0 hw1,hk⟩
   | false=>
   rw [hpv] at h
   simp only at h
   have yes:∀ env',(∀ k,look env' k=look env0 k)→(∀ s,(∀ q∈env0,leads s q.2=false)→∀ q∈env',leads s q.2=false)→(∀ δ,(gG cl i.ai.dst i.ai.op).run (hid i.hide (look env0))=some δ→jU cl i (look env0) δ)→
     ((gG cl i.ai.dst i.ai.op).runK (hid i.hide (look env0)) fun δ=>match okW i env0 δ with
      | true=>hR cl l (δ++env') K
      | false=>none)=some r→∃ D T,Text cl (i::l) env0 D T∧K (T (i::l).length)=some r:=by
    intro env' he hnl hd h
    rw [Rd.eqn] at h
    obtain ⟨δ,hδ,h⟩:=av.1 h
    split at h
    ·rename_i hc
     obtain ⟨D,T,ht,hk⟩:=EW l _ h
     have hc2:=hc
     simp only [okW,ow,aB,gl,dX] at hc2
     exact ⟨_,_,ht.cons he hpv (hd δ hδ) hc (fun s hs=>hnl s fun q hq=>hc2.2 s hs q (iq _ hq)),hk⟩
    ·simp at h
   have nope:∀ env',(∀ k,look env' k=look env0 k)→(∀ s,(∀ q∈env0,leads s q.2=false)→∀ q∈env',leads s q.2=false)→jU cl i (look env0) (one i.ai.dst .cn)→
     (match okW i env0 (one i.ai.dst .cn) with
      | true=>hR cl l (one i.ai.dst .cn++env') K
      | false=>none)=some r→∃ D T,Text cl (i::l) env0 D T∧K (T (i::l).length)=some r:=by
    intro env' he hnl hd h
    split at h
    ·rename_i hc
     obtain ⟨D,T,ht,hk⟩:=EW l _ h
     have hc2:=hc
     simp only [okW,ow,aB,gl,dX] at hc2
     exact ⟨_,_,ht.cons he hpv hd hc (fun s hs=>hnl s fun q hq=>hc2.2 s hs q (iq _ hq)),hk⟩
    ·simp at h
   cases hg:i.ai.guard with
   | none=>
     rw [hg] at h
     exact yes env0 (fun _=>rfl) (fun _ h=>h) (fun δ hδ=>by simp only [jU,hg]; exact hδ) h
   | some q=>
     obtain ⟨s,pol⟩:=q
     rw [hg] at h
     simp only at h
     split at h
     ·rename_i b hs
      have hls:look env0 s=.v .bool b:=by
       unfold hid at hs
       split at hs
       ·cases hs
       ·exact hs
      have he:∀ k,look ((s,.v .bool b)::env0) k=look env0 k:=by
       intro k
       rw [bm]
       split
       ·rename_i e; subst e; exact hls.symm
       ·rfl
      have hee:∀ u,(∀ q∈env0,leads u q.2=false)→∀ q∈(s,.v .bool b)::env0,leads u q.2=false:=by
       intro u hu q hq
       rcases dG.1 hq with rfl | hq
       ·rfl
       ·exact hu q hq
      have y2:b=pol→∀ δ,(gG cl i.ai.dst i.ai.op).run (hid i.hide (look env0))=some δ→jU cl i (look env0) δ:=by
       intro e δ hδ; simp only [jU,hg]; exact .inl ⟨by rw [hs,e],hδ⟩
      have n2:b=!pol→jU cl i (look env0) (one i.ai.dst .cn):=by
       intro e; simp only [jU,hg]; exact .inr ⟨.inl (by rw [hs,e]),trivial⟩
      cases b with
      | true=>
        simp only [al] at h
        cases pol with
        | true=>exact yes _ he hee (y2 rfl) h
        | false=>exact nope _ he hee (n2 rfl) h
      | false=>
        simp only [al] at h
        cases pol with
        | true=>exact nope _ he hee (n2 rfl) h
        | false=>exact yes _ he hee (y2 rfl) h
     ·rename_i hs
      exact nope env0 (fun _=>rfl) (fun _ h=>h) (by simp only [jU,hg]; exact .inr ⟨.inr hs,trivial⟩) h
     ·simp at h
theorem Text.inv {l:List DI} {env0:Env} {D:Nat→Ch} {T:Nat→Env} (h:Text cl l env0 D T):∀ m,Inv D env0 (fun j=>j < m) (T m)
 | 0=>by rw [h.start]; exact Inv.start fun m=>by omega
 | m+1=>by
   refine Inv.ext ?_ (h.next m)
   refine (Inv.add (i:=m) (h.inv m) (fun k _ m' h1 h2=>by omega)).set fun j=>?_
   constructor
   ·rintro (h | rfl)<;>omega
   ·intro h; by_cases hj:j=m
    ·exact .inr hj
    ·exact .inl (by omega)
theorem ano {l:List Nat} {L L':Nat→E} (h:∀ k,k∉l→L k=.dead∨L' k=L k):Sub (hid l L) L':=by
 intro k
 unfold hid
 split
 ·exact .inl rfl
 ·rename_i hk
  exact h k (fun hm=>by rw [←sE] at hm; simp only [mX] at hm; rw [hm] at hk; cases hk)
theorem aiu (hgood:Good P W0.t cl) {ops:Array Oper} {l:List DI} (hok:ve P n ops l=true) (hz:W0.pin=none∨(l.all fun i=>qj i.ai)=true) {env0:Env} {D:Nat→Ch} {T:Nat→Env} (ht:Text cl l env0 D T):
  ∀ (fuel:Nat) (listed:Array Bool) (env:Env) (a:Act) (w:World) (ob:Nat→OB),listed.size=ops.size→(List.range ops.size).countP (fun i=>!listed.getD i true)≤fuel→
    (∀ (i:Nat) (di:DI),l[i]?=some di→listed.getD i false=true→∀ p∈di.pre,listed.getD p false=true)→
    Inv D env0 (fun m=>listed.getD m false=true) env→(∀ s∈sT l,∀ q∈env,leads s q.2=false)→ar P B G0 W0 n env a.tmps w ob→
    (∀ env' tm' w' ob',ar P B G0 W0 n env' tm' w' ob'→(∀ k,look env' k=look (T l.length) k)→Q .normal {a with tmps:=tm'} w')→
    wpAny P .any ops Q fuel listed a w:=by
 simp only [ve,aB,gl] at hok
 obtain ⟨⟨⟨_,h1⟩,h2⟩,h3⟩:=hok
 obtain ⟨hlen,hget⟩:=ag1 _ _ h1
 simp only [Nat.zero_add,List.length_map] at hlen hget
 have hedge:∀ (i:Nat) (di:DI),l[i]?=some di→∃ o,ops[i]?=some o∧nd ops o.guard di.ai.guard=true∧lT P n o di.ai=true∧(∀ e∈o.after,Region.binds .any e=true→e.on < i)∧
   (∀ p∈di.pre,p < i∧∃ e∈o.after,Region.binds .any e=true∧(e.on=p∨∃ u,l[e.on]?=some u∧p∈u.pre))∧(∀ d,di.ai.dst=some d→d∈di.wr)∧(di.piv=true→di.ai.guard=none)∧di.safe=sT l∧(di.piv=false→∀ k,Pa di.ai.op=some k→k∈sT l):=by
  intro i di hi
  obtain ⟨o,ho,hg,ha⟩:=hget i di.ai (by rw [oF,hi]; rfl)
  have:=h2 _ (Sm hi)
  simp only [aB] at this
  obtain ⟨⟨⟨he,hd⟩,hpg⟩,hse⟩:=this
  simp only [okE,aB,beq_iff_eq] at hse
  simp only [agY,ho,aB,gl,Su,dX,decide_eq_true_eq,List.any_eq_true,Array.mem_toList_iff] at he
  refine ⟨o,ho,hg,ha,fun e hm hb=>?_,fun p hp=>⟨(he.2 p hp).1,?_⟩,fun d hd'=>?_,fun hp=>by rw [hp] at hpg; simpa using hpg,hse.1,fun hp k hk=>by
   have h5:=hse.2
   rw [hp,hk] at h5
   rw [←hse.1]; exact sE.1 (by simpa using h5)⟩
  ·rcases he.1 e hm with h | h
   ·rw [h] at hb; cases hb
   ·exact h
  ·obtain ⟨e,hm,hb,hc⟩:=(he.2 p hp).2
   refine ⟨e,hm,hb,?_⟩
   rcases hc with hc | hc
   ·exact .inl (by simpa using hc)
   ·right
    split at hc
    ·rename_i u hu; exact ⟨u,hu,sE.1 hc⟩
    ·simp at hc
  ·rw [hd'] at hd; exact sE.1 hd
 have hpair:∀ (i j:Nat) (di dj:DI),l[i]?=some di→l[j]?=some dj→i≠j→j∉di.pre→i∉dj.pre→di.piv=false∧dj.piv=false∧∀ k∈dj.wr,k∈di.hide∧k∉di.wr:=by
  intro i j di dj hi hj hne hp1 hp2
  have:=h3 _ (Sm hi) _ (Sm hj)
  simp only [ag2,Su,beq_iff_eq,gl,aB,dX,sE] at this
  rcases this with ((h | h) | h) | h
  ·exact absurd h hne
  ·exact absurd h hp1
  ·exact absurd h hp2
  ·refine ⟨h.1.1,h.1.2,fun k hk=>⟨(h.2 k hk).1,fun hw=>?_⟩⟩
   have:=(h.2 k hk).2
   rw [←sE,this] at hw; cases hw
 intro fuel
 induction fuel with
 | zero=>
   intro listed env a w ob hsz hcount hcl hinv hnl hC hK
   have hno:∀ j,j < ops.size→listed.getD j true=true:=by
    intro j hj
    have:=List.countP_eq_zero.1 (Nat.le_zero.1 hcount) j (oI.2 hj)
    simpa using this
   refine ⟨?_,hK env a.tmps w ob hC fun k=>hinv.same (ht.inv l.length) fun m hm=>?_⟩
   ·cases hr:Region.ready .any ops listed with
    | nil=>rfl
    | cons j js=>
      have hj:j∈Region.ready .any ops listed:=by rw [hr]; simp
      obtain ⟨h4,o,ho,_⟩:=mem_ready.1 hj
      rw [hno j (Df.1 ho).1] at h4; cases h4
   ·have hlt:m < l.length:=by
     rcases Nat.lt_or_ge m l.length with h | h
     ·exact h
     ·rw [ht.out m (List.getElem?_eq_none h)] at hm; simp [Ch.ks] at hm
    refine ⟨fun _=>hlt,fun _=>?_⟩
    have:=hno m (by omega)
    have hms:m < listed.size:=by omega
    simpa [hms] using this
 | succ fuel ih=>
   intro listed env a w ob hsz hcount hcl hinv hnl hC hK
   refine ⟨fun hr=>?_,fun i hi=>?_⟩
   ·have hall:∀ N j,j < N→j < ops.size→listed.getD j true=true:=by
     intro N
     induction N with
     | zero=>intro j hj; omega
     | succ N ihN=>
       intro j hj hjs
       by_cases hl:listed.getD j true=true
       ·exact hl
       ·exfalso
        obtain ⟨o,ho,_,_,he,_,_,_,_,_⟩:=hedge j (l[j]'(by omega)) (fr (by omega))
        have:j∈Region.ready .any ops listed:=mem_ready.2 ⟨by simpa using hl,o,ho,fun e hm hb=>by
         have h5:=he e hm hb
         have h6:=ihN e.on (by omega) (by omega)
         have:e.on < listed.size:=by omega
         simpa [this] using h6⟩
        rw [hr] at this; simp at this
    refine hK env a.tmps w ob hC fun k=>hinv.same (ht.inv l.length) fun m hm=>?_
    have hlt:m < l.length:=by
     rcases Nat.lt_or_ge m l.length with h | h
     ·exact h
     ·rw [ht.out m (List.getElem?_eq_none h)] at hm; simp [Ch.ks] at hm
    refine ⟨fun _=>hlt,fun _=>?_⟩
    have:=hall (m+1) m (by omega) (by omega)
    have hms:m < listed.size:=by omega
    simpa [hms] using this
   ·obtain ⟨hun,o,ho,hrd⟩:=mem_ready.1 hi
    have hlt:i < ops.size:=(Df.1 ho).1
    obtain ⟨di,hdi⟩:∃ di,l[i]?=some di:=⟨_,fr (by omega)⟩
    obtain ⟨o',ho',hg,hai,he,hpre,hdw,hpg,hsf,het⟩:=hedge i di hdi
    rw [ho] at ho'; cases ho'
    have hunf:listed.getD i false=false:=by
     have hms:i < listed.size:=by omega
     simpa [hms] using hun
    have hpl:∀ p∈di.pre,listed.getD p false=true:=by
     intro p hp
     obtain ⟨_,e,hm,hb,hc⟩:=hpre p hp
     have hon:=hrd e hm hb
     rcases hc with rfl | ⟨u,hu,hc⟩
     ·exact hon
     ·exact hcl e.on u hu hon p hc
    have wrof:∀ m k,k∈(D m).ks→∃ dm,l[m]?=some dm∧(dm.piv=false→k∈dm.wr):=by
     intro m k hk
     cases hm:l[m]? with
     | none=>rw [ht.out m hm] at hk; simp [Ch.ks] at hk
     | some dm=>exact ⟨dm,rfl,fun hp=>(ht.at' m dm hm hp).2.2 k hk⟩
    have agree:∀ k,(di.piv=true∨k∉di.hide∨k∈di.wr)→look env k=look (T i) k:=by
     intro k hk
     refine hinv.same (ht.inv i) fun m hm=>?_
     obtain ⟨dm,hdm,hw⟩:=wrof m k hm
     by_cases hmi:m=i
     ·subst hmi; rw [hunf]; simp
     ·by_cases hp1:m∈di.pre
      ·exact ⟨fun _=>(hpre m hp1).1,fun _=>hpl m hp1⟩
      ·by_cases hp2:i∈dm.pre
       ·obtain ⟨_,_,_,_,_,hpm,_,_,_,_⟩:=hedge m dm hdm
        have:=(hpm i hp2).1
        refine ⟨fun hs=>?_,fun hl=>by omega⟩
        have:=hcl m dm hdm hs i hp2
        rw [hunf] at this; cases this
       ·obtain ⟨hv1,hv2,this⟩:=hpair i m di dm hdi hdm (b9 hmi) hp1 hp2
        have this:=this k (hw hv2)
        rcases hk with hk | hk | hk
        ·rw [hv1] at hk; cases hk
        ·exact absurd this.1 hk
        ·exact absurd hk this.2
    -- behind it
    have behind:∀ (env':Env) (tm':Array Value) (w':World) (ob':Nat→OB),ar P B G0 W0 n env' tm' w' ob'→(∀ k,look env' k=look (D i++env) k)→(∀ s∈sT l,∀ q∈env',leads s q.2=false)→wpAny P .any ops Q fuel (listed.setIfInBounds i true) {a with tmps:=tm'} w':=by
     intro env' tm' w' ob' hC' hl' hn'
     have hset:∀ m,(listed.setIfInBounds i true).getD m false=true↔(listed.getD m false=true∨m=i):=by
      intro m
      by_cases hm:m=i
      ·subst hm
       have hms:m < listed.size:=by omega
       simp [hms]
      ·rw [getD_set_ne false (b9 hm)]
       simp [hm]
     refine ih _ env' {a with tmps:=tm'} w' ob' (by simpa using hsz) ?_ ?_ ?_ hn' hC' (fun e2 t2 w2 o2 h4 h5=>hK e2 t2 w2 o2 h4 h5)
     ·have:=adK (p:=fun j=>!(listed.setIfInBounds i true).getD j true) (q:=fun j=>!listed.getD j true) (l:=List.range ops.size) (fun x hx hp=>by
       by_cases hxi:x=i
       ·subst hxi
        have hms:x < listed.size:=by omega
        simp [hms] at hp
       ·rw [getD_set_ne true (b9 hxi)] at hp; exact hp) ⟨i,oI.2 hlt,by simpa using hun,by
        have hms:i < listed.size:=by omega
        simp [hms]⟩
      omega
     ·intro m dm hm hs p hp
      rw [hset] at hs ⊢
      rcases hs with hs | rfl
      ·exact .inl (hcl m dm hm hs p hp)
      ·rw [hdi] at hm; cases hm
       exact .inl (hpl p hp)
     ·have hadd:=Inv.add (i:=i) hinv (fun k hk m' hm' hs hk'=>by
       obtain ⟨dm,hdm,hw'⟩:=wrof m' k hk'
       by_cases hp2:i∈dm.pre
       ·have:=hcl m' dm hdm hs i hp2
        rw [hunf] at this; cases this
       ·have hp1:m'∉di.pre:=fun hp=>by have:=(hpre m' hp).1; omega
        obtain ⟨hv1,hv2,hv3⟩:=hpair i m' di dm hdi hdm (by omega) hp1 hp2
        exact (hv3 k (hw' hv2)).2 ((ht.at' i di hdi hv1).2.2 k hk))
      intro k
      rcases (hadd.set fun m=>(hset m).symm) k with h | h
      ·left
       obtain ⟨m,g1,g2,g3,g4⟩:=h
       exact ⟨m,g1,g2,g3,by rw [hl' k]; exact g4⟩
      ·exact .inr ⟨h.1,by rw [hl' k]; exact h.2⟩
    have hz1:W0.pin=none∨di.ai.dst≠some 0:=hz.imp id fun h=>agU (gl.1 h di (List.mem_of_getElem? hdi))
    have hdst0:di.ai.dst=o.dst:=by simp only [lT,aB,decide_eq_true_eq] at hai; exact hai.1.1
    have hd:∀ k,o.dst=some k→bH W0 n k:=by
     simp only [lT,aB,decide_eq_true_eq] at hai
     intro k hk
     have:=hai.1.2
     rw [hk] at this; exact ⟨by simpa using this,hz1.imp id fun h e=>h (by rw [hdst0,hk,e])⟩
    cases hpv:di.piv with
    | true=>
      have hwant:Region.wanted o (yielded ops a.tmps)=true:=by
       have hig:=hpg hpv
       cases hog:o.guard with
       | none=>simp [Region.wanted,hog]
       | some q=>rw [hog,hig] at hg; simp [nd] at hg
      obtain ⟨ob1,hC1⟩:=ar.ext hC (env':=T i) fun k=>(agree k (.inl hpv)).symm
      unfold wpOp
      simp only [ho]
      rw [if_pos hwant]
      refine .inl (H9 (R:=Env) (r:=T (i+1)) hgood hC1 (fun env' tm' w' ob' hC' hk=>?_) hai hz1 (ht.piv i di hdi hpv))
      cases hk
      exact behind _ tm' w' ob' hC' (fun k=>(ht.next i k).trans (agM (fun k=>(agree k (.inl hpv)).symm) k)) (fun s hs=>(ht.safe i di hdi s (by rw [hsf]; exact hs)).2.2)
    | false=>
    obtain ⟨hd1,hd2,hd3⟩:=ht.at' i di hdi hpv
    have hsub:Sub (hid di.hide (look (T i))) (look env):=ano fun k hk=>.inr (agree k (.inr (.inl hk)))
    have hfree:free env di.ai.dst=true:=by
     cases hdd:di.ai.dst with
     | none=>rfl
     | some d=>
       rw [hdd] at hd2
       simp only [free] at hd2 ⊢
       rw [agree d (.inr (.inr (hdw d hdd)))]; exact hd2
    have hn2:∀ s∈sT l,∀ q∈D i++env,leads s q.2=false:=by
     intro s hs q hq
     rcases eu.1 hq with hq | hq
     ·exact (ht.safe i di hdi s (by rw [hsf]; exact hs)).2.1 q hq
     ·exact hnl s hs q hq
    have hdst:di.ai.dst=o.dst:=by simp only [lT,aB,decide_eq_true_eq] at hai; exact hai.1.1
    have yes:(gG cl di.ai.dst di.ai.op).run (hid di.hide (look (T i)))=some (D i)→o.wp P a w (wpAny P .any ops Q fuel (listed.setIfInBounds i true)) Q:=by
     intro hw
     have hw2:=(gG cl di.ai.dst di.ai.op).mono _ _ _ hsub hw
     have hst:step cl di.ai env (some:dn Env)=some (D i++env):=aNa (g:=di.ai.guard) hw2 hfree (fun s hs=>hnl s (het hpv s hs))
     exact H9 (R:=Env) (r:=D i++env) hgood hC (fun env' tm' w' ob' hC' hk=>by
      cases hk; exact behind _ tm' w' ob' hC' (fun _=>rfl) hn2) hai hz1 hst
    have nope:D i=one di.ai.dst .cn→wpAny P .any ops Q fuel (listed.setIfInBounds i true) (a.put o.dst undef) w:=by
     intro hD
     obtain ⟨ob',hC'⟩:=ar.aX (e:=.cn) (v:=undef) hC hd (aY.refl w) ⟨rfl,rfl⟩ a rfl
     have:=behind _ _ w ob' hC' (fun k=>by rw [←hdst,mw hfree,hD]) (by rw [←hdst,mw hfree,←hD]; exact hn2)
     have e:({a with tmps:=(a.put o.dst undef).tmps}:Act)=a.put o.dst undef:=by cases o.dst<;>rfl
     rw [e] at this; exact this
    unfold wpOp
    simp only [ho]
    cases hog:o.guard with
    | none=>
      cases hig:di.ai.guard with
      | some q=>rw [hog,hig] at hg; simp [nd] at hg
      | none=>
        simp only [jU,hig] at hd1
        have hw:Region.wanted o (yielded ops a.tmps)=true:=by simp [Region.wanted,hog]
        rw [if_pos hw]
        exact .inl (yes hd1)
    | some q=>
      obtain ⟨gj,gb⟩:=q
      cases hig:di.ai.guard with
      | none=>rw [hog,hig] at hg; simp [nd] at hg
      | some q'=>
        obtain ⟨s,pol⟩:=q'
        rw [hog,hig] at hg
        simp only [nd,aB,beq_iff_eq] at hg
        obtain ⟨rfl,hg⟩:=hg
        split at hg
        case h_2=>simp at hg
        rename_i og hgj
        simp only [decide_eq_true_eq] at hg
        simp only [jU,hig] at hd1
        have lk:∀ e,hid di.hide (look (T i)) s=e→e≠.dead→look env s=e:=by
         intro e he hne
         rcases hsub s with h | h
         ·rw [h] at he; exact absurd he.symm hne
         ·rw [h,he]
        have wan:∀ b,look env s=.v .bool b→Region.wanted o (yielded ops a.tmps)=(b==gb):=by
         intro b hs2
         have hy:=kept hC hgj hg hs2
         simp only [Region.wanted,hog,hy]
         cases b<;>cases gb<;>rfl
        rcases hd1 with ⟨hs,hd1⟩ | ⟨hs | hs,hd1⟩
        ·rw [wan _ (lk _ hs (by simp))]
         simp only [beq_self_eq_true,if_true]
         exact .inl (yes hd1)
        ·rw [wan _ (lk _ hs (by simp))]
         have:((!gb)==gb)=false:=by cases gb<;>rfl
         rw [this]
         simp only [bA,if_false]
         exact nope hd1
        ·have hy:=agd hC hgj hg (lk _ hs (by simp))
         rw [if_neg (by simp [Region.wanted,hog,hy])]
         exact nope hd1
theorem aiZ (hgood:Good P W0.t cl) {ops:Array Oper} {l:List DI} (hok:ve P n ops l=true) (hz:W0.pin=none∨(l.all fun i=>qj i.ai)=true) {env:Env} {a:Act} {w:World} {ob:Nat→OB} {K:dn R} (hC:ar P B G0 W0 n env a.tmps w ob) (h:hR cl l env K=some r)
  (hK:∀ env' tm' w' ob',ar P B G0 W0 n env' tm' w' ob'→K env'=some r→Q .normal {a with tmps:=tm'} w') {id:Nat}:(Code.region id ops true).wp P Q a w:=by
 have hm:P.follows .mixedOrders=true:=by simp only [ve,aB] at hok; exact hok.1.1.1
 obtain ⟨D,T,ht,hk⟩:=EW l env h
 refine wp_region_any hm ?_
 obtain ⟨ob2,hC2⟩:∃ ob2,ar P B G0 W0 n env a.tmps {w with drawn:=w.drawn+1} ob2:=
  ar.aX (d:=none) (e:=.cn) (v:=undef) (w':={w with drawn:=w.drawn+1}) hC (fun k hk=>by cases hk) ⟨rfl,rfl,rfl,Nat.le_refl _,fun _ _=>rfl⟩ ⟨rfl,rfl⟩ a rfl
 refine aiu hgood hok hz ht _ _ env a _ ob2 (by simp) ?_ ?_ (Inv.start fun m=>?_) ?_ hC2 (fun env' tm' w' ob' hC' hl'=>?_)
 ·exact gv List.countP_le_length (by simp)
 ·intro i di _ hs
  simp only [nv] at hs
  by_cases hi:i < ops.size<;>simp [hi] at hs
 ·intro hs
  simp only [nv] at hs
  by_cases hi:m < ops.size<;>simp [hi] at hs
 ·cases l with
  | nil=>intro s hs; simp [sT] at hs
  | cons i l=>intro s hs; have:=(ht.safe 0 i rfl s hs).1; rwa [ht.start] at this
 ·obtain ⟨ob3,hC3⟩:=ar.ext hC' (env':=T l.length) (fun k=>(hl' k).symm)
  exact hK _ tm' w' ob3 hC3 hk
end
end Go.Fw
