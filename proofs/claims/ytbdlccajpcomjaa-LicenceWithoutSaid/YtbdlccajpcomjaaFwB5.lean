/- Own work: the value machine, part 5. -/
import Derived.Test.YtbdlccajpcomjaaFwB4
import Derived.Test.YtbdlccajpcomjaaFwB3
import Derived.Laws.MakeOwn
import Derived.Test.YtbdlccajpcomjaaFwB1
import Derived.Orders
set_option linter.unusedVariables false
set_option linter.unusedSimpArgs false
/- Soundness: calls that are lent a record, from the caller's side. -/
namespace Go.Fw
open Go Go.RowKit
theorem Flat.lift (P:Program):∀ (T:Ty) {w:World} {G:Nat→Nat→Prop} {B:Nat} {o:Ann} {x:den T} {vs:List Value} {ob:OB},noFnT T=true→(∀ b∈blocks ob,B≤b)→Flat P T w G 0 o x vs ob→Flat P T w G B o x vs ob
 | .int k,_,_,_,_,_,_,_,_,_,h=>by unfold Flat at h ⊢; exact h
 | .bool,_,_,_,_,_,_,_,_,_,h=>by unfold Flat at h ⊢; exact h
 | .str,_,_,_,_,_,_,_,_,_,h=>by unfold Flat at h ⊢; exact h
 | .unit,_,_,_,_,_,_,_,_,_,h=>by unfold Flat at h ⊢; exact h
 | .pair A C,_,_,_,_,_,_,_,hn,hb,h=>by
   simp only [noFnT,Bool.and_eq_true] at hn
   unfold Flat at h ⊢
   obtain ⟨v1,v2,b1,b2,rfl,rfl,h1,h2⟩:=h
   exact ⟨v1,v2,b1,b2,rfl,rfl,Flat.lift P A hn.1 (fun b hb'=>hb b (by simp [hb'])) h1,Flat.lift P C hn.2 (fun b hb'=>hb b (by simp [hb'])) h2⟩
 | .arr n T,_,_,_,_,_,_,_,hn,hb,h=>by
   simp only [noFnT] at hn
   unfold Flat at h ⊢
   exact ⟨h.1,Elems.imp (fun x v b hs hx=>Flat.lift P T hn (fun g hg=>by
    obtain ⟨q,hq,rfl⟩:=List.mem_map.1 hg
    exact hb _ (List.mem_map.2 ⟨q,hs q hq,rfl⟩)) hx) h.2⟩
 | .sl T,w,G,B,o,xs,vs,ob,hn,hb,h=>by
   simp only [noFnT] at hn
   have imm:(ob=[]∧∃ A c,vs=[.slice A xs.length c]∧xs.length≤c∧c≤maxLen∧
    (xs=[]∨∃ b off cells,A=some ⟨b,off,none⟩∧Elems (Flat P T w G 0 .no) xs cells []∧∀ j v,cells[j]?=some v→w.cell? ⟨b,off+j,none⟩=some v∧G b (off+j)))→
    (ob=[]∧∃ A c,vs=[.slice A xs.length c]∧xs.length≤c∧c≤maxLen∧
    (xs=[]∨∃ b off cells,A=some ⟨b,off,none⟩∧Elems (Flat P T w G B .no) xs cells []∧∀ j v,cells[j]?=some v→w.cell? ⟨b,off+j,none⟩=some v∧G b (off+j))):=by
    rintro ⟨h0,A,c,h1,h2,h3,h4⟩
    refine ⟨h0,A,c,h1,h2,h3,?_⟩
    rcases h4 with h4 | ⟨b,off,cells,h5,h6,h7⟩
    ·exact .inl h4
    ·exact .inr ⟨b,off,cells,h5,Elems.imp (fun x v b _ hx=>Flat.up P T (Nat.zero_le _) hx) h6,h7⟩
   cases o with
   | no=>unfold Flat at h ⊢; exact imm h
   | hole=>unfold Flat at h ⊢; exact h
   | pair a b=>unfold Flat at h ⊢; exact imm h
   | own wr e o=>
     unfold Flat at h ⊢
     obtain ⟨v,cells,ob',h1,h2,h3,rfl⟩:=h
     refine ⟨v,cells,ob',h1,⟨h2.1,?_⟩,Elems.imp (fun x v b hs hx=>Flat.lift P T hn (fun g hg=>by
      obtain ⟨q,hq,rfl⟩:=List.mem_map.1 hg
      exact hb _ (by rw [blocks_append]; exact List.mem_append_right _ (List.mem_map.2 ⟨q,hs q hq,rfl⟩))) hx) h3,rfl⟩
     rcases h2.2 with h2 | ⟨g,cap,cur,e',fz,rfl,_,k3⟩
     ·exact .inl h2
     ·exact .inr ⟨g,cap,cur,e',fz,rfl,hb g (by rw [blocks_append]; exact List.mem_append_left _ (List.mem_map.2 ⟨_,mem_obOf rfl,rfl⟩)),k3⟩
 | .fn A C,_,_,_,_,_,_,_,hn,_,_=>by simp [noFnT] at hn
section
variable {P:Program} {B:Nat} {G0:Nat→Nat→Prop} {W0:Base} {n:Nat} {env:Env} {tm:Array Value} {a:Act} {w:World} {ob:Nat→OB} {cl:Cal}
variable {R:Type} {K:Kont R} {r:R} {next:Act→World→Prop} {Q:Exit→Act→World→Prop} {o:Oper} {i:AI}
theorem back_up1 {w':World} {G1 G2:Nat→Nat→Prop} {tm1 tm2:Array Value} {env1 env2:Env} {e:E} {v:Value} {b:OB} (hb:e.back=true) (hB:∀ g∈blocks b,B≤g)
  (hG:∀ b i,b < w'.heap.size→G1 b i→G2 b i) (h:ERep1 P w' G1 0 tm1 env1 e v b):ERep1 P w' G2 B tm2 env2 e v b:=by
 cases e with
 | v T x=>
   obtain ⟨h0,vs,h1,h2⟩:=h
   exact ⟨h0,vs,Flat.mono P T (fun b i hb h=>⟨hG b i hb h,rfl⟩) (Later.refl _ _) (by simp) (Flat.up P T (Nat.zero_le _) h1),h2⟩
 | own wr ed T o xs=>
   simp only [E.back,Bool.and_eq_true] at hb
   have h1:Flat P (.sl T) w' G1 B (.own wr ed o) xs [v] b:=Flat.lift P (.sl T) (by simpa only [noFnT] using hb.1) hB h
   exact Flat.mono P (.sl T) (o:=.own wr ed o) (fun b i hb h=>⟨hG b i hb h,rfl⟩) (Later.refl _ _) (fun _ _=>rfl) h1
 | _=>simp [E.back] at hb
theorem back_up {w':World} {G1 G2:Nat→Nat→Prop} {tm1 tm2:Array Value} {env1 env2:Env} {es:List E} {v:Value} {b:OB} (hb:es.all E.back=true) (hB:∀ g∈blocks b,B≤g)
  (hG:∀ b i,b < w'.heap.size→G1 b i→G2 b i) (h:ERep P w' G1 0 tm1 env1 (resE es) v b):ERep P w' G2 B tm2 env2 (resE es) v b:=by
 have key:∀ {es:List E} {vs:List Value} {b:OB},es.all E.back=true→(∀ g∈blocks b,B≤g)→TupRep (ERep1 P w' G1 0 tm1 env1) es vs b→TupRep (ERep1 P w' G2 B tm2 env2) es vs b:=by
  intro es
  induction es with
  | nil=>intro vs b _ _ h; exact h
  | cons e es ih=>
    rintro vs b hb hB ⟨v,rr,b1,b2,rfl,rfl,h1,h2⟩
    simp only [List.all_cons,Bool.and_eq_true] at hb
    exact ⟨v,rr,b1,b2,rfl,rfl,back_up1 hb.1 (fun g hg=>hB g (by simp [hg])) hG h1,ih hb.2 (fun g hg=>hB g (by simp [hg])) h2⟩
 match es,hb,h with
 | [e],hb,h=>
   simp only [List.all_cons,List.all_nil,Bool.and_true] at hb
   cases e with
   | v T x=>exact back_up1 (tm1:=tm1) (tm2:=tm2) (env1:=env1) (env2:=env2) (e:=.v T x) hb hB hG h
   | own wr ed T o xs=>exact back_up1 (tm1:=tm1) (tm2:=tm2) (env1:=env1) (env2:=env2) (e:=.own wr ed T o xs) hb hB hG h
   | _=>simp [E.back] at hb
 | [],hb,h=>obtain ⟨h0,vs,h1,h2⟩:=h; exact ⟨h0,vs,h1,key hb hB h2⟩
 | e1::e2::es,hb,h=>obtain ⟨h0,vs,h1,h2⟩:=h; exact ⟨h0,vs,h1,key hb hB h2⟩
theorem shows_leads {s:Nat} {e:E} (h:shows s e=true):leads s e=true:=by
 cases e<;>simp only [shows] at h<;>first | exact h | (exfalso; simp at h; done)
theorem shows_home {s:Nat} {e:E} (h:e.home=true):shows s e=false:=by
 cases e<;>first | (exfalso; simp [E.home] at h; done) | rfl
theorem look_killU (o:Ann) (s:Nat) (env:Env) (k:Nat):look (killU o s env) k=if o.pure=false∧shows s (look env k)=true then .dead else look env k:=by
 unfold killU
 cases ho:o.pure with
 | true=>simp
 | false=>simp only [look_killR,true_and]
theorem held_pure {env:Env} {s:Nat} {T:Ty} {o:Ann} {x:den T} (hs:look env s=.loc T o x) (ho:o.pure=true) (p:Path):heldAt env s p=none:=by
 unfold heldAt
 rw [hs]
 simp only
 have h:=annAt_pure p o ho
 split
 ·rename_i wr e o' T' xs h1 h2
  rw [h1] at h; simp [Ann.pure] at h
 ·rfl
theorem blocks_mem_append {l m:OB} {b:Nat}:b∈blocks (l++m)↔b∈blocks l∨b∈blocks m:=by rw [blocks_append,List.mem_append]
theorem Conc.lent (hC:Conc P B G0 W0 n env tm w ob) {s:Nat} {T:Ty} {oa oa':Ann} {x x':den T} (hs:look env s=.loc T oa x) (hn:noFnT T=true) {w':World} {lob' rob:OB} {res:List E} {rv:Value}
  (ho:LentOut P w w' (Gd B G0 ob) (ob s) lob' T oa' x' (tm.getD s undef) res rv rob) {d:Option Nat} (hd:∀ k,d=some k→Dst W0 n k) (hds:apart d s=true) (a:Act) (ha:a.tmps=tm):
  ∃ ob',Conc P B G0 W0 n (Fw.putO ((s,.loc T oa' x')::killU oa s env) d (resE res)) (a.put d rv).tmps w' ob':=by
 subst ha
 have hds':∀ k,d=some k→k≠s:=by
  intro k hk; subst hk
  simp only [apart,Bool.not_eq_true',beq_eq_false_iff_ne] at hds; exact hds
 let ob':Nat→OB:=fun j=>if d=some j then rob else if j=s then lob' else ob j
 have obs:ob' s=lob':=by
  have:d≠some s:=fun e=>hds' s e rfl
  simp [ob',this]
 have obd:∀ k,d=some k→ob' k=rob:=fun k hk=>by simp [ob',hk]
 have obo:∀ j,d≠some j→j≠s→ob' j=ob j:=fun j h1 h2=>by simp [ob',h1,h2]
 have hnew:∀ b,b∈blocks lob'∨b∈blocks rob→b < w'.heap.size∧(b∈blocks (ob s)∨w.heap.size≤b):=fun b hb=>ho.new b (blocks_mem_append.2 hb)
 have hnl:∀ b,b∈blocks lob'∨b∈blocks rob→B≤b∧∀ j,j≠s→b∉blocks (ob j):=fun b hb=>by
  rcases (hnew b hb).2 with h | h
  ·exact ⟨(hC.low s b h).1,fun j hj hb'=>hj (hC.dist j s b hb' h)⟩
  ·exact ⟨Nat.le_trans hC.base h,fun j _ hb'=>by have:=(hC.low j b hb').2; omega⟩
 have cases':∀ j b,b∈blocks (ob' j)→(d=some j∧b∈blocks rob)∨(j=s∧b∈blocks lob')∨(d≠some j∧j≠s∧b∈blocks (ob j)):=by
  intro j b hb
  by_cases h1:d=some j
  ·rw [obd j h1] at hb; exact .inl ⟨h1,hb⟩
  ·by_cases h2:j=s
   ·subst h2; rw [obs] at hb; exact .inr (.inl ⟨rfl,hb⟩)
   ·rw [obo j h1 h2] at hb; exact .inr (.inr ⟨h1,h2,hb⟩)
 have hndA:=ho.nodup
 rw [blocks_append,List.nodup_append] at hndA
 obtain ⟨nd1,nd2,nd3⟩:=hndA
 have hGl:∀ b i,Gl w (Gd B G0 ob) (ob s) (lob'++rob) b i→Gd B G0 ob' b i:=by
  intro b i h
  have lim_of:(∀ lim,(b,lim)∈lob'++rob→i < lim)→(∀ j lim,d≠some j→j≠s→(b,lim)∈ob j→i < lim)→∀ j lim,(b,lim)∈ob' j→i < lim:=by
   intro h1 h2 j lim hj
   by_cases e1:d=some j
   ·rw [obd j e1] at hj; exact h1 lim (List.mem_append_right _ hj)
   ·by_cases e2:j=s
    ·subst e2; rw [obs] at hj; exact h1 lim (List.mem_append_left _ hj)
    ·rw [obo j e1 e2] at hj; exact h2 j lim e1 e2 hj
  rcases h with ⟨h1,h2,h3⟩ | ⟨h1,h2⟩
  ·have hc:=ho.cells b i h1 h3
   rcases h3 with h3 | ⟨h3,h4,h5⟩
   ·exact .inl h3
   ·exact .inr ⟨h3,h4,lim_of hc.2 fun j lim _ _ hj=>h5 j lim hj⟩
  ·have hB:B≤b:=by
    rcases h1 with h1 | h1
    ·exact Nat.le_trans hC.base h1
    ·exact (hC.low s b h1).1
   refine .inr ⟨hB,hC.free b i hB (fun hx=>?_),lim_of h2 fun j lim _ hj hm=>?_⟩
   ·rcases h1 with h1 | h1
    ·have:=hC.oldx b hx; omega
    ·exact hC.prot s b h1 hx
   ·exfalso
    rcases h1 with h1 | h1
    ·have:=(hC.low j b (mem_blocks.2 ⟨_,hm⟩)).2; omega
    ·exact hj (hC.dist j s b (mem_blocks.2 ⟨_,hm⟩) h1)
 have hG:∀ b i,b < w.heap.size→Gd B G0 ob b i→Gd B G0 ob' b i∧w'.cell? ⟨b,i,none⟩=w.cell? ⟨b,i,none⟩:=by
  intro b i hb hg
  have hc:=ho.cells b i hb hg
  refine ⟨?_,hc.1⟩
  by_cases hl:b∈blocks (ob s)
  ·exact hGl b i (.inr ⟨.inr hl,hc.2⟩)
  ·exact hGl b i (.inl ⟨hb,hl,hg⟩)
 have hbel:Below B w w':=⟨ho.os,ho.tape,ho.output,ho.size,fun k hk=>ho.rest k (Nat.lt_of_lt_of_le hk hC.base) fun h=>by have:=(hC.low s k h).1; omega⟩
 have hst:Steps ob ob' w w':=by
  refine ⟨fun k b hb=>?_,fun b hb hn=>ho.rest b hb (hn s)⟩
  rcases cases' k b hb with ⟨_,h⟩ | ⟨_,h⟩ | ⟨_,_,h⟩
  ·exact (hnew b (.inr h)).2.imp (fun h=>⟨s,h⟩) id
  ·exact (hnew b (.inl h)).2.imp (fun h=>⟨s,h⟩) id
  ·exact .inl ⟨k,h⟩
 have tmo:∀ j,d≠some j→(a.put d rv).tmps.getD j undef=a.tmps.getD j undef:=by
  intro j hj
  cases d with
  | none=>rfl
  | some k=>exact getD_set_other _ _ (fun e=>hj (by rw [e]))
 have tmd:∀ k,d=some k→(a.put d rv).tmps.getD k undef=rv:=by
  intro k hk; subst hk
  exact getD_set_same _ _ _ (by rw [hC.size]; exact (hd k rfl).1)
 have hback:=fun k=>back_leads ho.back k
 -- what the new state shows
 have l0:∀ j,look ((s,E.loc T oa' x')::killU oa s env) j=if s=j then .loc T oa' x' else if oa.pure=false∧shows s (look env j)=true then .dead else look env j:=by
  intro j; rw [look_cons,look_killU]
 have lk:∀ j,look (Fw.putO ((s,E.loc T oa' x')::killU oa s env) d (resE res)) j=if d=some j then resE res else if s=j then .loc T oa' x' else
   if (oa.pure=false∧shows s (look env j)=true)∨(∃ k,d=some k∧(look env k).home=true∧leads k (look env j)=true) then .dead else look env j:=by
  intro j
  cases d with
  | none=>
    simp only [reduceCtorEq,if_false,false_and,exists_false,or_false]
    exact l0 j
  | some k=>
    have hks:=hds' k rfl
    simp only [Option.some.injEq]
    show look (Fw.put ((s,E.loc T oa' x')::killU oa s env) k (resE res)) j=_
    rw [look_put,hback k]
    simp only [Bool.false_eq_true,if_false]
    by_cases h1:k=j
    ·rw [if_pos h1,if_pos h1]
    ·rw [if_neg h1,if_neg h1]
     have hk0:look ((s,E.loc T oa' x')::killU oa s env) k=if oa.pure=false∧shows s (look env k)=true then .dead else look env k:=by rw [l0,if_neg (Ne.symm hks)]
     by_cases h2:s=j
     ·subst h2
      have e1:look ((s,E.loc T oa' x')::killU oa s env) s=.loc T oa' x':=by rw [l0,if_pos rfl]
      rw [e1,if_pos rfl]
      simp [leads]
     ·have e1:look ((s,E.loc T oa' x')::killU oa s env) j=if oa.pure=false∧shows s (look env j)=true then .dead else look env j:=by rw [l0,if_neg h2]
      rw [e1,if_neg h2,hk0]
      by_cases h3:oa.pure=false∧shows s (look env j)=true
      ·have:∀ k,leads k E.dead=false:=fun _=>rfl
       simp [h3,this]
      ·rw [if_neg h3]; simp only [h3,false_or]
       by_cases h4:oa.pure=false∧shows s (look env k)=true
       ·have:(look env k).home=false:=by
         cases hh:(look env k).home with
         | false=>rfl
         | true=>rw [shows_home hh] at h4; simp at h4
        rw [if_pos h4,if_neg (by simp [E.home]),if_neg (by rintro ⟨k',e,h6,_⟩; cases e; rw [this] at h6; simp at h6)]
       ·rw [if_neg h4]
        by_cases h5:(look env k).home=true∧leads k (look env j)=true
        ·rw [if_pos h5,if_pos ⟨k,rfl,h5⟩]
        ·rw [if_neg h5,if_neg (by rintro ⟨k',e,h6⟩; cases e; exact h5 h6)]
 refine ⟨ob',Conc.step hC hst hbel hG (fun j=>?_) ?_ ?_ ?_ ?_ ?_⟩
 ·by_cases h1:d=some j
  ·right
   rw [lk,if_pos h1,tmd j h1,obd j h1]
   exact back_up ho.back (fun g hg=>(hnl g (.inr hg)).1) (fun b i _ h=>hGl b i h) ho.rep
  ·by_cases h2:s=j
   ·subst h2
    right
    rw [lk,if_neg h1,if_pos rfl,tmo s h1,obs]
    obtain ⟨b,cur,e,ob2,k1,k2,k3,k4⟩:=ho.shown
    have hlb:∀ g∈blocks lob',B≤g:=fun g hg=>(hnl g (.inl hg)).1
    refine ⟨b,cur,e,ob2,k1,hlb b (by rw [k4]; simp),k2,?_,k4⟩
    exact Flat.mono P T (fun b i _ h=>⟨hGl b i h,rfl⟩) (Later.refl _ _) (fun _ _=>rfl) (Flat.lift P T hn (fun g hg=>hlb g (by rw [k4]; simp [hg])) k3)
   ·rw [lk,if_neg h1,if_neg h2,tmo j h1,obo j h1 (Ne.symm h2)]
    have hbj:∀ g∈blocks (ob j),w'.heap[g]?=w.heap[g]?:=fun g hg=>ho.rest g (hC.low j g hg).2 fun h=>h2 (hC.dist s j g h hg)
    by_cases h3:(oa.pure=false∧shows s (look env j)=true)∨(∃ k,d=some k∧(look env k).home=true∧leads k (look env j)=true)
    ·right
     rw [if_pos h3]
     rcases h3 with ⟨_,h3⟩ | ⟨k,_,_,h3⟩
     ·exact (ERep.leads (shows_leads h3) (hC.rep j)).2
     ·exact (ERep.leads h3 (hC.rep j)).2
    ·rw [if_neg h3]
     have other:∀ t,leads t (look env j)=true→s≠t→HomeEq w a.tmps env w' (a.put d rv).tmps (Fw.putO ((s,.loc T oa' x')::killU oa s env) d (resE res)) t:=by
      intro t ht hts
      have hh:=ERep.leads ht (hC.rep j)
      have htd:d≠some t:=fun e=>h3 (.inr ⟨t,e,hh.1,ht⟩)
      refine HomeEq.same (P:=P) ?_ (tmo t htd) (hC.rep t) (fun g hg=>ho.rest g (hC.low t g hg).2 fun h=>hts (hC.dist s t g h hg))
      rw [lk,if_neg htd,if_neg hts,if_neg]
      rintro (⟨_,h⟩ | ⟨k,_,_,h⟩)
      ·rw [shows_home hh.1] at h; simp at h
      ·rw [leads_home hh.1] at h; simp at h
     by_cases hpu:oa.pure=true
     ·left
      refine ⟨rfl,rfl,rfl,hbj,fun t ht=>?_⟩
      by_cases hts:s=t
      ·subst hts
       refine ⟨fun p v hp _=>?_,fun p h hh=>?_,fun T1 o1 x1 hx=>?_⟩
       ·rw [held_pure hs hpu] at hp; simp at hp
       ·rw [held_pure hs hpu] at hh; simp at hh
       ·rw [hs] at hx; cases hx
        exact ⟨oa',x',by rw [lk,if_neg (fun e=>hds' _ e rfl),if_pos rfl],tmo _ fun e=>hds' _ e rfl⟩
      ·exact other t ht hts
     ·have hpf:oa.pure=false:=by simpa using hpu
      by_cases h4:leads s (look env j)=true
      ·right
       have hr:=hC.rep j
       have hns:¬ shows s (look env j)=true:=fun h=>h3 (.inl ⟨hpf,h⟩)
       cases he:look env j<;>rw [he] at h4 hns hr<;>first | (exfalso; simp [leads] at h4; done) | exact absurd h4 hns | skip
       rename_i s' p
       simp only [leads,beq_iff_eq] at h4
       subst h4
       obtain ⟨m0,T1,o1,x1,b',m1,m2,m3,m4⟩:=hr
       rw [hs] at m1; cases m1
       refine ⟨m0,T,oa',x',b',?_,?_,m3,m4⟩
       ·rw [lk,if_neg (fun e=>hds' _ e rfl),if_pos rfl]
       ·rw [tmo _ (fun e=>hds' _ e rfl)]; exact m2
      ·left
       exact ⟨rfl,rfl,rfl,hbj,fun t ht=>other t ht fun e=>h4 (e▸ht)⟩
 ·intro j k b hj hk
  rcases cases' j b hj with ⟨e1,h1⟩ | ⟨e1,h1⟩ | ⟨e1,f1,h1⟩<;>rcases cases' k b hk with ⟨e2,h2⟩ | ⟨e2,h2⟩ | ⟨e2,f2,h2⟩
  ·rw [e1] at e2; cases e2; rfl
  ·exact absurd rfl (nd3 b h2 b h1)
  ·exact absurd h2 ((hnl b (.inr h1)).2 k f2)
  ·exact absurd rfl (nd3 b h1 b h2)
  ·rw [e1,e2]
  ·exact absurd h2 ((hnl b (.inl h1)).2 k f2)
  ·exact absurd h1 ((hnl b (.inr h2)).2 j f1)
  ·exact absurd h1 ((hnl b (.inl h2)).2 j f1)
  ·exact hC.dist j k b h1 h2
 ·intro k
  by_cases h1:d=some k
  ·rw [obd k h1]; exact nd2
  ·by_cases h2:k=s
   ·subst h2; rw [obs]; exact nd1
   ·rw [obo k h1 h2]; exact hC.nodup k
 ·intro k b hb
  rcases cases' k b hb with ⟨_,h⟩ | ⟨_,h⟩ | ⟨_,_,h⟩
  ·exact ⟨(hnl b (.inr h)).1,(hnew b (.inr h)).1⟩
  ·exact ⟨(hnl b (.inl h)).1,(hnew b (.inl h)).1⟩
  ·exact ⟨(hC.low k b h).1,Nat.lt_of_lt_of_le (hC.low k b h).2 ho.size⟩
 ·cases d with
  | none=>exact hC.size
  | some k=>show (a.tmps.setIfInBounds k rv).size=n; rw [Array.size_setIfInBounds]; exact hC.size
 ·intro v hv
  cases d with
  | none=>rfl
  | some k=>exact (hd k rfl).keep hv _ _
theorem lent_some {T:Ty} {res:List E} {y:Ann×den T×List E} (h:lent? T res=some y):noFnT T=true∧res=.loc T y.1 y.2.1::y.2.2:=by
 unfold lent? at h
 split at h
 ·split at h
  ·rename_i hn
   simp only [Option.bind_eq_some_iff,Option.some.injEq] at h
   obtain ⟨x,hx,rfl⟩:=h
   have:=cast?_some hx; cases this
   exact ⟨hn,rfl⟩
  ·simp at h
 ·simp at h
theorem st_lnd {f:FuncId} {us:Array Operand} {ats:Array TypeId} {u:Operand} {us':List Operand} {p:Od} {ys:List Od} (hgood:Good P W0.t cl) (hC:Conc P B G0 W0 n env a.tmps w ob) (hK:KOk P B G0 W0 n a K r next) (hd:∀ k,o.dst=some k→Dst W0 n k) (hdst:i.dst=o.dst)
  (ho:o.op=.call {callee:=.value (.func f),args:=us,argTypes:=ats}) (hi:i.op=.lnd f p ys) (hus:us.toList=u::us') (hp:okOd u p=true) (hx:okOds us' ys=true) (h:step cl i env K=some r):o.wp P a w next Q:=by
 unfold step at h; rw [hi] at h; simp only [hdst,Cal.eqn,Option.bind_eq_some_iff] at h
 obtain ⟨⟨s,q⟩,hq,h⟩:=h
 simp only at h
 split at h
 case h_2=>simp at h
 simp only [Option.bind_eq_some_iff] at h
 obtain ⟨as,h1,h⟩:=h
 split at h
 case h_2=>simp at h
 rename_i hla
 simp only [Bool.and_eq_true] at hla
 split at h
 case h_2=>simp at h
 rename_i T oa x hsl
 simp only [Option.bind_eq_some_iff] at h
 obtain ⟨res,hres,y,hy,h⟩:=h
 obtain ⟨hn,hy⟩:=lent_some hy
 obtain ⟨oa',x',rs⟩:=y
 simp only at hy h
 obtain ⟨ob',hf,hC'⟩:=freezeAll_conc (a:=a) ys hC
 have hz:=freezeAll_fz ys env
 have hA:=argList_rep (G':=Gd B G0 ob') hgood hC' hx (Fz.argList hz.1 h1) ⟨fun _ _ _ h=>h,.inr fun s ⟨y,hy,hs⟩=>hz.2 y hy s (by rw [←homeOf_fz (FzE.ent hz.1 y)]; exact hs)⟩
 obtain ⟨hcal,hL⟩:=hgood.lend f T oa x as res hres
 -- the pointer
 have hev:a.eval u=a.tmps.getD s undef:=by
  have hs0:∃ o0 x0,look env s=.loc T o0 x0:=by
   rcases hz.1 s with e | ⟨_,_,_,_,_,_,e⟩ | ⟨T0,o0,x0,e1,e2⟩
   ·exact ⟨oa,x,by rw [←e]; exact hsl⟩
   ·rw [hsl] at e; cases e
   ·rw [hsl] at e2; cases e2; exact ⟨_,_,e1⟩
  obtain ⟨o0,x0,hs0⟩:=hs0
  cases p with
  | t k=>
    rw [okOd_t hp a]
    simp only [locPlace,ent] at hq
    split at hq
    ·rename_i s' p' hk
     cases hq
     have hr:=hC.rep k
     rw [hk] at hr
     obtain ⟨_,T1,o1,x1,b,k1,k2,_,k4⟩:=hr
     have e0:offT T1 []=0:=by cases T1<;>rfl
     rw [k4,k2,e0]
    ·simp only [Od.slot,Option.map_some,Option.some.injEq,Prod.mk.injEq] at hq
     rw [hq.1]
    ·cases hq
  | c T x=>simp [locPlace,ent] at hq
  | nil e T=>simp [locPlace,ent] at hq
  | fn f A C=>simp [locPlace,ent] at hq
 have hr:=hC'.rep s
 rw [hsl] at hr
 obtain ⟨b,cur,e,ob2,k1,k2,k3,k4,k5⟩:=hr
 have hcall:=hL w (Gd B G0 ob') (a.tmps.getD s undef) (us'.map a.eval) (ob' s) hn hC'.tabs (fun b hb=>Nat.le_trans hC'.tab.1 (hC'.low s b hb).1) ⟨b,cur,e,ob2,k1,k3,Flat.down P T hn (Nat.zero_le _) k4,k5⟩ (hC'.nodup s) (fun b hb=>(hC'.low s b hb).2)
  (fun b lim i hb hg=>by
   rcases hg with ⟨hg,_⟩ | ⟨_,_,hg⟩
   ·have:=(hC'.low s b (mem_blocks.2 ⟨_,hb⟩)).1; omega
   ·exact hg s lim hb) hA hla.1
 have hrun:(execOp a.eval o).run P w=.ok (.enter f (us.map a.eval)) w:=by
  have:=run_callFunc hcal (us.map a.eval) w
  simp [execOp,ho,resolve,Deferred.ofValue,invoke,Act.eval,this]
 have e2:(a.tmps.getD s undef::us'.map a.eval).toArray=us.map a.eval:=by
  apply Array.toList_inj.1
  simp [hus,hev]
 rw [e2] at hcall
 refine wp_enter hrun (Calls.mono hcall ?_)
 rintro en w' ⟨T',o2,x2,rs2,rv,lob',rob,e3,rfl,hout⟩
 rw [hy] at e3; cases e3
 obtain ⟨ob3,hC3⟩:=Conc.lent hC' hsl hn hout hd hla.2 a rfl
 have:=hK _ _ _ _ hC3 h
 exact ⟨rv,rfl,by rw [put_tmps] at this; exact this⟩
end
end Go.Fw
/- Soundness: a builder of texts. -/
namespace Go.Fw
open Go Go.RowKit
section
variable {P:Program} {B:Nat} {G0:Nat→Nat→Prop} {W0:Base} {n:Nat} {env:Env} {a:Act} {w:World} {ob:Nat→OB} {tm:Array Value}
variable {R:Type} {K:Kont R} {r:R} {next:Act→World→Prop} {Q:Exit→Act→World→Prop} {o:Oper} {i:AI} {cl:Cal}
def sbV:Value→Bool
 | .agg u=>(match u.toList with | [.pointer none,.slice none 0 0]=>true | _=>false)
 | _=>false
def sbZero (P:Program) (t:TypeId):Bool:=match P.info? t with
 | some i=>(match i.zero with | some z=>sbV z | none=>false)
 | none=>false
theorem sbZero_ok {t:TypeId} (h:sbZero P t=true):∃ it,P.info? t=some it∧it.zero=some (.agg #[.pointer none,.slice none 0 0]):=by
 unfold sbZero at h
 split at h
 ·rename_i it hi
  split at h
  ·rename_i z hz
   refine ⟨it,hi,?_⟩
   rw [hz]
   unfold sbV at h
   split at h
   ·rename_i u
    split at h
    ·rename_i hu
     have:u=#[.pointer none,.slice none 0 0]:=Array.toList_inj.1 hu
     rw [this]
    ·simp at h
   ·simp at h
  ·simp at h
 ·simp at h
theorem sb_lim {t e:TypeId} {s:List UInt8} {v:Value} {ob:OB} (h:SbRep w B t e s v ob):∀ b lim,(b,lim)∈ob→lim=0:=by
 obtain ⟨b,p,u,_,_,_,_,_,_,rfl⟩:=h
 intro g lim hg
 rcases List.mem_cons.1 hg with h | h
 ·cases h; rfl
 ·unfold obOf at h
  split at h
  ·simp only [List.mem_singleton,Prod.mk.injEq] at h; exact h.2
  ·cases h
theorem Conc.sbStep (hC:Conc P B G0 W0 n env tm w ob) {k:Nat} {t e:TypeId} {s:List UInt8} (hk:look env k=.sb t e s) {w':World} {ob1:OB} {e':E} (hout:SbOut w w' (ob k) ob1)
  (hrep:∀ G env',ERep P w' G B tm env' e' (tm.getD k undef) ob1):Conc P B G0 W0 n ((k,e')::env) tm w' (updO ob k ob1):=by
 have hr:=hC.rep k
 rw [hk] at hr
 have hlim:=sb_lim hr.1
 have kb:∀ g∈blocks (ob k),B≤g∧g < w.heap.size:=fun g hg=>hC.low k g hg
 have hlow1:∀ g∈blocks ob1,B≤g∧g < w'.heap.size:=fun g hg=>by
  obtain ⟨h1,h2⟩:=hout.new g hg
  rcases h2 with h2 | h2
  ·exact ⟨(kb g h2).1,h1⟩
  ·exact ⟨Nat.le_trans hC.base h2,h1⟩
 have hob:∀ j,j≠k→updO ob k ob1 j=ob j:=fun j hj=>updO_other ob ob1 hj
 have hobk:updO ob k ob1 k=ob1:=updO_same ob k ob1
 have restB:∀ b,b < w.heap.size→b∉blocks (ob k)→w'.heap[b]?=w.heap[b]?:=hout.rest
 have homek:(look env k).home=false:=by rw [hk]; rfl
 refine Conc.step hC ⟨fun j b hb=>?_,fun b hb hn=>restB b hb (hn k)⟩ ⟨hout.os,hout.tape,hout.output,hout.size,fun g hg=>restB g (Nat.lt_of_lt_of_le hg hC.base) fun h=>by have:=(kb g h).1; omega⟩ (fun b i hb h=>?_) (fun j=>?_) ?_ ?_ ?_ hC.size (fun _ _=>rfl)
 ·by_cases hj:j=k
  ·subst hj; rw [hobk] at hb; exact (hout.new b hb).2.imp (fun h=>⟨j,h⟩) id
  ·rw [hob j hj] at hb; exact .inl ⟨j,hb⟩
 ·have hnk:b∉blocks (ob k):=by
   intro hm
   obtain ⟨q,hq,hqb⟩:=List.mem_map.1 hm
   obtain ⟨g,lim⟩:=q
   simp only at hqb; subst hqb
   have hl:=hlim _ _ hq
   subst hl
   rcases h with ⟨h,_⟩ | ⟨_,_,h⟩
   ·have:=(kb g hm).1; omega
   ·exact absurd (h k 0 hq) (by omega)
  refine ⟨?_,World.cell?_of_block (w:=w) (restB b hb hnk)⟩
  rcases h with h | ⟨h1,h2,h3⟩
  ·exact .inl h
  ·refine .inr ⟨h1,h2,fun j lim hm=>?_⟩
   by_cases hj:j=k
   ·subst hj; rw [hobk] at hm
    have:=(hout.new b (List.mem_map.2 ⟨_,hm,rfl⟩)).2
    rcases this with h | h
    ·exact absurd h hnk
    ·omega
   ·rw [hob j hj] at hm; exact h3 j lim hm
 ·by_cases hj:j=k
  ·subst hj; right
   rw [look_cons,if_pos rfl,hobk]
   exact hrep _ _
  ·left
   have hnj:∀ g∈blocks (ob j),w'.heap[g]?=w.heap[g]?:=fun g hg=>restB g (hC.low j g hg).2 fun h=>hj (hC.dist j k g hg h)
   rw [look_cons,if_neg (Ne.symm hj),hob j hj]
   refine ⟨rfl,rfl,rfl,hnj,fun u hu=>?_⟩
   by_cases huk:u=k
   ·subst huk
    have:=(ERep.leads hu (hC.rep j)).1
    rw [homek] at this; exact absurd this (by simp)
   ·refine HomeEq.same (P:=P) (by rw [look_cons,if_neg (Ne.symm huk)]) rfl (hC.rep u) (fun g hg=>restB g (hC.low u g hg).2 fun h=>huk (hC.dist u k g hg h))
 ·have cr:∀ j b,j≠k→b∈blocks (ob j)→b∉blocks ob1:=by
   intro j b hj hb h1
   rcases (hout.new b h1).2 with h | h
   ·exact hj (hC.dist j k b hb h)
   ·have:=(hC.low j b hb).2; omega
  intro j j' b hb hb'
  by_cases h1:j=k
  ·by_cases h2:j'=k
   ·rw [h1,h2]
   ·rw [h1,hobk] at hb; rw [hob j' h2] at hb'; exact absurd hb (cr j' b h2 hb')
  ·by_cases h2:j'=k
   ·rw [h2,hobk] at hb'; rw [hob j h1] at hb; exact absurd hb' (cr j b h1 hb)
   ·rw [hob j h1] at hb; rw [hob j' h2] at hb'; exact hC.dist j j' b hb hb'
 ·intro j
  by_cases hj:j=k
  ·rw [hj,hobk]; exact hout.nodup
  ·rw [hob j hj]; exact hC.nodup j
 ·intro j b hb
  by_cases hj:j=k
  ·rw [hj,hobk] at hb; exact hlow1 b hb
  ·rw [hob j hj] at hb; exact ⟨(hC.low j b hb).1,Nat.lt_of_lt_of_le (hC.low j b hb).2 hout.size⟩
theorem st_sbn {t e:TypeId} (hC:Conc P B G0 W0 n env a.tmps w ob) (hK:KOk P B G0 W0 n a K r next) (hd:∀ k,o.dst=some k→Dst W0 n k) (hdst:i.dst=o.dst)
  (ho:o.op=.alloc t) (hi:i.op=.sbn t e) (hz:sbZero P t=true) (h:step cl i env K=some r):o.wp P a w next Q:=by
 unfold step at h; rw [hi] at h; simp only [hdst] at h
 obtain ⟨it,h1,h2⟩:=sbZero_ok hz
 have hcells:(Value.agg #[.pointer none,.slice none 0 0]).cells=#[.pointer none,.slice none 0 0]:=rfl
 refine wp_value (v:=.pointer (some ⟨w.heap.size,0,none⟩)) (w':=w.alloc (.cells #[.pointer none,.slice none 0 0] t)) ?_ ?_
 ·simp [execOp,ho,Instr.alloc,zeroValue,typeInfo,h1,h2,newVar,newRow,hcells]
 ·have hg:Grows w (w.alloc (.cells #[.pointer none,.slice none 0 0] t)):=Grows.alloc w _
  cases hod:o.dst with
  | none=>rw [hod] at h; exact fin0 (d:=none) (e:=.dead) hC hK (fun k hk=>by cases hk) hg (v:=undef) rfl h
  | some k=>
    rw [hod] at h
    have h2:=Conc.putG (e:=.sb t e []) (v:=.pointer (some ⟨w.heap.size,0,none⟩)) (bk:=[(w.heap.size,0)]) hC (hd k hod) hg ?_ (by simp) (by simp)
    ·exact hK _ _ _ _ h2 h
    ·rw [if_neg (by simp [leads])]
     exact ⟨⟨w.heap.size,.pointer none,.slice none 0 0,rfl,hC.base,heap_alloc_new w _,.inl rfl,World.ownsRow_nil _ _ _ _,by simp [Value.ownBlock],rfl⟩,by simp⟩
theorem st_sbw {f:FuncId} {us:Array Operand} {ats:Array TypeId} {k:Nat} {x:Operand} {y:Od} (hgood:Good P W0.t cl) (hC:Conc P B G0 W0 n env a.tmps w ob) (hK:KOk P B G0 W0 n a K r next) (hd:∀ k,o.dst=some k→Dst W0 n k) (hdst:i.dst=o.dst)
  (ho:o.op=.call {callee:=.value (.func f),args:=us,argTypes:=ats}) (hi:i.op=.sbw f k y) (hus:us.toList=[.tmp k,x]) (hx:okOd x y=true) (h:step cl i env K=some r):o.wp P a w next Q:=by
 unfold step at h; rw [hi] at h; simp only [hdst] at h
 have hr:=hC.rep k
 split at h
 case h_2=>simp at h
 rename_i t e s hk
 rw [hk] at hr
 split at h
 case h_2=>simp at h
 rename_i hap
 simp only [Cal.eqn,Option.bind_eq_some_iff] at h
 obtain ⟨u,hu,res,hres,s',hs',h⟩:=h
 obtain ⟨hv,_⟩:=str_rep hC hx hu
 obtain ⟨rfl,hlen,hcal,hL⟩:=hgood.sbw f t e s u res hres
 simp only [sb?,Option.some.injEq] at hs'
 subst hs'
 have hev:us.map a.eval=#[a.tmps.getD k undef,.string ⟨⟨u⟩⟩]:=by
  apply Array.toList_inj.1
  simp only [Array.toList_map,hus,List.map_cons,List.map_nil,hv]
  rfl
 have hrun:(execOp a.eval o).run P w=.ok (.enter f (us.map a.eval)) w:=by
  have:=run_callFunc hcal (us.map a.eval) w
  simp [execOp,ho,resolve,Deferred.ofValue,invoke,Act.eval,this]
 rw [hev] at hrun
 refine wp_enter hrun (Calls.mono (hL w B (a.tmps.getD k undef) (ob k) hC.base hr.1) ?_)
 rintro en w' ⟨rv,ob',rfl,h1,h2⟩
 refine ⟨rv,rfl,?_⟩
 have hC1:=Conc.sbStep hC hk (e':=.sb t e (s++u)) h2 (fun _ _=>⟨h1,by simpa using hlen⟩)
 exact fin0 (e:=.dead) hC1 hK hd (Grows.refl _) (v:=rv) rfl h
theorem st_sbs {f:FuncId} {us:Array Operand} {ats:Array TypeId} {k:Nat} (hgood:Good P W0.t cl) (hC:Conc P B G0 W0 n env a.tmps w ob) (hK:KOk P B G0 W0 n a K r next) (hd:∀ k,o.dst=some k→Dst W0 n k) (hdst:i.dst=o.dst)
  (ho:o.op=.call {callee:=.value (.func f),args:=us,argTypes:=ats}) (hi:i.op=.sbs f k) (hus:us.toList=[.tmp k]) (h:step cl i env K=some r):o.wp P a w next Q:=by
 unfold step at h; rw [hi] at h; simp only [hdst] at h
 have hr:=hC.rep k
 split at h
 case h_2=>simp at h
 rename_i t e s hk
 rw [hk] at hr
 split at h
 case h_2=>simp at h
 rename_i hap
 simp only [Cal.eqn,Option.bind_eq_some_iff] at h
 obtain ⟨res,hres,u,hu,h⟩:=h
 obtain ⟨rfl,hcal,hL⟩:=hgood.sbs f t e s res hres
 simp only [str1?,Option.some.injEq] at hu
 subst hu
 have hev:us.map a.eval=#[a.tmps.getD k undef]:=by
  apply Array.toList_inj.1
  simp only [Array.toList_map,hus,List.map_cons,List.map_nil]
  rfl
 have hrun:(execOp a.eval o).run P w=.ok (.enter f (us.map a.eval)) w:=by
  have:=run_callFunc hcal (us.map a.eval) w
  simp [execOp,ho,resolve,Deferred.ofValue,invoke,Act.eval,this]
 rw [hev] at hrun
 refine wp_enter hrun (Calls.mono (hL w B (a.tmps.getD k undef) (ob k) hC.base hr.1) ?_)
 rintro en w' ⟨rfl,h2⟩
 refine ⟨_,rfl,?_⟩
 have hC1:=Conc.sbStep hC hk (e':=.dead) h2 (fun _ _=>rfl)
 refine fin0 (e:=.v .str s) hC1 hK hd (Grows.refl _) (v:=.string ⟨⟨s⟩⟩) ⟨rfl,[.string ⟨⟨s⟩⟩],?_,rfl⟩ h
 unfold Flat
 exact ⟨rfl,by have:=hr.2; unfold maxLen; omega,rfl⟩
end
end Go.Fw
/- Soundness: a call that takes a list over, with a function that it calls (slices.DeleteFunc). -/
namespace Go.Fw
open Go Go.RowKit
section
variable {P:Program} {B:Nat} {G0:Nat→Nat→Prop} {W0:Base} {n:Nat} {env:Env} {tm:Array Value} {a:Act} {w:World} {ob:Nat→OB} {cl:Cal}
variable {R:Type} {K:Kont R} {r:R} {next:Act→World→Prop} {Q:Exit→Act→World→Prop} {o:Oper} {i:AI}
theorem Conc.along (hC:Conc P B G0 W0 n env tm w ob) {s:Nat} (hld:∀ k,leads s (look env k)=false) (hob:ob s=obOf (tm.getD s undef) 0) {w1:World} (hA:Along (tm.getD s undef) w w1):
  Conc P B G0 W0 n ((s,.dead)::env) tm w1 (updO ob s []):=by
 have hrest:∀ b,b < w.heap.size→b∉blocks (ob s)→w1.heap[b]?=w.heap[b]?:=fun b hb hn=>hA.rest b hb fun hv=>hn (by rw [hob]; exact mem_blocks.2 ⟨0,mem_obOf hv⟩)
 refine Conc.step hC ⟨fun k b hb=>?_,fun b hb hn=>hrest b hb (hn s)⟩ ⟨hA.os,hA.tape,hA.output,hA.size,fun k hk=>hrest k (Nat.lt_of_lt_of_le hk hC.base) fun h=>by have:=(hC.low s k h).1; omega⟩ (fun b i hb hg=>?_) (fun k=>?_) (fun j k b hj hk=>?_) (fun k=>?_) (fun k b hb=>?_) hC.size (fun _ _=>rfl)
 ·by_cases h:k=s
  ·subst h; rw [updO_same] at hb; simp [blocks] at hb
  ·rw [updO_other _ _ h] at hb; exact .inl ⟨k,hb⟩
 ·have hn:b∉blocks (ob s):=by
   intro h
   obtain ⟨l,h2⟩:=mem_blocks.1 h
   have hl:l=0:=by
    rw [hob] at h2
    unfold obOf at h2
    split at h2
    ·simp at h2; exact h2.2
    ·simp at h2
   subst hl
   have hB:=(hC.low s b h).1
   rcases hg with ⟨g1,_⟩ | ⟨_,_,g2⟩
   ·omega
   ·have:=g2 s 0 h2; omega
  refine ⟨?_,World.cell?_of_block (w:=w) (hrest b hb hn)⟩
  rcases hg with hg | ⟨g1,g0,g2⟩
  ·exact .inl hg
  ·refine .inr ⟨g1,g0,fun k lim hk=>?_⟩
   by_cases h:k=s
   ·subst h; rw [updO_same] at hk; simp at hk
   ·rw [updO_other _ _ h] at hk; exact g2 k lim hk
 ·by_cases h:k=s
  ·subst h; right; rw [look_cons,if_pos rfl,updO_same]; rfl
  ·left
   have hheap:∀ j,j≠s→∀ g∈blocks (ob j),w1.heap[g]?=w.heap[g]?:=fun j hj g hg=>hrest g (hC.low j g hg).2 fun hs=>hj (hC.dist _ _ g hg hs)
   refine ⟨by rw [look_cons,if_neg (Ne.symm h)],rfl,updO_other _ _ h,hheap k h,fun s' hs'=>?_⟩
   have hs:s'≠s:=by rintro rfl; rw [hld k] at hs'; cases hs'
   exact HomeEq.same (P:=P) (by rw [look_cons,if_neg (Ne.symm hs)]) rfl (hC.rep s') (hheap s' hs)
 ·by_cases h1:j=s
  ·subst h1; rw [updO_same] at hj; simp [blocks] at hj
  ·by_cases h2:k=s
   ·subst h2; rw [updO_same] at hk; simp [blocks] at hk
   ·rw [updO_other _ _ h1] at hj; rw [updO_other _ _ h2] at hk; exact hC.dist _ _ b hj hk
 ·by_cases h:k=s
  ·subst h; rw [updO_same]; simp [blocks]
  ·rw [updO_other _ _ h]; exact hC.nodup k
 ·by_cases h:k=s
  ·subst h; rw [updO_same] at hb; simp [blocks] at hb
  ·rw [updO_other _ _ h] at hb
   have:=hC.low k b hb
   exact ⟨this.1,Nat.lt_of_lt_of_le this.2 hA.size⟩
theorem look_off {s k:Nat} (h:k≠s):look ((s,E.dead)::env) k=look env k:=by rw [look_cons,if_neg (Ne.symm h)]
theorem argS_off {s:Nat} {e:E} (h:leads s e=false∨∃ f A C c,e=.clo f A C c):argS ((s,.dead)::env) e=argS env e:=by
 rcases h with h | ⟨f,A,C,c,rfl⟩
 ·cases e<;>simp only [leads,beq_eq_false_iff_ne] at h<;>try rfl
  ·simp only [argS,heldAt,look_off h]
  ·simp only [argS,look_off h]
  ·simp only [argS,heldAt,look_off h]
 ·rfl
theorem argsS_off {s:Nat}:∀ {es:List E},(∀ e∈es,leads s e=false∨∃ f A C c,e=.clo f A C c)→argsS ((s,.dead)::env) es=argsS env es
 | [],_=>rfl
 | e::es,h=>by simp only [argsS]; rw [argS_off (h e (by simp)),argsS_off fun e he=>h e (by simp [he])]
theorem look_offL {s:Nat}:∀ {env:Env},(∀ q∈env,leads s q.2=false)→∀ k,leads s (look env k)=false
 | [],_,_=>rfl
 | q::env,h,k=>by
   rw [show q=(q.1,q.2) from rfl,look_cons]
   split
   ·exact h q (by simp)
   ·exact look_offL (fun q hq=>h q (by simp [hq])) k
theorem st_hod {f:FuncId} {us:Array Operand} {ats:Array TypeId} {x u:Operand} {y z:Od} (hgood:Good P W0.t cl) (hC:Conc P B G0 W0 n env a.tmps w ob) (hK:KOk P B G0 W0 n a K r next) (hd:∀ k,o.dst=some k→Dst W0 n k) (hdst:i.dst=o.dst)
  (ho:o.op=.call {callee:=.value (.func f),args:=us,argTypes:=ats}) (hi:i.op=.hod f y z) (hus:us.toList=[x,u]) (hx:okOd x y=true) (hu:okOd u z=true) (h:step cl i env K=some r):o.wp P a w next Q:=by
 unfold step at h; rw [hi] at h; simp only [hdst] at h
 split at h
 case h_2=>simp at h
 rename_i s
 split at h
 case h_2=>simp at h
 rename_i _ _ e T xs fg A C caps hs hz
 split at h
 case h_2=>simp at h
 rename_i hc
 simp only [Bool.and_eq_true,List.all_eq_true,Bool.not_eq_true',beq_eq_false_iff_ne] at hc
 obtain ⟨⟨hlead,hap⟩,hbuf⟩:=hc
 simp only [Cal.eqn,Option.bind_eq_some_iff] at h
 obtain ⟨ge,hge,res,hres,yv,hyv,ys,hys,h⟩:=h
 have hld:∀ k,leads s (look env k)=false:=look_offL hlead
 obtain ⟨cells,hrow,hel,hob⟩:=own_row hC hs
 have hev:=okOd_t hx a
 have hgv:=ent_rep hC hu
 rw [hz] at hgv
 -- the function's value
 have hge':∃ gf:den (.fn A C),ge=.v (.fn A C) gf:=by
  unfold cloV at hge
  split at hge
  ·simp only [Option.bind_eq_some_iff,Option.some.injEq] at hge
   obtain ⟨cs,_,rfl⟩:=hge
   exact ⟨_,rfl⟩
  ·simp at hge
 obtain ⟨gf,rfl⟩:=hge'
 have hclead:leads s (.clo fg A C caps)=false:=by
  cases z with
  | t k=>simp only [ent] at hz; rw [←hz]; exact hld k
  | c=>simp [ent] at hz
  | nil=>simp [ent] at hz
  | fn f A C=>simp only [ent] at hz; cases hz; rfl
 have hcaps:∀ c∈caps,leads s c=false∨∃ f A C c',c=.clo f A C c':=by
  intro c hc
  simp only [leads,List.any_eq_false] at hclead
  have:=hclead c hc
  cases c<;>first | exact .inl rfl | (exact .inl (by simpa [leads] using this)) | exact .inr ⟨_,_,_,_,rfl⟩
 have hfn:∀ w1,Along (a.tmps.getD s undef) w w1→Flat P (.fn A C) w1 (fun _ _=>True) w1.heap.size .no gf [a.eval u] []:=by
  intro w1 hA
  have hC1:=Conc.along hC hld hob hA
  have hr1:ERep P w1 (Gd B G0 (updO ob s [])) B a.tmps ((s,.dead)::env) (.clo fg A C caps) (a.eval u) (obOd ob z):=by
   cases z with
   | t k=>
     have h1:=hC1.rep k
     simp only [ent] at hz
     have hks:k≠s:=by rintro rfl; rw [hs] at hz; cases hz
     rw [look_off hks,hz,updO_other _ _ hks] at h1
     rw [okOd_t hu a]
     exact h1
   | c=>simp [ent] at hz
   | nil=>simp [ent] at hz
   | fn f A C=>
     simp only [ent] at hz; cases hz
     obtain ⟨h0,cv,h1,h2⟩:=hgv
     obtain ⟨h3,h4⟩:=h2
     exact ⟨h0,cv,h1,h3,h4⟩
  have hcl1:cloV cl ((s,.dead)::env) fg A C caps=some (.v (.fn A C) gf):=by
   rw [←hge]
   unfold cloV
   rw [argsS_off hcaps]
  have ha:=clo_rep (a:=a) (G':=fun _ _=>True) hgood hC1 hr1 hcl1
  obtain ⟨vs,hF,hv⟩:=ha
  have hv':a.eval u=vs.headD undef:=hv
  have hl:=Flat.len P (.fn A C) hF
  have:vs=[a.eval u]:=by
   match vs,hl with
   | [v],_=>rw [hv']; rfl
  rw [this] at hF
  exact hF
 obtain ⟨ys',rfl,hcal,hL⟩:=hgood.hod f e T xs A C gf res hres
 simp only [ownL?,Option.some.injEq] at hyv
 subst hyv
 have:=cast?_some hys
 cases this
 have hrun:(execOp a.eval o).run P w=.ok (.enter f (us.map a.eval)) w:=by
  have:=run_callFunc hcal (us.map a.eval) w
  simp [execOp,ho,resolve,Deferred.ofValue,invoke,Act.eval,this]
 have e2:us.map a.eval=#[a.tmps.getD s undef,a.eval u]:=by apply Array.toList_inj.1; simp [hus,hev]
 rw [e2] at hrun
 have hnoG:∀ g i,(a.tmps.getD s undef).ownBlock=some g→¬ Gd B G0 ob g i:=by
  intro g i hg hG
  have hm:(g,0)∈ob s:=by rw [hob]; exact mem_obOf hg
  have hB:=(hC.low s g (mem_blocks.2 ⟨_,hm⟩)).1
  rcases hG with ⟨g1,_⟩ | ⟨_,_,g2⟩
  ·omega
  ·have:=g2 s 0 hm; omega
 refine wp_enter hrun (Calls.mono (hL w B (Gd B G0 ob) _ (a.eval u) cells hbuf hrow hel hnoG hC.base hfn) ?_)
 rintro en w' ⟨v',cells',rfl,hA,hown,hrow',hel'⟩
 refine ⟨v',rfl,?_⟩
 have hbel:Below B w w':=⟨hA.os,hA.tape,hA.output,hA.size,fun k hk=>hA.rest k (Nat.lt_of_lt_of_le hk hC.base) fun hv=>by
  have hm:(k,0)∈ob s:=by rw [hob]; exact mem_obOf hv
  have:=(hC.low s k (mem_blocks.2 ⟨_,hm⟩)).1; omega⟩
 cases hod:o.dst with
 | none=>
   rw [hod] at h
   exact hK _ _ _ _ (Conc.along hC hld hob hA) h
 | some d=>
   rw [hod] at h
   rw [hod] at hap
   have hds:d≠s:=by simpa [apart] using hap
   have hob2:obOf v' 0=ob s:=by rw [hob]; unfold obOf; rw [hown]
   refine hK _ _ _ _ (Conc.partW (k:=s) (d:=d) (w':=w') (v:=v') (b1:=[]) (b2:=ob s) (b3:=[]) (bd:=ob s) (ek:=.dead) (ed:=.own true e T .no ys) (env':=putO ((s,.dead)::env) (some d) (.own true e T .no ys))
    hC hds (hd d hod) (by simp) rfl hbel (fun b hb hn=>hA.rest b hb fun hv=>hn (by rw [hob]; exact mem_blocks.2 ⟨_,mem_obOf hv⟩)) (fun b hb=>.inl hb) (hC.nodup s) (fun b i hb hb2 hg=>?_) ?_ ?_ (fun j hjs hjd=>?_) (fun j hjs hjd hdead=>?_) (fun hG=>?_) (fun hG=>?_)) h
   ·rw [hob] at hb2
    exact absurd hg (hnoG b i (obOf_blocks _ _ _ hb2))
   ·have e0:look ((s,E.dead)::env) s=.dead:=by rw [look_cons,if_pos rfl]
    rw [putO,look_put,if_neg hds,e0]; simp [leads]
   ·rw [putO,look_put,if_pos rfl]; simp [leads]
   ·rw [putO,look_put,if_neg (Ne.symm hjd),look_off hjs,look_off hds]
    by_cases hh:(look env d).home=true∧leads d (look env j)=true
    ·left; rw [if_pos hh]
    ·right; left; rw [if_neg hh]; exact ⟨rfl,hld j,hh⟩
   ·rw [putO,look_put,if_neg (Ne.symm hjd),look_off hjs,look_off hds] at hdead
    split at hdead
    ·rename_i hh
     refine ⟨(ERep.leads hh.2 (hC.rep j)).2,?_⟩
     cases hl:look env j<;>rw [hl] at hh<;>first | rfl | (simp [leads] at hh)
    ·have hr:=hC.rep j
     rw [hdead] at hr ⊢
     exact ⟨hr,rfl⟩
   ·rfl
   ·change Flat P (.sl T) w' _ B (.own true e .no) ys [v'] _
    unfold Flat
    refine ⟨v',cells',[],rfl,hrow',Elems.imp (fun x v b hb hx=>?_) hel',by rw [←hob2]; simp⟩
    have:b=[]:=by cases b with | nil=>rfl | cons q r=>exact absurd (hb q (by simp)) (by simp)
    subst this
    refine Flat.mono P T (fun b i hb hg=>⟨?_,rfl⟩) (Later.refl _ _) (by simp) hx
    rcases hg with hg | ⟨g1,g0,g2⟩
    ·exact .inl hg
    ·refine .inr ⟨g1,g0,fun k lim hk=>?_⟩
     by_cases h1:k=d
     ·subst h1; simp only [if_true] at hk; exact g2 s lim hk
     ·by_cases h2:k=s
      ·subst h2; simp [h1] at hk
      ·simp only [h1,h2,if_false] at hk; exact g2 k lim hk
end
end Go.Fw
/- Soundness: slices that are made. -/
namespace Go.Fw
open Go Go.RowKit
theorem repM_get (zs:List Value):∀ (l j:Nat),(repM l zs)[j]?=if j < l * zs.length then zs[j % zs.length]? else none
 | 0,j=>by simp [repM]
 | l+1,j=>by
   simp only [repM]
   by_cases hj:j < zs.length
   ·rw [List.getElem?_append_left hj,if_pos (by rw [Nat.succ_mul]; omega),Nat.mod_eq_of_lt hj]
   ·rw [List.getElem?_append_right (by omega),repM_get zs l]
    have hm:(j - zs.length) % zs.length=j % zs.length:=by
     conv=>rhs; rw [←Nat.sub_add_cancel (Nat.le_of_not_lt hj)]
     simp
    rw [hm]
    by_cases h2:j < (l+1) * zs.length
    ·rw [if_pos h2,if_pos (by rw [Nat.succ_mul] at h2; omega)]
    ·rw [if_neg h2,if_neg (by rw [Nat.succ_mul] at h2; omega)]
theorem made_take (zs:List Value) (l c:Nat) (h:l≤c):(madeCells zs.toArray (c * zs.length)).toList.take (l * zs.length)=repM l zs:=by
 have hle:l * zs.length≤c * zs.length:=Nat.mul_le_mul_right _ h
 apply List.ext_getElem?
 intro j
 rw [repM_get]
 by_cases hj:j < l * zs.length
 ·rw [if_pos hj,List.getElem?_take_of_lt hj]
  have hc:j < c * zs.length:=Nat.lt_of_lt_of_le hj hle
  have hz:0 < zs.length:=by
   rcases Nat.eq_zero_or_pos zs.length with h0 | h0
   ·rw [h0] at hj; simp at hj
   ·exact h0
  have hm:j % zs.length < zs.length:=Nat.mod_lt _ hz
  simp only [madeCells,Array.toList_map,Array.toList_range,List.getElem?_map,List.getElem?_range hc,Option.map_some,List.size_toArray]
  rw [List.getElem?_eq_getElem hm]
  simp [hm]
 ·rw [if_neg hj,List.getElem?_take_eq_none (by omega)]
section
variable {P:Program} {B:Nat} {G0:Nat→Nat→Prop} {W0:Base} {n:Nat} {env:Env} {a:Act} {w:World} {ob:Nat→OB}
variable {R:Type} {K:Kont R} {r:R} {next:Act→World→Prop} {Q:Exit→Act→World→Prop} {o:Oper} {i:AI} {cl:Cal}
theorem repM_elems {T:Ty} {x:den T} {zs:List Value} {G:Nat→Nat→Prop} (h:Flat P T w G B .no x zs []):∀ l,Elems (Flat P T w G B .no) (List.replicate l x) (repM l zs) []
 | 0=>⟨rfl,rfl⟩
 | l+1=>⟨zs,repM l zs,[],[],rfl,rfl,h,repM_elems h l⟩
theorem mk_core {t e:TypeId} {T:Ty} {lim:Nat} {x y:Operand} {it:TypeInfo} {l c:Int} (hC:Conc P B G0 W0 n env a.tmps w ob) (hK:KOk P B G0 W0 n a K r next) (hd:∀ k,o.dst=some k→Dst W0 n k)
  (ho:o.op=.makeSlice t x y) (hu:P.underlying t=some (.slice e)) (hT:TyR P e T) (hz:ZeroOk P e T) (h1:a.eval x=.int .i64 l) (h2:a.eval y=.int .i64 c) (hinfo:P.info? e=some it)
  (hb:lim * it.bytes≤140737488355328) (hm:lim≤maxLen) (hb2:0≤l∧l≤c∧c≤(lim:Int)) (h:K (putO env o.dst (.own true e T .no (List.replicate l.toNat (zero T))))=some r):o.wp P a w next Q:=by
 obtain ⟨it',z,zs,k1,k2,k3,k4⟩:=hz.ok
 rw [hinfo] at k1; cases k1
 obtain ⟨it2,g1,g2⟩:=hT.size
 rw [hinfo] at g1; cases g1
 have hzl:=constV_len k3
 have hzc:z.cells=zs.toArray:=by rw [k4]; exact cells_asVal hzl (constV_one k3)
 have hbm:(it.bytes:Int) * c≤281474976710656:=by
  have e1:c=(c.toNat:Int):=by omega
  have e2:c.toNat≤lim:=by omega
  have e3:c.toNat * it.bytes≤140737488355328:=Nat.le_trans (Nat.mul_le_mul_right _ e2) hb
  rw [e1,←Int.natCast_mul,Nat.mul_comm]
  omega
 have hmx:c≤9223372036854775807:=by
  have:(lim:Int)≤(maxLen:Int):=by omega
  simp [maxLen] at this; omega
 have hrun:=run_make (P:=P) w t e it z hu hinfo k2 .i64 .i64 l c hb2.1 hb2.2.1 hbm hmx
 refine wp_value (v:=.slice (some ⟨w.heap.size,0,none⟩) l.toNat c.toNat) (w':=w.alloc (.cells (madeCells z.cells (c.toNat * it.size)) e)) ?_ ?_
 ·simp only [execOp,ho,h1,h2,Sem.run_bind,hrun,Result.andThen_ok,Sem.run_pure]
 ·have hF:Flat P T w (Gd B G0 ob) B .no (zero T) zs []:=constV_flat P T w _ B .no (constV_flat.annOk_no T) k3
  have hlr:(List.replicate l.toNat (zero T)).length=l.toNat:=List.length_replicate
  have:=own_new (e:=e) (T:=T) (xs:=List.replicate l.toNat (zero T)) (css:=repM l.toNat zs) (cur:=madeCells z.cells (c.toNat * it.size)) (cap:=c.toNat) hC hK hd (repM_elems hF _) (by
   rw [hlr,hzc,g2,←hzl]; exact made_take zs _ _ (by omega)) (by rw [size_madeCells,g2]) (by rw [hlr]; omega) (by omega) h
  rw [hlr] at this
  exact this
theorem st_mkSlice {t e:TypeId} {T:Ty} {lim:Nat} {x y:Operand} {x' y':Od} {it:TypeInfo} (hC:Conc P B G0 W0 n env a.tmps w ob) (hK:KOk P B G0 W0 n a K r next) (hd:∀ k,o.dst=some k→Dst W0 n k) (hdst:i.dst=o.dst)
  (ho:o.op=.makeSlice t x y) (hi:i.op=.mkSlice e T lim x' y') (hu:P.underlying t=some (.slice e)) (hT:TyR P e T) (hz:ZeroOk P e T) (hx:okOd x x'=true) (hy:okOd y y'=true) (hinfo:P.info? e=some it)
  (hb:lim * it.bytes≤140737488355328) (hm:lim≤maxLen) (h:step cl i env K=some r):o.wp P a w next Q:=by
 unfold step at h; rw [hi] at h; simp only [hdst] at h
 split at h
 case h_2=>simp at h
 rename_i l c hl hc
 split at h
 case isFalse=>simp at h
 rename_i hb2
 exact mk_core hC hK hd ho hu hT hz (int_rep' hC hx hl).1 (int_rep' hC hy hc).1 hinfo hb hm hb2 h
end
end Go.Fw
/- Soundness, part 21: a region's operations, checked against the program's. -/
namespace Go.Fw
open Go Go.RowKit
def tyB (P:Program) (t:TypeId) (T:Ty):Bool:=tyOk P 64 t T
theorem tyB_ok {P:Program} {t:TypeId} {T:Ty} (h:tyB P t T=true):TyR P t T:=⟨⟨64,h⟩⟩
def zeroB (P:Program) (t:TypeId) (T:Ty):Bool:=
 match P.info? t with
 | some i=>match i.zero with
   | some z=>match constV T (zero T) with
     | some vs=>eqV T vs z
     | none=>false
   | none=>false
 | none=>false
theorem zeroB_ok {P:Program} {t:TypeId} {T:Ty} (h:zeroB P t T=true):ZeroOk P t T:=by
 unfold zeroB at h
 split at h
 ·rename_i i hi
  split at h
  ·rename_i z hz
   split at h
   ·rename_i vs hv
    exact ⟨⟨i,z,vs,hi,hz,hv,eqV_eq h⟩⟩
   ·simp at h
  ·simp at h
 ·simp at h
def slB (P:Program) (t e:TypeId):Bool:=match P.underlying t with | some (.slice e')=>e'==e | _=>false
theorem slB_ok {P:Program} {t e:TypeId} (h:slB P t e=true):P.underlying t=some (.slice e):=by
 unfold slB at h
 split at h
 ·rename_i e' he; rw [beq_iff_eq] at h; rw [he,h]
 ·simp at h
def elemOf (P:Program) (t:TypeId):Option TypeId:=match P.underlying t with | some (.slice e)=>some e | _=>none
theorem elemOf_ok {P:Program} {t e:TypeId} (h:elemOf P t=some e):P.underlying t=some (.slice e):=by
 unfold elemOf at h
 split at h
 ·rename_i e' he; cases h; exact he
 ·simp at h
def arrOf (P:Program) (t:TypeId):Option (Nat×TypeId):=match P.underlying t with | some (.array m e)=>some (m,e) | _=>none
theorem arrOf_ok {P:Program} {t:TypeId} {q:Nat×TypeId} (h:arrOf P t=some q):P.underlying t=some (.array q.1 q.2):=by
 unfold arrOf at h
 split at h
 ·rename_i m e he; cases h; exact he
 ·simp at h
def flsOf (P:Program) (t:TypeId):Option (Array Field):=match P.underlying t with | some (.struct fs)=>some fs | _=>none
theorem flsOf_ok {P:Program} {t:TypeId} {fs:Array Field} (h:flsOf P t=some fs):P.underlying t=some (.struct fs):=by
 unfold flsOf at h
 split at h
 ·rename_i m he; cases h; exact he
 ·simp at h
def okOp (P:Program) (o:Oper) (i:AI):Bool:=
 match i.op with
 | .mv y=>(match o.op with | .move x=>okOd x y | _=>false)
 | .asg y=>(match o.op with | .assign x=>okOd x y | _=>false)
 | .pick c' x' y'=>(match o.op with | .pick c x y=>okOd c c'&&okOd x x'&&okOd y y' | _=>false)
 | .alloc T oa=>(match o.op with | .alloc t=>zeroB P t T&&annOk T oa | _=>false)
 | .box _ y=>(match o.op with | .box _ x=>okOd x y | _=>false)
 | .build T ys=>(match o.op with
   | .build t us=>zeroB P t T&&isAggT T&&tyB P t T&&(match flsOf P t with
     | some fs=>(match fs.toList.mapM (fun f=>(P.info? f.type).map fun i=>(f.offset,i.size)) with
       | some places=>okParts T (places.toArray[·]?) us.toList ys
       | none=>false)
     | none=>(match arrOf P t with
       | some q=>(match T with
         | .arr _ T'=>tyB P q.2 T'&&okParts T (fun i=>some (i * cellsN T',cellsN T')) us.toList ys
         | _=>false)
       | none=>false))
   | _=>false)
 | .buildN T oa ys=>(match o.op with
   | .build t us=>zeroB P t T&&isAggT T&&tyB P t T&&annOk T oa&&(match flsOf P t with
     | some fs=>(match fs.toList.mapM (fun f=>(P.info? f.type).map fun i=>(f.offset,i.size)) with
       | some places=>okParts T (places.toArray[·]?) us.toList ys
       | none=>false)
     | none=>false)
   | _=>false)
 | .buildSlice e T ys=>(match o.op with
   | .buildSlice t m us=>slB P t e&&tyB P e T&&zeroB P e T&&us.size==m&&okIdx us.toList 0&&okOds (us.toList.map (·.2)) ys&&decide (m * cellsN T≤2 ^ 24)&&decide (m≤2 ^ 24)
   | _=>false)
 | .load T y=>(match o.op with | .load t x=>tyB P t T&&okOd x y | _=>false)
 | .store T y yv=>(match o.op with | .store t x xv=>tyB P t T&&okOd x y&&okOd xv yv&&o.dst.isNone | _=>false)
 | .bin op' x' y'=>(match o.op with | .binOp op _ x y _=>decide (op=op')&&okOd x x'&&okOd y y' | _=>false)
 | .un op' x'=>(match o.op with | .unOp op _ x=>decide (op=op')&&okOd x x' | _=>false)
 | .shift l x' y'=>(match o.op with | .binOp op _ x y _=>decide (op=if l then .shl else .shr)&&okOd x x'&&okOd y y' | _=>false)
 | .convI k x'=>(match o.op with | .convert s d x=>okOd x x'&&tyB P d (.int k)&&(match P.underlying s with | some (.int ks)=>tyB P s (.int ks) | _=>false) | _=>false)
 | .fieldAddr S p y=>(match o.op with
   | .fieldAddr t x f=>tyB P t S&&okOd x y&&decide (p=fpath f)&&(match flsOf P t with | some fs=>(fs[f]?).isSome | none=>false)&&(match subT S (fpath f) with | some A=>!(cellsN A==0) | none=>false)
   | _=>false)
 | .field S p y=>(match o.op with
   | .field t x f=>tyB P t S&&okOd x y&&decide (p=fpath f)&&(match flsOf P t with | some fs=>(fs[f]?).isSome | none=>false)&&scalarT S
   | _=>false)
 | .indexAddr T y iy=>(match o.op with | .indexAddr t x ix=>okOd x y&&okOd ix iy&&(match elemOf P t with | some e=>tyB P e T | none=>false) | _=>false)
 | .indexArr m T y iy=>(match o.op with | .indexAddr t x ix=>okOd x y&&okOd ix iy&&(match arrOf P t with | some q=>q.1==m&&tyB P q.2 T | none=>false) | _=>false)
 | .indexS y iy=>(match o.op with | .index t x ix=>okOd x y&&okOd ix iy&&tyB P t .str | _=>false)
 | .indexA m T y iy=>(match o.op with | .index t x ix=>okOd x y&&okOd ix iy&&(match arrOf P t with | some q=>q.1==m&&tyB P q.2 T | none=>false) | _=>false)
 | .sliceS y lo' hi'=>(match o.op with | .slice t x lo hi none=>tyB P t .str&&okOd x y&&okOdO lo lo'&&okOdO hi hi' | _=>false)
 | .sliceL T y lo' hi' mx'=>(match o.op with | .slice t x lo hi mx=>okOd x y&&okOdO lo lo'&&okOdO hi hi'&&okOdO mx mx'&&(!mx.isSome || hi.isSome)&&(match elemOf P t with | some e=>tyB P e T | none=>false) | _=>false)
 | .mkSlice e T lim x' y'=>(match o.op with
   | .makeSlice t x y=>slB P t e&&tyB P e T&&zeroB P e T&&okOd x x'&&okOd y y'&&(match P.info? e with | some it=>decide (lim * it.bytes≤140737488355328)&&decide (lim≤maxLen) | none=>false)
   | _=>false)
 | .lenS y=>(match o.op with | .call {callee:=.builtin .len,args:=us,argTypes:=ts}=>(match us.toList,ts.toList with | [x],[t]=>tyB P t .str&&okOd x y | _,_=>false) | _=>false)
 | .lenL y=>(match o.op with | .call {callee:=.builtin .len,args:=us,argTypes:=ts}=>(match us.toList,ts.toList with | [x],[t]=>(elemOf P t).isSome&&okOd x y | _,_=>false) | _=>false)
 | .lenA m=>(match o.op with | .call {callee:=.builtin .len,args:=us,argTypes:=ts}=>(match us.toList,ts.toList with | [_],[t]=>(match arrOf P t with | some q=>q.1==m | none=>false)&&decide (m≤maxLen) | _,_=>false) | _=>false)
 | .mm true x' y'=>(match o.op with | .call {callee:=.builtin .max,args:=us,argTypes:=_}=>(match us.toList with | [x,y]=>okOd x x'&&okOd y y' | _=>false) | _=>false)
 | .mm false x' y'=>(match o.op with | .call {callee:=.builtin .min,args:=us,argTypes:=_}=>(match us.toList with | [x,y]=>okOd x x'&&okOd y y' | _=>false) | _=>false)
 | .append e T lim sy y=>(match o.op with
   | .call {callee:=.builtin .append,args:=us,argTypes:=ts}=>(match us.toList,ts.toList with
     | [s,x],[t,t']=>t==t'&&slB P t e&&tyB P e T&&okOd x y&&okOd s sy&&(match P.info? e with
       | some it=>(match it.zero with | some z=>z.cells.size==cellsN T | none=>false)&&decide (lim * it.bytes≤140737488355328)&&decide (lim≤maxLen)&&decide (e≠BUF)
       | none=>false)
     | _,_=>false)
   | _=>false)
 | .call f ys=>(match o.op with | .call {callee:=.value (.func g),args:=us,argTypes:=_}=>g==f&&okOds us.toList ys | _=>false)
 | .callv y ys=>(match o.op with | .call {callee:=.value x,args:=us,argTypes:=_}=>okOd x y&&okOds us.toList ys | _=>false)
 | .extract k j=>(match o.op with | .extract (.tmp k') j'=>k==k'&&j==j'&&(match o.dst with | some d=>!(d==k) | none=>false) | _=>false)
 | .mkfn f _ _ ys=>(match o.op with | .makeFunc (.func g) first us=>g==f&&first.size==0&&okOds us.toList ys | _=>false)
 | .rng y=>(match o.op with | .range t x=>tyB P t .str&&okOd x y | _=>false)
 | .bad=>true
 | .toSl y=>(match o.op with | .convert s d x=>okOd x y&&tyB P s .str&&(match elemOf P d with | some e=>tyB P e (.int .u8) | none=>false) | _=>false)
 | .toStr y=>(match o.op with | .convert s d x=>okOd x y&&tyB P d .str&&(match elemOf P s with | some e=>tyB P e (.int .u8) | none=>false) | _=>false)
 | .nilck y=>(match o.op with | .nilCheck x=>okOd x y | _=>false)
 | .nxt k=>(match o.op with | .next (.tmp k') true=>k==k' | _=>false)
 | .eqT neg .bool x' y'=>(match o.op with | .binOp op t x y _=>decide (op=if neg then .neq else .eql)&&boolTy P t&&okOd x x'&&okOd y y' | _=>false)
 | .eqT neg T x' y'=>(match o.op with | .binOp op t x y _=>decide (op=if neg then .neq else .eql)&&eqStr P t T&&okOd x x'&&okOd y y' | _=>false)
 | .callN f ys=>(match o.op with | .call {callee:=.value (.func g),args:=us,argTypes:=_}=>(match us.toList with | .const v::us'=>eq1 v (.slice none 0 0)&&g==f&&okOds us' ys | _=>false) | _=>false)
 | .callF f ys=>(match o.op with | .call {callee:=.value (.func g),args:=us,argTypes:=_}=>g==f&&okOds us.toList ys | _=>false)
 | .cp y=>(match o.op with | .move x=>okOd x y | .assign x=>okOd x y | _=>false)
 | .wrl f y=>(match o.op with | .call {callee:=.value (.func g),args:=us,argTypes:=_}=>(match us.toList with | [x]=>g==f&&okOd x y | _=>false) | _=>false)
 | .sbn t _=>(match o.op with | .alloc t'=>t==t'&&sbZero P t | _=>false)
 | .sbw f k y=>(match o.op with | .call {callee:=.value (.func g),args:=us,argTypes:=_}=>(match us.toList with | [.tmp k',x]=>g==f&&k==k'&&okOd x y | _=>false) | _=>false)
 | .sbs f k=>(match o.op with | .call {callee:=.value (.func g),args:=us,argTypes:=_}=>(match us.toList with | [.tmp k']=>g==f&&k==k' | _=>false) | _=>false)
 | .hod f y z=>(match o.op with | .call {callee:=.value (.func g),args:=us,argTypes:=_}=>(match us.toList with | [x,u]=>g==f&&okOd x y&&okOd u z | _=>false) | _=>false)
 | .lnd f y ys=>(match o.op with | .call {callee:=.value (.func g),args:=us,argTypes:=_}=>(match us.toList with | u::us'=>g==f&&okOd u y&&okOds us' ys | _=>false) | _=>false)
def okAI (P:Program) (n:Nat) (o:Oper) (i:AI):Bool:=decide (i.dst=o.dst)&&(match o.dst with | some d=>decide (d < n) | none=>true)&&okOp P o i
theorem arr1 {α:Type} {us:Array α} {x:α} (h:us.toList=[x]):us=#[x]:=Array.toList_inj.1 (by simpa using h)
theorem arr2 {α:Type} {us:Array α} {x y:α} (h:us.toList=[x,y]):us=#[x,y]:=Array.toList_inj.1 (by simpa using h)
section
variable {P:Program} {B:Nat} {G0:Nat→Nat→Prop} {W0:Base} {n:Nat} {env:Env} {tm:Array Value} {a:Act} {w:World} {ob:Nat→OB} {cl:Cal}
variable {R:Type} {K:Kont R} {r:R} {next:Act→World→Prop} {Q:Exit→Act→World→Prop} {o:Oper} {i:AI}
theorem st_ok (hgood:Good P W0.t cl) (hC:Conc P B G0 W0 n env a.tmps w ob) (hK:KOk P B G0 W0 n a K r next) (hok:okAI P n o i=true) (hz:W0.pin=none∨i.dst≠some 0) (h:step cl i env K=some r):o.wp P a w next Q:=by
 simp only [okAI,Bool.and_eq_true,decide_eq_true_eq] at hok
 obtain ⟨⟨hdst,hdn⟩,hop⟩:=hok
 have hd:∀ k,o.dst=some k→Dst W0 n k:=by
  intro k hk; rw [hk] at hdn; exact ⟨by simpa using hdn,hz.imp id fun h e=>h (by rw [hdst,hk,e])⟩
 unfold okOp at hop
 split at hop
 case h_1 y hi=>split at hop; · rename_i x ho; exact st_mv hC hK hd hdst ho hi hop h
                ·simp at hop
 case h_2 y hi=>split at hop; · rename_i x ho; exact st_asg hC hK hd hdst ho hi hop h
                ·simp at hop
 case h_3 c' x' y' hi=>
  split at hop
  ·rename_i c x y ho; simp only [Bool.and_eq_true] at hop; exact st_pick hC hK hd hdst ho hi hop.1.1 hop.1.2 hop.2 h
  ·simp at hop
 case h_4 T oa hi=>
  split at hop
  ·rename_i t ho; simp only [Bool.and_eq_true] at hop; exact st_alloc hC hK hd hdst ho hi (zeroB_ok hop.1) hop.2 h
  ·simp at hop
 case h_5 T y hi=>
  split at hop
  ·rename_i t x ho; exact st_box hC hK hd hdst ho hi hop h
  ·simp at hop
 case h_6 T ys hi=>
  split at hop
  ·rename_i t us ho
   simp only [Bool.and_eq_true] at hop
   refine st_build hC hK hd hdst ho hi (zeroB_ok hop.1.1.1) hop.1.1.2 (tyB_ok hop.1.2) ?_ h
   have h2:=hop.2
   split at h2
   ·rename_i fs hfs
    split at h2
    ·rename_i places hp; exact .inl ⟨fs,places,flsOf_ok hfs,hp,h2⟩
    ·simp at h2
   ·split at h2
    ·rename_i q hq
     split at h2
     ·rename_i m' T'
      simp only [Bool.and_eq_true] at h2
      exact .inr ⟨q.1,q.2,T',arrOf_ok hq,tyB_ok h2.1,h2.2⟩
     ·simp at h2
    ·simp at h2
  ·simp at hop
 case h_7 T oa ys hi=>
  split at hop
  ·rename_i t us ho
   simp only [Bool.and_eq_true] at hop
   refine st_buildN hC hK hd hdst ho hi hop.1.2 (zeroB_ok hop.1.1.1.1) hop.1.1.1.2 (tyB_ok hop.1.1.2) ?_ h
   have h2:=hop.2
   split at h2
   ·rename_i fs hfs
    split at h2
    ·rename_i places hp; exact .inl ⟨fs,places,flsOf_ok hfs,hp,h2⟩
    ·simp at h2
   ·simp at h2
  ·simp at hop
 case h_8 e T ys hi=>
  split at hop
  ·rename_i t m us ho
   simp only [Bool.and_eq_true,decide_eq_true_eq,beq_iff_eq] at hop
   obtain ⟨⟨⟨⟨⟨⟨⟨h1,h2⟩,h3⟩,h4⟩,h5⟩,h6⟩,h7⟩,h8⟩:=hop
   exact st_buildSlice hC hK hd hdst ho hi (slB_ok h1) (tyB_ok h2) (zeroB_ok h3) h4 h5 h6 h7 h8 h
  ·simp at hop
 case h_9 T y hi=>
  split at hop
  ·rename_i t x ho; simp only [Bool.and_eq_true] at hop; exact st_load hC hK hd hdst ho hi (tyB_ok hop.1) hop.2 h
  ·simp at hop
 case h_10 T y yv hi=>
  split at hop
  ·rename_i t x xv ho; simp only [Bool.and_eq_true,Option.isNone_iff_eq_none] at hop; exact st_store hC hK hop.2 ho hi (tyB_ok hop.1.1.1) hop.1.1.2 hop.1.2 h
  ·simp at hop
 case h_11 op' x' y' hi=>
  split at hop
  ·rename_i op xt x y yt ho; simp only [Bool.and_eq_true,decide_eq_true_eq] at hop
   obtain ⟨⟨rfl,h1⟩,h2⟩:=hop
   exact st_bin hC hK hd hdst ho hi h1 h2 h
  ·simp at hop
 case h_12 op' x' hi=>
  split at hop
  ·rename_i op xt x ho; simp only [Bool.and_eq_true,decide_eq_true_eq] at hop
   obtain ⟨rfl,h1⟩:=hop
   exact st_un hC hK hd hdst ho hi h1 h
  ·simp at hop
 case h_13 l x' y' hi=>
  split at hop
  ·rename_i op xt x y yt ho; simp only [Bool.and_eq_true,decide_eq_true_eq] at hop
   obtain ⟨⟨rfl,h1⟩,h2⟩:=hop
   exact st_shift hC hK hd hdst ho hi h1 h2 h
  ·simp at hop
 case h_14 k x' hi=>
  split at hop
  ·rename_i s d x ho; simp only [Bool.and_eq_true] at hop
   obtain ⟨⟨h1,h2⟩,h3⟩:=hop
   split at h3
   ·exact st_convI hC hK hd hdst ho hi h1 (tyB_ok h3) (tyB_ok h2) h
   ·simp at h3
  ·simp at hop
 case h_15 S p y hi=>
  split at hop
  ·rename_i t x f ho; simp only [Bool.and_eq_true,decide_eq_true_eq] at hop
   obtain ⟨⟨⟨⟨h1,h2⟩,rfl⟩,h4⟩,h5⟩:=hop
   split at h4
   ·rename_i fs hfs
    obtain ⟨fd,hfd⟩:=Option.isSome_iff_exists.1 h4
    split at h5
    ·rename_i A hA
     exact st_fieldAddr hC hK hd hdst ho hi (tyB_ok h1) (flsOf_ok hfs) hfd hA (by simpa using h5) h2 h
    ·simp at h5
   ·simp at h4
  ·simp at hop
 case h_16 S p y hi=>
  split at hop
  ·rename_i t x f ho; simp only [Bool.and_eq_true,decide_eq_true_eq] at hop
   obtain ⟨⟨⟨⟨h1,h2⟩,rfl⟩,h4⟩,h5⟩:=hop
   split at h4
   ·rename_i fs hfs
    obtain ⟨fd,hfd⟩:=Option.isSome_iff_exists.1 h4
    exact st_field (A:=.bool) hC hK hd hdst ho hi (tyB_ok h1) (flsOf_ok hfs) hfd h5 h2 h
   ·simp at h4
  ·simp at hop
 case h_17 T y iy hi=>
  split at hop
  ·rename_i t x ix ho; simp only [Bool.and_eq_true] at hop
   obtain ⟨⟨h1,h2⟩,h3⟩:=hop
   split at h3
   ·rename_i e he; exact st_indexAddr hC hK hd hdst ho hi (elemOf_ok he) (tyB_ok h3) h1 h2 h
   ·simp at h3
  ·simp at hop
 case h_18 m T y iy hi=>
  split at hop
  ·rename_i t x ix ho; simp only [Bool.and_eq_true] at hop
   obtain ⟨⟨h1,h2⟩,h3⟩:=hop
   split at h3
   ·rename_i q hq
    simp only [Bool.and_eq_true,beq_iff_eq] at h3
    obtain ⟨rfl,h4⟩:=h3
    exact st_indexArr hC hK hd hdst ho hi (arrOf_ok hq) (tyB_ok h4) h1 h2 h
   ·simp at h3
  ·simp at hop
 case h_19 y iy hi=>
  split at hop
  ·rename_i t x ix ho; simp only [Bool.and_eq_true] at hop
   exact st_indexS hC hK hd hdst ho hi (tyB_ok hop.2) hop.1.1 hop.1.2 h
  ·simp at hop
 case h_20 m T y iy hi=>
  split at hop
  ·rename_i t x ix ho; simp only [Bool.and_eq_true] at hop
   obtain ⟨⟨h1,h2⟩,h3⟩:=hop
   split at h3
   ·rename_i q hq
    simp only [Bool.and_eq_true,beq_iff_eq] at h3
    obtain ⟨rfl,h4⟩:=h3
    exact st_indexA hC hK hd hdst ho hi (arrOf_ok hq) (tyB_ok h4) h1 h2 h
   ·simp at h3
  ·simp at hop
 case h_21 y lo' hi' hi=>
  split at hop
  ·rename_i t x lo hh ho; simp only [Bool.and_eq_true] at hop
   exact st_sliceS hC hK hd hdst ho hi (tyB_ok hop.1.1.1) hop.1.1.2 hop.1.2 hop.2 h
  ·simp at hop
 case h_22 T y lo' hi' mx' hi=>
  split at hop
  ·rename_i t x lo hh mx ho; simp only [Bool.and_eq_true,Bool.or_eq_true,Bool.not_eq_true'] at hop
   obtain ⟨⟨⟨⟨⟨h1,h2⟩,h3⟩,h4⟩,h5⟩,h6⟩:=hop
   split at h6
   ·rename_i e he
    exact st_sliceL hC hK hd hdst ho hi (elemOf_ok he) (tyB_ok h6) h1 h2 h3 h4 (fun hm=>h5.resolve_left (by rw [hm]; simp)) h
   ·simp at h6
  ·simp at hop
 case h_23 e T lim x' y' hi=>
  split at hop
  ·rename_i t x y ho
   simp only [Bool.and_eq_true] at hop
   obtain ⟨⟨⟨⟨⟨h1,h2⟩,h3⟩,h4⟩,h5⟩,h6⟩:=hop
   split at h6
   ·rename_i it hit
    simp only [Bool.and_eq_true,decide_eq_true_eq] at h6
    exact st_mkSlice hC hK hd hdst ho hi (slB_ok h1) (tyB_ok h2) (zeroB_ok h3) h4 h5 hit h6.1 h6.2 h
   ·simp at h6
  ·simp at hop
 case h_24 y hi=>
  split at hop
  ·rename_i us ts ho
   split at hop
   ·rename_i x t hu ht
    simp only [Bool.and_eq_true] at hop
    rw [arr1 hu,arr1 ht] at ho
    exact st_lenS hC hK hd hdst ho hi (tyB_ok hop.1) hop.2 h
   ·simp at hop
  ·simp at hop
 case h_25 y hi=>
  split at hop
  ·rename_i us ts ho
   split at hop
   ·rename_i x t hu ht
    simp only [Bool.and_eq_true] at hop
    rw [arr1 hu,arr1 ht] at ho
    obtain ⟨e,he⟩:=Option.isSome_iff_exists.1 hop.1
    exact st_lenL hC hK hd hdst ho hi (elemOf_ok he) hop.2 h
   ·simp at hop
  ·simp at hop
 case h_26 m hi=>
  split at hop
  ·rename_i us ts ho
   split at hop
   ·rename_i x t hu ht
    simp only [Bool.and_eq_true,decide_eq_true_eq] at hop
    rw [arr1 hu,arr1 ht] at ho
    obtain ⟨h1,h2⟩:=hop
    split at h1
    ·rename_i q hq
     rw [beq_iff_eq] at h1
     have:=arrOf_ok hq
     rw [h1] at this
     exact st_lenA hC hK hd hdst ho hi this h2 h
    ·simp at h1
   ·simp at hop
  ·simp at hop
 case h_27 x' y' hi=>
  split at hop
  ·rename_i us ts ho
   split at hop
   ·rename_i x y hu
    simp only [Bool.and_eq_true] at hop
    rw [arr2 hu] at ho
    exact st_mm (mx:=true) hC hK hd hdst ho hi hop.1 hop.2 h
   ·simp at hop
  ·simp at hop
 case h_28 x' y' hi=>
  split at hop
  ·rename_i us ts ho
   split at hop
   ·rename_i x y hu
    simp only [Bool.and_eq_true] at hop
    rw [arr2 hu] at ho
    exact st_mm (mx:=false) hC hK hd hdst ho hi hop.1 hop.2 h
   ·simp at hop
  ·simp at hop
 case h_29 e T lim sy y hi=>
  split at hop
  ·rename_i us ts ho
   split at hop
   ·rename_i s x t t' hu ht
    simp only [Bool.and_eq_true,beq_iff_eq] at hop
    obtain ⟨⟨⟨⟨⟨rfl,h2⟩,h3⟩,h4⟩,h5⟩,h6⟩:=hop
    rw [arr2 hu,arr2 ht] at ho
    split at h6
    ·rename_i it hit
     simp only [Bool.and_eq_true,decide_eq_true_eq] at h6
     obtain ⟨⟨⟨h7,h8⟩,h9⟩,h10⟩:=h6
     split at h7
     ·rename_i z hz
      rw [beq_iff_eq] at h7
      exact st_append hC hK hd hdst ho hi (slB_ok h2) (tyB_ok h3) hit hz h7 h8 h9 h10 h4 h5 h
     ·simp at h7
    ·simp at h6
   ·simp at hop
  ·simp at hop
 case h_30 f ys hi=>
  split at hop
  ·rename_i g us ts ho
   simp only [Bool.and_eq_true,beq_iff_eq] at hop
   obtain ⟨rfl,h1⟩:=hop
   exact st_call hgood hC hK hd hdst ho hi h1 h
  ·simp at hop
 case h_31 y ys hi=>
  split at hop
  ·rename_i x us ts ho
   simp only [Bool.and_eq_true] at hop
   exact st_callv hgood hC hK hd hdst ho hi hop.1 hop.2 h
  ·simp at hop
 case h_32 k j hi=>
  split at hop
  ·rename_i k' j' ho
   simp only [Bool.and_eq_true,beq_iff_eq] at hop
   obtain ⟨⟨rfl,rfl⟩,h1⟩:=hop
   split at h1
   ·rename_i d hdd
    exact st_extract hC hK hd hdst ho hi ⟨d,hdd,by simpa using h1⟩ h
   ·simp at h1
  ·simp at hop
 case h_33 f A C ys hi=>
  split at hop
  ·rename_i g first us ho
   simp only [Bool.and_eq_true,beq_iff_eq] at hop
   obtain ⟨⟨rfl,h1⟩,h2⟩:=hop
   have:first=#[]:=Array.eq_empty_of_size_eq_zero h1
   subst this
   exact st_mkfn hC hK hd hdst ho hi h2 h
  ·simp at hop
 case h_34 y hi=>
  split at hop
  ·rename_i t x ho
   simp only [Bool.and_eq_true] at hop
   exact st_rng hC hK hd hdst ho hi (tyB_ok hop.1) hop.2 h
  ·simp at hop
 case h_35 hi=>
  unfold step at h; rw [hi] at h; simp at h
 case h_36 y hi=>
  split at hop
  ·rename_i s d x ho
   simp only [Bool.and_eq_true] at hop
   obtain ⟨⟨h1,h2⟩,h3⟩:=hop
   split at h3
   ·rename_i e he; exact st_toSl hC hK hd hdst ho hi (tyB_ok h2).str (elemOf_ok he) (tyB_ok h3).int h1 h
   ·simp at h3
  ·simp at hop
 case h_37 y hi=>
  split at hop
  ·rename_i s d x ho
   simp only [Bool.and_eq_true] at hop
   obtain ⟨⟨h1,h2⟩,h3⟩:=hop
   split at h3
   ·rename_i e he; exact st_toStr hC hK hd hdst ho hi (elemOf_ok he) (tyB_ok h3).int (tyB_ok h2).str h1 h
   ·simp at h3
  ·simp at hop
 case h_38 y hi=>
  split at hop
  ·rename_i x ho
   exact st_nilck hC hK hd hdst ho hi hop h
  ·simp at hop
 case h_39 k hi=>
  split at hop
  ·rename_i k' ho
   rw [beq_iff_eq] at hop
   subst hop
   exact st_nxt hC hK hd hdst ho hi h
  ·simp at hop
 case h_40 neg x' y' hi=>
  split at hop
  ·rename_i op t x y yt ho
   simp only [Bool.and_eq_true,decide_eq_true_eq] at hop
   obtain ⟨⟨⟨rfl,h2⟩,h3⟩,h4⟩:=hop
   exact st_eqB hC hK hd hdst ho hi h2 h3 h4 h
  ·simp at hop
 case h_41 neg T x' y' _ hi=>
  split at hop
  ·rename_i op t x y yt ho
   simp only [Bool.and_eq_true,decide_eq_true_eq] at hop
   obtain ⟨⟨⟨rfl,h2⟩,h3⟩,h4⟩:=hop
   exact st_eqS hC hK hd hdst ho hi h2 h3 h4 h
  ·simp at hop
 case h_42 f ys hi=>
  split at hop
  ·rename_i g us ats ho
   split at hop
   ·rename_i v us' hus
    simp only [Bool.and_eq_true,beq_iff_eq] at hop
    obtain ⟨⟨h0,rfl⟩,h1⟩:=hop
    exact st_callN hgood hC hK hd hdst ho hi hus (show v=_ from eq1_eq h0) h1 h
   ·simp at hop
  ·simp at hop
 case h_43 f ys hi=>
  split at hop
  ·rename_i g us ats ho
   simp only [Bool.and_eq_true,beq_iff_eq] at hop
   obtain ⟨rfl,h1⟩:=hop
   exact st_callF hgood hC hK hd hdst ho hi h1 h
  ·simp at hop
 case h_44 y hi=>
  split at hop
  ·rename_i x ho; exact st_cp hC hK hd hdst (.inl ho) hi hop h
  ·rename_i x ho; exact st_cp hC hK hd hdst (.inr ho) hi hop h
  ·simp at hop
 case h_45 f y hi=>
  split at hop
  ·rename_i g us ats ho
   split at hop
   ·rename_i x hus
    simp only [Bool.and_eq_true,beq_iff_eq] at hop
    obtain ⟨rfl,h1⟩:=hop
    exact st_wrl hgood hC hK hd hdst ho hi hus h1 h
   ·simp at hop
  ·simp at hop
 case h_46 t e hi=>
  split at hop
  ·rename_i t' ho
   simp only [Bool.and_eq_true,beq_iff_eq] at hop
   obtain ⟨rfl,h1⟩:=hop
   exact st_sbn hC hK hd hdst ho hi h1 h
  ·simp at hop
 case h_47 f k y hi=>
  split at hop
  ·rename_i g us ats ho
   split at hop
   ·rename_i k' x hus
    simp only [Bool.and_eq_true,beq_iff_eq] at hop
    obtain ⟨⟨rfl,rfl⟩,h1⟩:=hop
    exact st_sbw hgood hC hK hd hdst ho hi hus h1 h
   ·simp at hop
  ·simp at hop
 case h_48 f k hi=>
  split at hop
  ·rename_i g us ats ho
   split at hop
   ·rename_i k' hus
    simp only [Bool.and_eq_true,beq_iff_eq] at hop
    obtain ⟨rfl,rfl⟩:=hop
    exact st_sbs hgood hC hK hd hdst ho hi hus h
   ·simp at hop
  ·simp at hop
 case h_49 f y z hi=>
  split at hop
  ·rename_i g us ats ho
   split at hop
   ·rename_i x u hus
    simp only [Bool.and_eq_true,beq_iff_eq] at hop
    obtain ⟨⟨rfl,h0⟩,h1⟩:=hop
    exact st_hod hgood hC hK hd hdst ho hi hus h0 h1 h
   ·simp at hop
  ·simp at hop
 case h_50 f y ys hi=>
  split at hop
  ·rename_i g us ats ho
   split at hop
   ·rename_i u us' hus
    simp only [Bool.and_eq_true,beq_iff_eq] at hop
    obtain ⟨⟨rfl,h0⟩,h1⟩:=hop
    exact st_lnd hgood hC hK hd hdst ho hi hus h0 h1 h
   ·simp at hop
  ·simp at hop
end
end Go.Fw
/- Soundness, part 22: regions, code. -/
namespace Go.Fw
open Go Go.RowKit
def okGuard (ops:Array Oper):Option (Nat×Bool)→Option (Nat×Bool)→Bool
 | none,none=>true
 | some (j,b),some (s,b')=>b==b'&&(match ops[j]? with | some o=>decide (o.dst=some s) | none=>false)
 | _,_=>false
def okOps (P:Program) (n:Nat) (ops:Array Oper):Nat→List AI→Bool
 | j,[]=>j==ops.size
 | j,i::r=>(match ops[j]? with | some o=>okGuard ops o.guard i.guard&&okAI P n o i | none=>false)&&okOps P n ops (j+1) r
def noZ (i:AI):Bool:=match i.dst with | some 0=>false | _=>true
theorem noZ_ne {i:AI} (h:noZ i=true):i.dst≠some 0:=by
 intro e; unfold noZ at h; rw [e] at h; simp at h
section
variable {P:Program} {B:Nat} {G0:Nat→Nat→Prop} {W0:Base} {n:Nat} {env env':Env} {tm:Array Value} {a:Act} {w:World} {ob:Nat→OB} {cl:Cal}
variable {R:Type} {r:R} {Q:Exit→Act→World→Prop}
theorem Conc.ext (hC:Conc P B G0 W0 n env tm w ob) (h:∀ k,look env' k=look env k):∃ ob',Conc P B G0 W0 n env' tm w ob':=Conc.forget hC (fun k=>.inl (h k))
theorem Conc.keep (hC:Conc P B G0 W0 n env tm w ob) (live:List Nat):∃ ob',Conc P B G0 W0 n (Fw.keep live env) tm w ob':=by
 refine Conc.forget hC (fun k=>?_)
 rw [look_keep]
 have gone:∀ j,leads k (look (Fw.keep live env) j)=true→k∈live∧(look env k).home=true:=by
  intro j hj
  rw [look_keep] at hj
  split at hj
  ·rcases keepE_or live (look env j) with ⟨h1,h2⟩ | h1
   ·rw [h1] at hj; exact ⟨h2 k hj,(ERep.leads hj (hC.rep j)).1⟩
   ·rw [h1] at hj; simp [leads] at hj
  ·simp [leads] at hj
 by_cases hk:k∈live
 ·rw [if_pos hk]
  rcases keepE_or live (look env k) with ⟨h1,_⟩ | h1
  ·exact .inl h1
  ·by_cases hh:(look env k).home=true
   ·left
    have:ledTo (look env k)=[]:=by
     cases he:look env k<;>rw [he] at hh<;>first | rfl | (exfalso; simp [E.home] at hh; done)
    unfold keepE; rw [this]; rfl
   ·exact .inr ⟨h1,fun j hj=>hh (gone j hj).2⟩
 ·rw [if_neg hk]
  exact .inr ⟨rfl,fun j hj=>hk (gone j hj).1⟩
theorem kept (hC:Conc P B G0 W0 n env a.tmps w ob) {o:Oper} {j:Nat} {ops:Array Oper} {s:Nat} {b:Bool} (hj:ops[j]?=some o) (hd:o.dst=some s) (hs:look env s=.v .bool b):yielded ops a.tmps j=some b:=by
 have hr:=hC.rep s
 rw [hs] at hr
 obtain ⟨_,vs,h1,h2⟩:=hr
 unfold Flat at h1
 obtain ⟨rfl,_⟩:=h1
 have h3:a.tmps.getD s undef=.bool b:=h2
 unfold yielded
 simp only [hj,Option.bind_some,hd]
 cases h4:a.tmps[s]? with
 | none=>
   have:a.tmps.getD s undef=undef:=by simp [Array.getD_eq_getD_getElem?,h4]
   rw [this] at h3; exact absurd h3 (by simp [undef])
 | some v=>
   have:a.tmps.getD s undef=v:=by simp [Array.getD_eq_getD_getElem?,h4]
   rw [this] at h3; subst h3; rfl
theorem kept_und (hC:Conc P B G0 W0 n env a.tmps w ob) {o:Oper} {j:Nat} {ops:Array Oper} {s:Nat} (hj:ops[j]?=some o) (hd:o.dst=some s) (hs:look env s=.und):yielded ops a.tmps j=none:=by
 have hr:=hC.rep s
 rw [hs] at hr
 have h3:a.tmps.getD s undef=undef:=hr.1
 unfold yielded
 simp only [hj,Option.bind_some,hd]
 cases h4:a.tmps[s]? with
 | none=>rfl
 | some v=>
   have:a.tmps.getD s undef=v:=by simp [Array.getD_eq_getD_getElem?,h4]
   rw [this] at h3; subst h3; rfl
theorem ops_sound {K:Kont R} (hgood:Good P W0.t cl) {ops:Array Oper}:∀ (l:List AI) (j:Nat) (env:Env) (a:Act) (w:World) (ob:Nat→OB),okOps P n ops j l=true→(W0.pin=none∨l.all noZ=true)→Conc P B G0 W0 n env a.tmps w ob→Fw.ops cl l env K=some r→
  KOk P B G0 W0 n a K r (fun a' w'=>Q .normal a' w')→wpOps P ops Q (List.range' j (ops.size - j)) a w
 | [],j,env,a,w,ob,hok,_,hC,h,hK=>by
   simp only [okOps,beq_iff_eq] at hok
   rw [hok,Nat.sub_self]
   have:=hK env a.tmps w ob hC h
   exact this
 | i::l,j,env,a,w,ob,hok,hz,hC,h,hK=>by
   have hz1:W0.pin=none∨i.dst≠some 0:=hz.imp id fun h=>by simp only [List.all_cons,Bool.and_eq_true] at h; exact noZ_ne h.1
   have hz2:W0.pin=none∨l.all noZ=true:=hz.imp id fun h=>by simp only [List.all_cons,Bool.and_eq_true] at h; exact h.2
   simp only [okOps,Bool.and_eq_true] at hok
   obtain ⟨h1,h2⟩:=hok
   split at h1
   case h_2=>simp at h1
   rename_i o hj
   simp only [Bool.and_eq_true] at h1
   obtain ⟨hg,hai⟩:=h1
   have hlt:j < ops.size:=(Array.getElem?_eq_some_iff.1 hj).1
   have hr:List.range' j (ops.size - j)=j::List.range' (j+1) (ops.size - (j+1)):=by
    rw [show ops.size - j=(ops.size - (j+1))+1 by omega,List.range'_succ]
   rw [hr]
   simp only [wpOps,hj]
   have hdst:i.dst=o.dst:=by simp only [okAI,Bool.and_eq_true,decide_eq_true_eq] at hai; exact hai.1.1
   have hd:∀ k,o.dst=some k→Dst W0 n k:=by
    simp only [okAI,Bool.and_eq_true,decide_eq_true_eq] at hai
    intro k hk
    have:=hai.1.2
    rw [hk] at this; exact ⟨by simpa using this,hz1.imp id fun h e=>h (by rw [hdst,hk,e])⟩
   have yes:∀ (env:Env) (ob:Nat→OB),Conc P B G0 W0 n env a.tmps w ob→step cl i env (fun env=>Fw.ops cl l env K)=some r→o.wp P a w (wpOps P ops Q (List.range' (j+1) (ops.size - (j+1)))) Q:=by
    intro env ob hC h
    exact st_ok hgood hC (fun env' tm' w' ob' hC' h'=>ops_sound hgood l (j+1) env' {a with tmps:=tm'} w' ob' h2 hz2 hC' h' (fun e2 t2 w2 o2 h3 h4=>hK e2 t2 w2 o2 h3 h4)) hai hz1 h
   have no:∀ (env:Env) (ob:Nat→OB),Conc P B G0 W0 n env a.tmps w ob→Fw.ops cl l (putO env i.dst .und) K=some r→wpOps P ops Q (List.range' (j+1) (ops.size - (j+1))) (a.put o.dst undef) w:=by
    intro env ob hC h
    rw [hdst] at h
    obtain ⟨ob',hC'⟩:=Conc.putO (e:=.und) (v:=undef) hC hd (Grows.refl w) ⟨rfl,rfl⟩ a rfl
    refine ops_sound hgood l (j+1) _ _ w ob' h2 hz2 hC' h (fun e2 t2 w2 o2 h3 h4=>?_)
    have:=hK e2 t2 w2 o2 h3 h4
    have e:({(a.put o.dst undef) with tmps:=t2}:Act)={a with tmps:=t2}:=by cases o.dst<;>rfl
    rw [e]; exact this
   unfold Fw.ops guardX at h
   cases hog:o.guard with
   | none=>
     cases hig:i.guard with
     | some q=>rw [hog,hig] at hg; simp [okGuard] at hg
     | none=>
       rw [hig] at h
       have hw:Region.wanted o (yielded ops a.tmps)=true:=by simp [Region.wanted,hog]
       rw [if_pos hw]
       exact .inl (yes env ob hC h)
   | some q=>
     obtain ⟨gj,gb⟩:=q
     cases hig:i.guard with
     | none=>rw [hog,hig] at hg; simp [okGuard] at hg
     | some q'=>
       obtain ⟨s,pol⟩:=q'
       rw [hog,hig] at hg
       simp only [okGuard,Bool.and_eq_true,beq_iff_eq] at hg
       obtain ⟨rfl,hg⟩:=hg
       split at hg
       case h_2=>simp at hg
       rename_i og hgj
       simp only [decide_eq_true_eq] at hg
       rw [hig] at h
       simp only at h
       split at h
       ·rename_i b hs
        have hy:=kept hC hgj hg hs
        have hw:Region.wanted o (yielded ops a.tmps)=(b==gb):=by
         simp only [Region.wanted,hog,hy]
         cases b<;>cases gb<;>rfl
        have ext:∀ b',b=b'→∃ ob',Conc P B G0 W0 n ((s,.v .bool b')::env) a.tmps w ob':=by
         rintro b' rfl
         refine Conc.ext hC (fun k=>?_)
         rw [look_cons]
         split
         ·rename_i e; subst e; exact hs.symm
         ·rfl
        cases b with
        | true=>
          obtain ⟨ob',hC'⟩:=ext true rfl
          simp only [brB] at h
          cases gb with
          | true=>
            rw [if_pos (by rw [hw]; rfl)]
            exact .inl (yes _ _ hC' h)
          | false=>
            rw [if_neg (by rw [hw]; decide)]
            exact no _ _ hC' h
        | false=>
          obtain ⟨ob',hC'⟩:=ext false rfl
          simp only [brB] at h
          cases gb with
          | true=>
            rw [if_neg (by rw [hw]; decide)]
            exact no _ _ hC' h
          | false=>
            rw [if_pos (by rw [hw]; rfl)]
            exact .inl (yes _ _ hC' h)
       ·rename_i hs
        have hy:=kept_und hC hgj hg hs
        rw [if_neg (by simp [Region.wanted,hog,hy])]
        exact no _ _ hC h
       ·simp at h
theorem loop_rounds {c:Code} (J:Nat→Act→World→Prop) (h0:∀ a w,¬ J 0 a w) (hs:∀ m a w,J (m+1) a w→c.wp P (Exit.then (J m) Q) a w):∀ (m:Nat) (a:Act) (w:World),J m a w→(Code.loop c).wp P Q a w:=by
 have key:∀ m a w,J m a w→∀ (b:Frame) (k:List Item) (cs:List Frame),∃ e a' w',Q e a' w'∧Arrives P (lone (b.at a (.code c::.inLoop c::k)) cs w) b k cs e a' w':=by
  intro m
  induction m with
  | zero=>intro a w h; exact absurd h (h0 a w)
  | succ m ih=>
    intro a w h b k cs
    obtain ⟨e,a₁,w₁,hq,harr⟩:=hs m a w h b (.inLoop c::k) cs
    cases e with
    | normal=>
      obtain ⟨e₂,a₂,w₂,hq₂,harr₂⟩:=ih a₁ w₁ hq b k cs
      exact ⟨e₂,a₂,w₂,hq₂,.of_steps (Steps.trans harr (.one step_inLoop)) harr₂⟩
    | exit id=>exact ⟨_,a₁,w₁,hq,.pass (x:=.inLoop c) rfl (fun _ _=>.inl (by simp)) harr⟩
    | goto l=>exact ⟨_,a₁,w₁,hq,.pass (x:=.inLoop c) rfl (fun _ _=>.inl (by simp)) harr⟩
    | ret=>exact ⟨_,a₁,w₁,hq,.pass (x:=.inLoop c) rfl (fun _ _=>.inl (by simp)) harr⟩
    | panic ch=>exact ⟨_,a₁,w₁,hq,.pass (x:=.inLoop c) rfl (fun _ _=>.inl (by simp)) harr⟩
    | outgrown=>exact ⟨_,a₁,w₁,hq,.pass (x:=.inLoop c) rfl (fun _ _=>.inl (by simp)) harr⟩
 intro m a w h b k cs
 obtain ⟨e,a',w',hq,harr⟩:=key m a w h b k cs
 exact ⟨e,a',w',hq,.of_steps (.one step_loop) harr⟩
end
end Go.Fw
/- Soundness: regions whose order is open. -/
namespace Go.Fw
open Go Go.RowKit
abbrev Ch:=List (Nat×E)
def Ch.ks (δ:Ch):List Nat:=δ.map (·.1)
theorem look_app_mem {δ:Ch} {env:Env} {k:Nat} (h:k∈Ch.ks δ):look (δ++env) k=look δ k:=by
 induction δ with
 | nil=>simp [Ch.ks] at h
 | cons q δ ih=>
   obtain ⟨j,e⟩:=q
   rw [List.cons_append,look_cons,look_cons]
   split
   ·rfl
   ·rename_i hj
    apply ih
    simp only [Ch.ks,List.map_cons,List.mem_cons] at h
    rcases h with h | h
    ·exact absurd h.symm hj
    ·exact h
theorem look_app_not {δ:Ch} {env:Env} {k:Nat} (h:k∉Ch.ks δ):look (δ++env) k=look env k:=by
 induction δ with
 | nil=>rfl
 | cons q δ ih=>
   obtain ⟨j,e⟩:=q
   simp only [Ch.ks,List.map_cons,List.mem_cons,not_or] at h
   rw [List.cons_append,look_cons,if_neg (fun e=>h.1 e.symm)]
   exact ih h.2
def Inv (D:Nat→Ch) (env0:Env) (S:Nat→Prop) (env:Env):Prop:=
 ∀ k,(∃ m,S m∧k∈(D m).ks∧(∀ m',m < m'→S m'→k∉(D m').ks)∧look env k=look (D m) k)∨((∀ m,S m→k∉(D m).ks)∧look env k=look env0 k)
theorem Inv.start {D:Nat→Ch} {env0:Env} {S:Nat→Prop} (h:∀ m,¬ S m):Inv D env0 S env0:=fun _=>.inr ⟨fun m hm=>absurd hm (h m),rfl⟩
theorem Inv.add {D:Nat→Ch} {env0 env:Env} {S:Nat→Prop} {i:Nat} (h:Inv D env0 S env) (hi:∀ k∈(D i).ks,∀ m',i < m'→S m'→k∉(D m').ks):Inv D env0 (fun m=>S m∨m=i) (D i++env):=by
 intro k
 by_cases hk:k∈(D i).ks
 ·refine .inl ⟨i,.inr rfl,hk,fun m' hm hs=>?_,look_app_mem hk⟩
  rcases hs with hs | rfl
  ·exact hi k hk m' hm hs
  ·omega
 ·rw [look_app_not hk]
  rcases h k with ⟨m,h1,h2,h3,h4⟩ | ⟨h1,h2⟩
  ·refine .inl ⟨m,.inl h1,h2,fun m' hm hs=>?_,h4⟩
   rcases hs with hs | rfl
   ·exact h3 m' hm hs
   ·exact hk
  ·refine .inr ⟨fun m hm=>?_,h2⟩
   rcases hm with hm | rfl
   ·exact h1 m hm
   ·exact hk
theorem Inv.set {D:Nat→Ch} {env0 env:Env} {S S':Nat→Prop} (h:Inv D env0 S env) (hs:∀ m,S m↔S' m):Inv D env0 S' env:=by
 intro k
 rcases h k with ⟨m,h1,h2,h3,h4⟩ | ⟨h1,h2⟩
 ·exact .inl ⟨m,(hs m).1 h1,h2,fun m' hm hs'=>h3 m' hm ((hs m').2 hs'),h4⟩
 ·exact .inr ⟨fun m hm=>h1 m ((hs m).2 hm),h2⟩
theorem Inv.ext {D:Nat→Ch} {env0 e1 e2:Env} {S:Nat→Prop} (h:Inv D env0 S e1) (he:∀ k,look e2 k=look e1 k):Inv D env0 S e2:=by
 intro k
 rcases h k with ⟨m,h1,h2,h3,h4⟩ | ⟨h1,h2⟩
 ·exact .inl ⟨m,h1,h2,h3,by rw [he]; exact h4⟩
 ·exact .inr ⟨h1,by rw [he]; exact h2⟩
theorem Inv.same {D:Nat→Ch} {env0 e1 e2:Env} {S S':Nat→Prop} {k:Nat} (h:Inv D env0 S e1) (h':Inv D env0 S' e2) (hk:∀ m,k∈(D m).ks→(S m↔S' m)):look e1 k=look e2 k:=by
 rcases h k with ⟨m,h1,h2,h3,h4⟩ | ⟨h1,h2⟩
 ·rcases h' k with ⟨m',h1',h2',h3',h4'⟩ | ⟨h1',_⟩
  ·have:m=m':=by
    rcases Nat.lt_trichotomy m m' with hl | hl | hl
    ·exact absurd h2' (h3 m' hl ((hk m' h2').2 h1'))
    ·exact hl
    ·exact absurd h2 (h3' m hl ((hk m h2).1 h1))
   subst this
   rw [h4,h4']
  ·exact absurd h2 (h1' m ((hk m h2).1 h1))
 ·rcases h' k with ⟨m',h1',h2',_,_⟩ | ⟨_,h2'⟩
  ·exact absurd h2' (h1 m' ((hk m' h2').2 h1'))
  ·rw [h2,h2']
section
variable {cl:Cal} {env:Env} {R:Type} {K:Kont R}
theorem free_putO {d:Option Nat} {e:E} (h:free env d=true):putO env d e=one d e++env:=by
 cases d with
 | none=>rfl
 | some d=>
   simp only [free,Bool.not_eq_true'] at h
   simp only [putO,put,h,one,leadsOff]
   rfl
theorem kill_none {s:Nat}:∀ {env:Env},(∀ q∈env,leads s q.2=false)→kill s env=env
 | [],_=>rfl
 | q::env,h=>by
   have h1:=kill_none (s:=s) (env:=env) (fun q' hq=>h q' (List.mem_cons_of_mem _ hq))
   unfold kill at h1 ⊢
   rw [List.map_cons,h1,h q (List.mem_cons_self ..)]
   rfl
theorem app_pub {d:Option Nat} {k0:Nat} {x:Od} {q:TV×List (Nat×E)} (h:(appR d k0 x).run (look env)=some q):
  pub env x=some (q.2++env,q.1)∧(∀ s,∀ u∈q.2,leads s u.2=false)∧look (q.2++env) k0=look env k0∧∀ d',d=some d'→look (q.2++env) d'=look env d':=by
 unfold appR at h
 rw [Rd.run_bind,ent_run] at h
 replace h:=notDead_bind h
 split at h
 ·rename_i T y he
  cases h
  refine ⟨by unfold pub; rw [he]; rfl,fun s u hu=>by simp at hu,rfl,fun _ _=>rfl⟩
 ·rename_i wr ed T o xs he
  split at h
  ·rename_i k
   rw [Rd.run_if] at h
   split at h
   ·rename_i hc
    simp only [Bool.and_eq_true,Bool.not_eq_true',beq_eq_false_iff_ne] at hc
    obtain ⟨⟨h1,h2⟩,h3⟩:=hc
    cases h
    have hl:look env k=.own wr ed T o xs:=he
    refine ⟨?_,fun s u hu=>?_,?_,fun d' hd=>?_⟩
    ·unfold pub
     rw [he]
     simp only [imm,h3,if_true,Option.bind_some,homeOf,freeze,hl]
     rfl
    ·simp only [List.mem_singleton] at hu; subst hu; rfl
    ·show look ((k,_)::env) k0=_
     rw [look_cons,if_neg h1]
    ·subst hd
     simp only [apart,Bool.not_eq_true',beq_eq_false_iff_ne] at h2
     show look ((k,_)::env) d'=_
     rw [look_cons,if_neg (Ne.symm h2)]
   ·simp [Rd.run_no] at h
  ·simp [Rd.run_no] at h
 ·simp [Rd.run_no] at h
def Frzn (d:Option Nat) (env:Env) (ch:List (Nat×E)):Prop:=∀ q∈ch,(∃ wr ed T o,∃ xs:List (den T),look env q.1=.own wr ed T o xs)∧apart d q.1=true
theorem look_frzn {d:Option Nat} {ch:List (Nat×E)} {k:Nat} (h:∀ q∈ch,q.1≠k):look (ch++env) k=look env k:=by
 induction ch with
 | nil=>rfl
 | cons q ch ih=>
   rw [List.cons_append,look_cons,if_neg (h q (List.mem_cons_self ..))]
   exact ih fun q' hq=>h q' (List.mem_cons_of_mem _ hq)
theorem pub_run {d:Option Nat} {ch:List (Nat×E)} {x:Od} {q:TV×List (Nat×E)} (hc:Frzn d env ch) (h:(pubR d ch x).run (look env)=some q):pub (ch++env) x=some (q.2++env,q.1)∧Frzn d env q.2:=by
 unfold pubR at h
 rw [Rd.run_bind,ent_run] at h
 replace h:=notDead_bind h
 split at h
 ·rename_i T y he
  cases h
  have he2:ent (ch++env) x=.v T y:=by
   cases x with
   | t k=>
     have he:look env k=.v T y:=he
     show look (ch++env) k=_
     rw [look_frzn (d:=d) fun u hu e=>?_,he]
     obtain ⟨⟨wr,ed,T',o,xs,h1⟩,_⟩:=hc u hu
     rw [e,he] at h1; cases h1
   | c T' y'=>exact he
   | nil e T'=>exact he
   | fn f A C=>exact he
  exact ⟨by unfold pub; rw [he2]; rfl,hc⟩
 ·rename_i wr ed T o xs he
  split at h
  ·rename_i k
   rw [Rd.run_if] at h
   split at h
   ·rename_i hk
    simp only [Bool.and_eq_true,List.all_eq_true,Bool.not_eq_true',beq_eq_false_iff_ne] at hk
    obtain ⟨⟨h1,h2⟩,h3⟩:=hk
    cases h
    have he:look env k=.own wr ed T o xs:=he
    have hl:look (ch++env) k=.own wr ed T o xs:=by rw [look_frzn (d:=d) h1,he]
    have he2:ent (ch++env) (.t k)=.own wr ed T o xs:=hl
    refine ⟨?_,fun u hu=>?_⟩
    ·unfold pub
     rw [he2]
     simp only [imm,h3,if_true,Option.bind_some,homeOf,freeze,hl]
     rfl
    ·rcases List.mem_cons.1 hu with rfl | hu
     ·exact ⟨⟨wr,ed,T,o,xs,he⟩,h2⟩
     ·exact hc u hu
   ·simp [Rd.run_no] at h
  ·simp [Rd.run_no] at h
 ·simp [Rd.run_no] at h
theorem buildP_run {d:Option Nat}:∀ (T:Ty) (x:den T) (ch:List (Nat×E)) (l:List (Path×Od)) (q:den T×List (Nat×E)),Frzn d env ch→(buildP d T x ch l).run (look env)=some q→buildV T x (ch++env) l=some (q.2++env,q.1)∧Frzn d env q.2
 | T,x,ch,[],q,hc,h=>by simp only [buildP,Rd.run_ok,Option.some.injEq] at h; subst h; exact ⟨by simp [buildV],hc⟩
 | T,x,ch,(p,a)::r,q,hc,h=>by
   unfold buildP at h
   rw [Rd.run_bind] at h
   obtain ⟨u,hu,h⟩:=Option.bind_eq_some_iff.1 h
   rw [Rd.run_bind,Rd.run_of] at h
   obtain ⟨z,hz,h⟩:=Option.bind_eq_some_iff.1 h
   obtain ⟨h1,h2⟩:=pub_run hc hu
   unfold buildV
   rw [h1]
   simp only [Option.bind_some,hz]
   exact buildP_run T z u.2 r q h2 h
theorem wrR_step {d:Option Nat} {op:AOp} {g:Option (Nat×Bool)} {δ:Ch} (h:(wrR cl d op).run (look env)=some δ) (hf:free env d=true) (hn:∀ s,eatsOf op=some s→∀ q∈env,leads s q.2=false):step cl ⟨d,op,g⟩ env K=K (δ++env):=by
 have pure:((valE cl d op).bind fun e=>Rd.ok (one d e)).run (look env)=some δ→step cl ⟨d,op,g⟩ env K=K (δ++env):=by
  intro h
  rw [Rd.run_bind] at h
  obtain ⟨e,he,h⟩:=Option.bind_eq_some_iff.1 h
  cases h
  rw [valE_step (i:=⟨d,op,g⟩) he,free_putO hf]
 cases op
 case store T a x=>
  simp only [wrR] at h
  rw [Rd.run_bind,val_run] at h
  obtain ⟨y,hy,h⟩:=Option.bind_eq_some_iff.1 h
  rw [Rd.run_bind,Rd.run_of] at h
  obtain ⟨z,hz,h⟩:=Option.bind_eq_some_iff.1 h
  rw [Rd.run_bind,ent_run] at h
  have h:=notDead_bind h
  have hpub:=pub_val hy
  have hx:=valOf_some hy
  have himm:imm env (ent env x)=some y:=by rw [hx]; rfl
  have loc:∀ s p,locPlace env a=some (s,p)→(stoR T z s p (look env s)).run (look env)=some δ→step cl ⟨d,.store T a x,g⟩ env K=K (δ++env):=by
   intro s p h0 h
   have h1:∀ T0 o x0,look env s=.loc T0 o x0→(scalarT T || (annAt o p).pure)=true→step cl ⟨d,.store T a x,g⟩ env K=(setP T0 p x0 ⟨T,z⟩).bind fun x1=>K ((s,.loc T0 o x1)::env):=by
    intro T0 o x0 hl hsc
    unfold locPlace at h0
    by_cases hs1:scalarT T=true
    case neg=>
     have hp:(annAt o p).pure=true:=by simpa [hs1] using hsc
     cases he:ent env a<;>rw [he] at h0<;>first | (exfalso; simp at h0; done) | skip
     ·simp only [step,he,locPlace,h0,hl,if_neg hs1,hx,hpub,Option.bind_some,hz,hp]
     ·simp only [Option.some.injEq,Prod.mk.injEq] at h0
      obtain ⟨rfl,rfl⟩:=h0
      simp only [step,he,locPlace,hl,if_neg hs1,hx,hpub,Option.bind_some,hz,hp]
    replace hsc:=hs1
    cases he:ent env a<;>rw [he] at h0<;>first | (exfalso; simp at h0; done) | skip
    ·simp only [step,he,locPlace,h0,hl,hsc,if_true,himm,Option.bind_some,hz]
    ·simp only [Option.some.injEq,Prod.mk.injEq] at h0
     obtain ⟨rfl,rfl⟩:=h0
     simp only [step,he,locPlace,hl,hsc,if_true,himm,Option.bind_some,hz]
   cases hl:look env s<;>rw [hl] at h<;>simp only [stoR,Rd.run_no] at h<;>first | (exfalso; simp at h; done) | skip
   rename_i T0 o x0
   rw [Rd.run_if] at h
   split at h
   ·rename_i hsc
    rw [Rd.run_bind,Rd.run_of] at h
    obtain ⟨x1,hx1,h⟩:=Option.bind_eq_some_iff.1 h
    cases h
    rw [h1 T0 o x0 hl hsc,hx1]
    rfl
   ·simp [Rd.run_no] at h
  split at h
  ·rename_i s j q he
   rw [Rd.run_bind,Rd.run_get] at h
   have h:=notDead_bind h
   cases hl:look env s<;>rw [hl] at h<;>simp only [stoH,Rd.run_no] at h<;>first | (exfalso; simp at h; done) | skip
   rename_i wr ed T0 o xs
   cases wr
   ·simp [Rd.run_no] at h
   ·simp only [Rd.run_ite] at h
    split at h
    ·rename_i hj
     rw [Rd.run_bind,Rd.run_of] at h
     obtain ⟨u,hu,h⟩:=Option.bind_eq_some_iff.1 h
     rw [Rd.run_if] at h
     split at h
     ·rename_i ho
      cases h
      simp only [step,he,hl,hpub,Option.bind_some,hz,if_pos hj,hu,if_pos ho]
      rfl
     ·simp [Rd.run_no] at h
    ·simp [Rd.run_no] at h
  ·rename_i s p he
   rw [Rd.run_bind,Rd.run_get] at h
   exact loc s p (by simp only [locPlace,he]) (notDead_bind h)
  ·rename_i T0 o x0 he
   split at h
   ·rename_i k _ _ _
    have hl:look env k=.loc T0 o x0:=he
    rw [he,←hl] at h
    exact loc k [] (by simp only [locPlace,he,Od.slot,Option.map_some]) h
   ·simp [Rd.run_no] at h
  ·simp [Rd.run_no] at h
 case sliceL T x lo hi mx=>
  simp only [wrR] at h
  rw [Rd.run_bind,ent_run] at h
  have h:=notDead_bind h
  split at h
  ·rename_i s p he
   split at h
   ·rw [Rd.run_bind,Rd.run_get] at h
    have h:=notDead_bind h
    split at h
    ·rename_i wr ed T' o xs hl
     rw [Rd.run_if] at h
     split at h
     ·rename_i ho
      rw [Rd.run_bind] at h
      obtain ⟨v,hv,h⟩:=Option.bind_eq_some_iff.1 h
      cases h
      unfold slcR at hv
      rw [Rd.run_bind,optInt_run] at hv
      obtain ⟨q1,hq1,hv⟩:=Option.bind_eq_some_iff.1 hv
      rw [Rd.run_bind,optInt_run] at hv
      obtain ⟨q2,hq2,hv⟩:=Option.bind_eq_some_iff.1 hv
      rw [Rd.run_bind,optInt_run] at hv
      obtain ⟨q3,hq3,hv⟩:=Option.bind_eq_some_iff.1 hv
      rw [Rd.run_bind,Rd.run_of] at hv
      obtain ⟨ys,hys,hv⟩:=Option.bind_eq_some_iff.1 hv
      rw [Rd.run_ite] at hv
      split at hv
      ·rename_i hb
       cases hv
       have hpub:pub env x=some (freeze env s,⟨.sl T',xs⟩):=by simp [pub,he,imm,heldAt,hl,ho,homeOf]
       have hfr:freeze env s=(s,.own false ed T' o.frz xs)::env:=by simp [freeze,hl]
       have hf2:free ((s,.own false ed T' o.frz xs)::env) d=true:=by
        cases d with
        | none=>rfl
        | some d=>
          simp only [free] at hf ⊢
          rw [look_cons]
          by_cases hsd:s=d
          ·subst hsd; rw [hl] at hf; simp [E.home] at hf
          ·rw [if_neg hsd]; exact hf
       simp only [step,hq1,hq2,hq3,Option.bind_some,hpub,hys,if_pos hb,hfr,free_putO hf2,List.append_assoc,List.cons_append,List.nil_append]
      ·simp [Rd.run_no] at hv
     ·simp [Rd.run_no] at h
    ·simp [Rd.run_no] at h
   ·simp [Rd.run_no] at h
  ·exact pure h
 case cp x=>
  simp only [wrR] at h
  rw [Rd.run_bind,ent_run] at h
  replace h:=notDead_bind h
  split at h
  ·rename_i T y he
   cases h
   have hpub:pub env x=some (env,⟨T,y⟩):=by simp [pub,he,imm,homeOf]
   simp only [step,hpub,Option.bind_some,free_putO hf]
  ·rename_i wr ed T o xs he
   split at h
   ·rename_i k
    rw [Rd.run_if] at h
    split at h
    ·rename_i ho
     cases h
     have hl:look env k=.own wr ed T o xs:=he
     have hpub:pub env (.t k)=some (freeze env k,⟨.sl T,xs⟩):=by simp [pub,he,imm,ho,homeOf]
     have hfr:freeze env k=(k,.own false ed T o.frz xs)::env:=by simp [freeze,hl]
     have hf2:free ((k,.own false ed T o.frz xs)::env) d=true:=by
      cases d with
      | none=>rfl
      | some d=>
        simp only [free] at hf ⊢
        rw [look_cons]
        by_cases hsd:k=d
        ·subst hsd; rw [hl] at hf; simp [E.home] at hf
        ·rw [if_neg hsd]; exact hf
     simp only [step,Option.bind_some,hpub,hfr,free_putO hf2,List.append_assoc,List.cons_append,List.nil_append]
    ·simp [Rd.run_no] at h
   ·simp [Rd.run_no] at h
  ·simp [Rd.run_no] at h
 case mv x=>
  simp only [wrR] at h
  rw [Rd.run_bind,ent_run] at h
  replace h:=notDead_bind h
  split at h
  ·rename_i es he
   split at h
   ·rename_i k d
    rw [Rd.run_if] at h
    split at h
    ·simp [Rd.run_no] at h
    ·rename_i hkd
     cases h
     have hh:(look env d).home=false:=by simpa [free] using hf
     simp only [step,moveE,he,hkd,hh]
     rfl
   ·simp [Rd.run_no] at h
  ·exact pure h
 case build T parts=>
  simp only [wrR] at h
  rw [Rd.run_bind] at h
  obtain ⟨q,hq,h⟩:=Option.bind_eq_some_iff.1 h
  cases h
  obtain ⟨h1,h2⟩:=buildP_run T (zero T) [] parts q (fun u hu=>by simp at hu) hq
  rw [List.nil_append] at h1
  have hf2:free (q.2++env) d=true:=by
   cases hd:d with
   | none=>rfl
   | some d'=>
     subst hd
     simp only [free] at hf ⊢
     rw [look_frzn (d:=some d') fun u hu e=>?_]
     ·exact hf
     ·have:=(h2 u hu).2
      simp only [apart,Bool.not_eq_true',beq_eq_false_iff_ne] at this
      exact this e.symm
  simp only [step,h1,Option.bind_some,free_putO hf2,List.append_assoc]
 case append e T lim s x=>
  simp only [wrR] at h
  split at h
  case h_2=>simp [Rd.run_no] at h
  rename_i k0
  rw [Rd.run_bind,Rd.run_get] at h
  have h:=notDead_bind h
  split at h
  case h_2=>simp [Rd.run_no] at h
  rename_i wr e' T' o xs hk0
  rw [Rd.run_bind] at h
  obtain ⟨q,hq,h⟩:=Option.bind_eq_some_iff.1 h
  rw [Rd.run_bind,Rd.run_of] at h
  obtain ⟨ys,hys,h⟩:=Option.bind_eq_some_iff.1 h
  rw [Rd.run_bind,Rd.run_of] at h
  obtain ⟨xs',hxs,h⟩:=Option.bind_eq_some_iff.1 h
  rw [Rd.run_if] at h
  split at h
  case isFalse=>simp [Rd.run_no] at h
  rename_i hc
  rw [Rd.run_ite] at h
  split at h
  case isFalse=>simp [Rd.run_no] at h
  rename_i hle
  cases h
  obtain ⟨p1,p2,p3,p4⟩:=app_pub hq
  have hl:look (q.2++env) k0=.own wr e' T' o xs:=p3.trans hk0
  have hkill:kill k0 (q.2++env)=q.2++env:=kill_none fun u hu=>by
   rcases List.mem_append.1 hu with hu | hu
   ·exact p2 k0 u hu
   ·exact hn k0 rfl u hu
  have h1:placeOf (q.2++env) k0=some (k0,[]):=by unfold placeOf; rw [hl]
  have h2:heldAt (q.2++env) k0 []=some ⟨wr,e',T',o,xs⟩:=by unfold heldAt; rw [hl]
  have h3:takeAt (q.2++env) k0 []=some ((k0,.dead)::(q.2++env)):=by unfold takeAt; rw [hl,hkill]
  have h4:free ((k0,.dead)::(q.2++env)) d=true:=by
   cases hd:d with
   | none=>rfl
   | some d'=>
     subst hd
     simp only [Bool.and_eq_true,apart,Bool.not_eq_true',beq_eq_false_iff_ne] at hc
     simp only [free] at hf ⊢
     rw [look_cons,if_neg (Ne.symm hc.1.1),p4 d' rfl]; exact hf
  simp only [step,p1,Option.bind_some,hys,h1,h2,hxs,h3,hc,if_pos hle,free_putO h4,List.append_assoc,List.cons_append]
 case hod f x g=>
  simp only [wrR] at h
  split at h
  case h_2=>simp [Rd.run_no] at h
  rename_i s
  rw [Rd.run_bind,Rd.run_get] at h
  have h:=notDead_bind h
  split at h
  case h_2=>simp [Rd.run_no] at h
  rename_i e T xs hs
  rw [Rd.run_bind,ent_run] at h
  have h:=notDead_bind h
  split at h
  case h_2=>simp [Rd.run_no] at h
  rename_i fg A C caps hg
  rw [Rd.run_if] at h
  split at h
  case isFalse=>simp [Rd.run_no] at h
  rename_i hc
  rw [Rd.run_bind,clo_run] at h
  obtain ⟨ge,hge,h⟩:=Option.bind_eq_some_iff.1 h
  rw [Rd.run_bind,Rd.run_call] at h
  obtain ⟨res,hres,h⟩:=Option.bind_eq_some_iff.1 h
  rw [Rd.run_bind,Rd.run_of] at h
  obtain ⟨y,hy,h⟩:=Option.bind_eq_some_iff.1 h
  rw [Rd.run_bind,Rd.run_of] at h
  obtain ⟨ys,hys,h⟩:=Option.bind_eq_some_iff.1 h
  cases h
  have hal:(env.all fun q=>!leads s q.2)=true:=List.all_eq_true.2 fun q hq=>by rw [hn s rfl q hq]; rfl
  have hf2:free ((s,E.dead)::env) d=true:=by
   cases hd:d with
   | none=>rfl
   | some d'=>
     subst hd
     simp only [Bool.and_eq_true,apart,Bool.not_eq_true',beq_eq_false_iff_ne] at hc
     simp only [free] at hf ⊢
     rw [look_cons,if_neg (Ne.symm hc.1)]; exact hf
  simp only [Bool.and_eq_true] at hc
  simp only [step,hs,hg,hal,hc.1,hc.2,Bool.and_self,hge,Option.bind_some,Cal.eqn,hres,hy,hys,free_putO hf2,List.append_assoc,List.cons_append,List.nil_append]
 case lnd f p args=>
  simp only [wrR] at h
  rw [Rd.run_bind,argList_run] at h
  obtain ⟨es,hes,h⟩:=Option.bind_eq_some_iff.1 h
  rw [Rd.run_bind] at h
  obtain ⟨u,hu,h⟩:=Option.bind_eq_some_iff.1 h
  have hfr:=homeless_run args hu
  rw [Rd.run_bind] at h
  obtain ⟨⟨⟨s,q⟩,e⟩,hq,h⟩:=Option.bind_eq_some_iff.1 h
  obtain ⟨hp1,hp2⟩:=place_run hq
  simp only at h hp1 hp2
  split at h
  case h_2=>simp [Rd.run_no] at h
  split at h
  case h_2=>simp [Rd.run_no] at h
  rename_i T o x
  rw [Rd.run_if] at h
  split at h
  case isFalse=>simp [Rd.run_no] at h
  rename_i hc
  simp only [Bool.and_eq_true] at hc
  rw [Rd.run_bind,Rd.run_call] at h
  obtain ⟨res,hres,h⟩:=Option.bind_eq_some_iff.1 h
  rw [Rd.run_bind,Rd.run_of] at h
  obtain ⟨y,hy,h⟩:=Option.bind_eq_some_iff.1 h
  cases h
  have hf2:free ((s,.loc T y.1 y.2.1)::env) d=true:=by
   cases hd:d with
   | none=>rfl
   | some d'=>
     subst hd
     simp only [apart,Bool.not_eq_true',beq_eq_false_iff_ne] at hc
     simp only [free] at hf ⊢
     rw [look_cons,if_neg (Ne.symm hc.1.2)]; exact hf
  simp only [step,hp1,Option.bind_some,hes,hc.1.1,hc.1.2,Bool.and_self,hfr,hp2,Cal.eqn,hres,hy,killU,hc.2,free_putO hf2,List.append_assoc,List.cons_append,List.nil_append]
 case callF f args=>
  simp only [wrR] at h
  rw [Rd.run_bind,argList_run] at h
  obtain ⟨es,hes,h⟩:=Option.bind_eq_some_iff.1 h
  rw [Rd.run_bind,Rd.run_call] at h
  obtain ⟨res,hres,h⟩:=Option.bind_eq_some_iff.1 h
  rw [Rd.run_bind] at h
  obtain ⟨e,he,h⟩:=Option.bind_eq_some_iff.1 h
  obtain ⟨rfl,h2⟩:=res_run he
  cases h
  have h3:fzD d (one d (resE res)++env)=fzD d (one d (resE res))++env:=by cases d<;>rfl
  simp only [step,Cal.eqn,hes,hres,Option.bind_some,h2,free_putO hf,h3]
 all_goals exact pure h
end
def inB (l:List Nat) (k:Nat):Bool:=l.any fun j=>j==k
theorem inB_iff {l:List Nat} {k:Nat}:inB l k=true↔k∈l:=by simp [inB]
def okEdge (ops:Array Oper) (l:List DI) (j:Nat) (i:DI):Bool:=
 match ops[j]? with
 | some o=>(o.after.toList.all fun e=>!Region.binds .any e || decide (e.on < j))&&
   i.pre.all fun p=>decide (p < j)&&o.after.toList.any fun e=>Region.binds .any e&&(e.on==p || (match l[e.on]? with | some u=>inB u.pre p | none=>false))
 | none=>false
def okPair (i j:Nat) (a b:DI):Bool:=i==j || inB a.pre j || inB b.pre i || (!a.piv&&!b.piv&&b.wr.all fun k=>inB a.hide k&&!inB a.wr k)
def safeOf:List DI→List Nat
 | i::_=>i.safe
 | []=> []
def okE (l:List DI) (i:DI):Bool:=i.safe==safeOf l&&(i.piv || match eatsOf i.ai.op with | some k=>inB i.safe k | none=>true)
def okD (P:Program) (n:Nat) (ops:Array Oper) (l:List DI):Bool:=
 P.follows .mixedOrders&&okOps P n ops 0 (l.map (·.ai))&&
 (l.zipIdx.all fun q=>okEdge ops l q.2 q.1&&(match q.1.ai.dst with | some d=>inB q.1.wr d | none=>true)&&(!q.1.piv || q.1.ai.guard.isNone)&&okE l q.1)&&
 l.zipIdx.all fun q=>l.zipIdx.all fun u=>okPair q.2 u.2 q.1 u.1
theorem zipIdx_get {α:Type} {l:List α} {i:Nat} {x:α} (h:l[i]?=some x):(x,i)∈l.zipIdx:=by
 rw [List.mem_zipIdx_iff_getElem?]; exact h
theorem okOps_get {P:Program} {n:Nat} {ops:Array Oper}:∀ (l:List AI) (j:Nat),okOps P n ops j l=true→j+l.length=ops.size∧∀ (m:Nat) (i:AI),l[m]?=some i→∃ o,ops[j+m]?=some o∧okGuard ops o.guard i.guard=true∧okAI P n o i=true
 | [],j,h=>by simp only [okOps,beq_iff_eq] at h; exact ⟨by simpa using h,fun m i hm=>by simp at hm⟩
 | i::r,j,h=>by
   simp only [okOps,Bool.and_eq_true] at h
   obtain ⟨h1,h2⟩:=h
   obtain ⟨h3,h4⟩:=okOps_get r (j+1) h2
   refine ⟨by simp only [List.length_cons]; omega,fun m i' hm=>?_⟩
   cases m with
   | zero=>
     simp only [List.getElem?_cons_zero,Option.some.injEq] at hm
     subst hm
     split at h1
     ·rename_i o ho
      simp only [Bool.and_eq_true] at h1
      exact ⟨o,by simpa using ho,h1.1,h1.2⟩
     ·simp at h1
   | succ m=>
     simp only [List.getElem?_cons_succ] at hm
     obtain ⟨o,ho,h5⟩:=h4 m i' hm
     exact ⟨o,by rw [←ho]; congr 1; omega,h5⟩
theorem countP_lt {α:Type} {p q:α→Bool}:∀ {l:List α},(∀ x∈l,p x=true→q x=true)→(∃ x∈l,q x=true∧p x=false)→l.countP p < l.countP q
 | [],_,h=>by obtain ⟨x,hx,_⟩:=h; simp at hx
 | y::l,h1,h2=>by
   have hle:l.countP p≤l.countP q:=List.countP_mono_left fun x hx=>h1 x (List.mem_cons_of_mem _ hx)
   rw [List.countP_cons,List.countP_cons]
   by_cases hy:q y=true∧p y=false
   ·simp only [hy.1,hy.2,if_true,Bool.false_eq_true,if_false]; omega
   ·have h3:∃ x∈l,q x=true∧p x=false:=by
     obtain ⟨x,hx,hq⟩:=h2
     rcases List.mem_cons.1 hx with rfl | hx
     ·exact absurd hq hy
     ·exact ⟨x,hx,hq⟩
    have:=countP_lt (fun x hx=>h1 x (List.mem_cons_of_mem _ hx)) h3
    have h4:(if p y=true then 1 else 0)≤(if q y=true then 1 else 0):=by
     split
     ·rw [if_pos (h1 y (by simp) (by assumption))]; exact Nat.le_refl _
     ·split<;>omega
    omega
section
variable {P:Program} {B:Nat} {G0:Nat→Nat→Prop} {W0:Base} {n:Nat} {cl:Cal}
variable {R:Type} {r:R} {Q:Exit→Act→World→Prop}
def Did (cl:Cal) (i:DI) (L:Nat→E) (δ:Ch):Prop:=
 match i.ai.guard with
 | none=>(wrR cl i.ai.dst i.ai.op).run (hid i.hide L)=some δ
 | some (s,pol)=>(hid i.hide L s=.v .bool pol∧(wrR cl i.ai.dst i.ai.op).run (hid i.hide L)=some δ)∨
   ((hid i.hide L s=.v .bool (!pol)∨hid i.hide L s=.und)∧δ=one i.ai.dst .und)
structure Text (cl:Cal) (l:List DI) (env0:Env) (D:Nat→Ch) (T:Nat→Env):Prop where
 start:T 0=env0
 next:∀ m k,look (T (m+1)) k=look (D m++T m) k
 at':∀ (m:Nat) (i:DI),l[m]?=some i→i.piv=false→Did cl i (look (T m)) (D m)∧free (T m) i.ai.dst=true∧∀ k∈(D m).ks,k∈i.wr
 piv:∀ (m:Nat) (i:DI),l[m]?=some i→i.piv=true→step cl i.ai (T m) (some:Kont Env)=some (T (m+1))
 out:∀ m,l[m]?=none→D m=[]
 safe:∀ (m:Nat) (i:DI),l[m]?=some i→∀ s∈i.safe,(∀ q∈T m,leads s q.2=false)∧(∀ q∈D m,leads s q.2=false)∧∀ q∈T (m+1),leads s q.2=false
theorem look_app_ext {δ:Ch} {e1 e2:Env} (h:∀ k,look e1 k=look e2 k) (k:Nat):look (δ++e1) k=look (δ++e2) k:=by
 by_cases hk:k∈Ch.ks δ
 ·rw [look_app_mem hk,look_app_mem hk]
 ·rw [look_app_not hk,look_app_not hk,h]
theorem Text.cons {l:List DI} {i:DI} {env0 env':Env} {δ:Ch} {D:Nat→Ch} {T:Nat→Env} (ht:Text cl l (δ++env') D T) (he:∀ k,look env' k=look env0 k) (hp:i.piv=false) (hd:Did cl i (look env0) δ) (hw:okW i env0 δ=true) (hnl:∀ s∈i.safe,∀ q∈env',leads s q.2=false):
  Text cl (i::l) env0 (fun m=>match m with | 0=>δ | m+1=>D m) (fun m=>match m with | 0=>env0 | m+1=>T m):=by
 simp only [okW,okS,Bool.and_eq_true,List.all_eq_true,Bool.not_eq_true'] at hw
 obtain ⟨hw,hsf⟩:=hw
 refine ⟨rfl,fun m k=>?_,fun m i' hm hpi=>?_,fun m i' hm hpi=>?_,fun m hm=>?_,fun m i' hm s hs=>?_⟩
 ·cases m with
  | zero=>simp only [ht.start]; exact look_app_ext he k
  | succ m=>exact ht.next m k
 ·cases m with
  | zero=>
    simp only [List.getElem?_cons_zero,Option.some.injEq] at hm
    subst hm
    refine ⟨hd,hw.1,fun k hk=>?_⟩
    obtain ⟨q,hq,rfl⟩:=List.mem_map.1 hk
    exact inB_iff.1 (hw.2 q hq)
  | succ m=>exact ht.at' m i' (by simpa using hm) hpi
 ·cases m with
  | zero=>
    simp only [List.getElem?_cons_zero,Option.some.injEq] at hm
    subst hm
    rw [hp] at hpi; cases hpi
  | succ m=>exact ht.piv m i' (by simpa using hm) hpi
 ·cases m with
  | zero=>simp at hm
  | succ m=>exact ht.out m (by simpa using hm)
 ·cases m with
  | zero=>
    simp only [List.getElem?_cons_zero,Option.some.injEq] at hm
    subst hm
    refine ⟨fun q hq=>hsf s hs q (List.mem_append_right _ hq),fun q hq=>hsf s hs q (List.mem_append_left _ hq),fun q hq=>?_⟩
    simp only [ht.start] at hq
    rcases List.mem_append.1 hq with hq | hq
    ·exact hsf s hs q (List.mem_append_left _ hq)
    ·exact hnl s hs q hq
  | succ m=>exact ht.safe m i' (by simpa using hm) s hs
def allOf (env' env:Env):Ch:=env'++env.map fun q=>(q.1,look env' q.1)
theorem look_allOf (env' env:Env) (k:Nat):look (allOf env' env++env) k=look env' k:=by
 unfold allOf
 by_cases h1:k∈Ch.ks env'
 ·rw [List.append_assoc,look_app_mem h1]
 ·rw [List.append_assoc,look_app_not h1]
  have hd:look env' k=.dead:=by
   have:=look_app_not (env:=[]) h1
   rw [List.append_nil] at this
   exact this
  have key:∀ (e2:Env),look (e2.map (fun q=>(q.1,look env' q.1))++env) k=if k∈Ch.ks e2 then look env' k else look env k:=by
   intro e2
   induction e2 with
   | nil=>simp [Ch.ks]
   | cons q e2 ih=>
     rw [List.map_cons,List.cons_append,look_cons]
     by_cases hq:q.1=k
     ·rw [if_pos hq,hq]; simp [Ch.ks,hq]
     ·have hk:k∈Ch.ks (q::e2)↔k∈Ch.ks e2:=by simp [Ch.ks,Ne.symm hq]
      rw [if_neg hq,ih]
      by_cases h3:k∈Ch.ks e2
      ·rw [if_pos h3,if_pos (hk.2 h3)]
      ·rw [if_neg h3,if_neg (fun h=>h3 (hk.1 h))]
  rw [key]
  split
  ·rfl
  ·rename_i h2
   have:=look_app_not (env:=[]) h2
   rw [List.append_nil] at this
   rw [hd,this]; rfl
theorem look_noleads {s:Nat}:∀ {env:Env},(∀ q∈env,leads s q.2=false)→∀ k,leads s (look env k)=false
 | [],_,k=>rfl
 | q::env,h,k=>by
   rw [look_cons]
   split
   ·exact h q (List.mem_cons_self ..)
   ·exact look_noleads (fun q' hq=>h q' (List.mem_cons_of_mem _ hq)) k
theorem Text.consP {l:List DI} {i:DI} {env0 env':Env} {D:Nat→Ch} {T:Nat→Env} (ht:Text cl l env' D T) (hp:i.piv=true) (hs:step cl i.ai env0 (some:Kont Env)=some env') (hw0:okS i env0=true) (hw1:okS i env'=true):
  Text cl (i::l) env0 (fun m=>match m with | 0=>allOf env' env0 | m+1=>D m) (fun m=>match m with | 0=>env0 | m+1=>T m):=by
 simp only [okS,List.all_eq_true,Bool.not_eq_true'] at hw0 hw1
 refine ⟨rfl,fun m k=>?_,fun m i' hm hpi=>?_,fun m i' hm hpi=>?_,fun m hm=>?_,fun m i' hm s hs=>?_⟩
 ·cases m with
  | zero=>simp only [ht.start]; exact (look_allOf env' env0 k).symm
  | succ m=>exact ht.next m k
 ·cases m with
  | zero=>
    simp only [List.getElem?_cons_zero,Option.some.injEq] at hm
    subst hm
    rw [hp] at hpi; cases hpi
  | succ m=>exact ht.at' m i' (by simpa using hm) hpi
 ·cases m with
  | zero=>
    simp only [List.getElem?_cons_zero,Option.some.injEq] at hm
    subst hm
    simp only [ht.start]; exact hs
  | succ m=>exact ht.piv m i' (by simpa using hm) hpi
 ·cases m with
  | zero=>simp at hm
  | succ m=>exact ht.out m (by simpa using hm)
 ·cases m with
  | zero=>
    simp only [List.getElem?_cons_zero,Option.some.injEq] at hm
    subst hm
    refine ⟨hw0 s hs,fun q hq=>?_,fun q hq=>?_⟩
    ·simp only [allOf] at hq
     rcases List.mem_append.1 hq with hq | hq
     ·exact hw1 s hs q hq
     ·obtain ⟨u,hu,rfl⟩:=List.mem_map.1 hq
      exact look_noleads (hw1 s hs) _
    ·simp only [ht.start] at hq
     exact hw1 s hs q hq
  | succ m=>exact ht.safe m i' (by simpa using hm) s hs
theorem draws_text {K:Kont R}:∀ (l:List DI) (env0:Env),draws cl l env0 K=some r→∃ D T,Text cl l env0 D T∧K (T l.length)=some r
 | [],env0,h=>⟨fun _=> [],fun _=>env0,⟨rfl,fun _ _=>rfl,fun m i hm=>by simp at hm,fun m i hm=>by simp at hm,fun _ _=>rfl,fun m i hm=>by simp at hm⟩,h⟩
 | i::l,env0,h=>by
   simp only [draws] at h
   cases hpv:i.piv with
   | true=>
     rw [hpv] at h
     simp only at h
     split at h
     case h_2=>simp at h
     rename_i hw0
     rw [step_bind] at h
     obtain ⟨env',h1,h2⟩:=Option.bind_eq_some_iff.1 h
     split at h2
     case h_2=>simp at h2
     rename_i hw1
     obtain ⟨D,T,ht,hk⟩:=draws_text l _ h2
     exact ⟨_,_,ht.consP hpv h1 hw0 hw1,hk⟩
   | false=>
   rw [hpv] at h
   simp only at h
   have yes:∀ env',(∀ k,look env' k=look env0 k)→(∀ s,(∀ q∈env0,leads s q.2=false)→∀ q∈env',leads s q.2=false)→(∀ δ,(wrR cl i.ai.dst i.ai.op).run (hid i.hide (look env0))=some δ→Did cl i (look env0) δ)→
     ((wrR cl i.ai.dst i.ai.op).runK (hid i.hide (look env0)) fun δ=>match okW i env0 δ with
      | true=>draws cl l (δ++env') K
      | false=>none)=some r→∃ D T,Text cl (i::l) env0 D T∧K (T (i::l).length)=some r:=by
    intro env' he hnl hd h
    rw [Rd.eqn] at h
    obtain ⟨δ,hδ,h⟩:=Option.bind_eq_some_iff.1 h
    split at h
    ·rename_i hc
     obtain ⟨D,T,ht,hk⟩:=draws_text l _ h
     have hc2:=hc
     simp only [okW,okS,Bool.and_eq_true,List.all_eq_true,Bool.not_eq_true'] at hc2
     exact ⟨_,_,ht.cons he hpv (hd δ hδ) hc (fun s hs=>hnl s fun q hq=>hc2.2 s hs q (List.mem_append_right _ hq)),hk⟩
    ·simp at h
   have nope:∀ env',(∀ k,look env' k=look env0 k)→(∀ s,(∀ q∈env0,leads s q.2=false)→∀ q∈env',leads s q.2=false)→Did cl i (look env0) (one i.ai.dst .und)→
     (match okW i env0 (one i.ai.dst .und) with
      | true=>draws cl l (one i.ai.dst .und++env') K
      | false=>none)=some r→∃ D T,Text cl (i::l) env0 D T∧K (T (i::l).length)=some r:=by
    intro env' he hnl hd h
    split at h
    ·rename_i hc
     obtain ⟨D,T,ht,hk⟩:=draws_text l _ h
     have hc2:=hc
     simp only [okW,okS,Bool.and_eq_true,List.all_eq_true,Bool.not_eq_true'] at hc2
     exact ⟨_,_,ht.cons he hpv hd hc (fun s hs=>hnl s fun q hq=>hc2.2 s hs q (List.mem_append_right _ hq)),hk⟩
    ·simp at h
   cases hg:i.ai.guard with
   | none=>
     rw [hg] at h
     exact yes env0 (fun _=>rfl) (fun _ h=>h) (fun δ hδ=>by simp only [Did,hg]; exact hδ) h
   | some q=>
     obtain ⟨s,pol⟩:=q
     rw [hg] at h
     simp only at h
     split at h
     ·rename_i b hs
      have hls:look env0 s=.v .bool b:=by
       unfold hid at hs
       split at hs
       ·cases hs
       ·exact hs
      have he:∀ k,look ((s,.v .bool b)::env0) k=look env0 k:=by
       intro k
       rw [look_cons]
       split
       ·rename_i e; subst e; exact hls.symm
       ·rfl
      have hee:∀ u,(∀ q∈env0,leads u q.2=false)→∀ q∈(s,.v .bool b)::env0,leads u q.2=false:=by
       intro u hu q hq
       rcases List.mem_cons.1 hq with rfl | hq
       ·rfl
       ·exact hu q hq
      have y2:b=pol→∀ δ,(wrR cl i.ai.dst i.ai.op).run (hid i.hide (look env0))=some δ→Did cl i (look env0) δ:=by
       intro e δ hδ; simp only [Did,hg]; exact .inl ⟨by rw [hs,e],hδ⟩
      have n2:b=!pol→Did cl i (look env0) (one i.ai.dst .und):=by
       intro e; simp only [Did,hg]; exact .inr ⟨.inl (by rw [hs,e]),trivial⟩
      cases b with
      | true=>
        simp only [brB] at h
        cases pol with
        | true=>exact yes _ he hee (y2 rfl) h
        | false=>exact nope _ he hee (n2 rfl) h
      | false=>
        simp only [brB] at h
        cases pol with
        | true=>exact nope _ he hee (n2 rfl) h
        | false=>exact yes _ he hee (y2 rfl) h
     ·rename_i hs
      exact nope env0 (fun _=>rfl) (fun _ h=>h) (by simp only [Did,hg]; exact .inr ⟨.inr hs,trivial⟩) h
     ·simp at h
theorem Text.inv {l:List DI} {env0:Env} {D:Nat→Ch} {T:Nat→Env} (h:Text cl l env0 D T):∀ m,Inv D env0 (fun j=>j < m) (T m)
 | 0=>by rw [h.start]; exact Inv.start fun m=>by omega
 | m+1=>by
   refine Inv.ext ?_ (h.next m)
   refine (Inv.add (i:=m) (h.inv m) (fun k _ m' h1 h2=>by omega)).set fun j=>?_
   constructor
   ·rintro (h | rfl)<;>omega
   ·intro h; by_cases hj:j=m
    ·exact .inr hj
    ·exact .inl (by omega)
theorem hid_sub {l:List Nat} {L L':Nat→E} (h:∀ k,k∉l→L k=.dead∨L' k=L k):Sub (hid l L) L':=by
 intro k
 unfold hid
 split
 ·exact .inl rfl
 ·rename_i hk
  exact h k (fun hm=>by rw [←inB_iff] at hm; simp only [inB] at hm; rw [hm] at hk; cases hk)
theorem any_sound (hgood:Good P W0.t cl) {ops:Array Oper} {l:List DI} (hok:okD P n ops l=true) (hz:W0.pin=none∨(l.all fun i=>noZ i.ai)=true) {env0:Env} {D:Nat→Ch} {T:Nat→Env} (ht:Text cl l env0 D T):
  ∀ (fuel:Nat) (listed:Array Bool) (env:Env) (a:Act) (w:World) (ob:Nat→OB),listed.size=ops.size→(List.range ops.size).countP (fun i=>!listed.getD i true)≤fuel→
    (∀ (i:Nat) (di:DI),l[i]?=some di→listed.getD i false=true→∀ p∈di.pre,listed.getD p false=true)→
    Inv D env0 (fun m=>listed.getD m false=true) env→(∀ s∈safeOf l,∀ q∈env,leads s q.2=false)→Conc P B G0 W0 n env a.tmps w ob→
    (∀ env' tm' w' ob',Conc P B G0 W0 n env' tm' w' ob'→(∀ k,look env' k=look (T l.length) k)→Q .normal {a with tmps:=tm'} w')→
    wpAny P .any ops Q fuel listed a w:=by
 simp only [okD,Bool.and_eq_true,List.all_eq_true] at hok
 obtain ⟨⟨⟨_,h1⟩,h2⟩,h3⟩:=hok
 obtain ⟨hlen,hget⟩:=okOps_get _ _ h1
 simp only [Nat.zero_add,List.length_map] at hlen hget
 have hedge:∀ (i:Nat) (di:DI),l[i]?=some di→∃ o,ops[i]?=some o∧okGuard ops o.guard di.ai.guard=true∧okAI P n o di.ai=true∧(∀ e∈o.after,Region.binds .any e=true→e.on < i)∧
   (∀ p∈di.pre,p < i∧∃ e∈o.after,Region.binds .any e=true∧(e.on=p∨∃ u,l[e.on]?=some u∧p∈u.pre))∧(∀ d,di.ai.dst=some d→d∈di.wr)∧(di.piv=true→di.ai.guard=none)∧di.safe=safeOf l∧(di.piv=false→∀ k,eatsOf di.ai.op=some k→k∈safeOf l):=by
  intro i di hi
  obtain ⟨o,ho,hg,ha⟩:=hget i di.ai (by rw [List.getElem?_map,hi]; rfl)
  have:=h2 _ (zipIdx_get hi)
  simp only [Bool.and_eq_true] at this
  obtain ⟨⟨⟨he,hd⟩,hpg⟩,hse⟩:=this
  simp only [okE,Bool.and_eq_true,beq_iff_eq] at hse
  simp only [okEdge,ho,Bool.and_eq_true,List.all_eq_true,Bool.or_eq_true,Bool.not_eq_true',decide_eq_true_eq,List.any_eq_true,Array.mem_toList_iff] at he
  refine ⟨o,ho,hg,ha,fun e hm hb=>?_,fun p hp=>⟨(he.2 p hp).1,?_⟩,fun d hd'=>?_,fun hp=>by rw [hp] at hpg; simpa using hpg,hse.1,fun hp k hk=>by
   have h5:=hse.2
   rw [hp,hk] at h5
   rw [←hse.1]; exact inB_iff.1 (by simpa using h5)⟩
  ·rcases he.1 e hm with h | h
   ·rw [h] at hb; cases hb
   ·exact h
  ·obtain ⟨e,hm,hb,hc⟩:=(he.2 p hp).2
   refine ⟨e,hm,hb,?_⟩
   rcases hc with hc | hc
   ·exact .inl (by simpa using hc)
   ·right
    split at hc
    ·rename_i u hu; exact ⟨u,hu,inB_iff.1 hc⟩
    ·simp at hc
  ·rw [hd'] at hd; exact inB_iff.1 hd
 have hpair:∀ (i j:Nat) (di dj:DI),l[i]?=some di→l[j]?=some dj→i≠j→j∉di.pre→i∉dj.pre→di.piv=false∧dj.piv=false∧∀ k∈dj.wr,k∈di.hide∧k∉di.wr:=by
  intro i j di dj hi hj hne hp1 hp2
  have:=h3 _ (zipIdx_get hi) _ (zipIdx_get hj)
  simp only [okPair,Bool.or_eq_true,beq_iff_eq,List.all_eq_true,Bool.and_eq_true,Bool.not_eq_true',inB_iff] at this
  rcases this with ((h | h) | h) | h
  ·exact absurd h hne
  ·exact absurd h hp1
  ·exact absurd h hp2
  ·refine ⟨h.1.1,h.1.2,fun k hk=>⟨(h.2 k hk).1,fun hw=>?_⟩⟩
   have:=(h.2 k hk).2
   rw [←inB_iff,this] at hw; cases hw
 intro fuel
 induction fuel with
 | zero=>
   intro listed env a w ob hsz hcount hcl hinv hnl hC hK
   have hno:∀ j,j < ops.size→listed.getD j true=true:=by
    intro j hj
    have:=List.countP_eq_zero.1 (Nat.le_zero.1 hcount) j (List.mem_range.2 hj)
    simpa using this
   refine ⟨?_,hK env a.tmps w ob hC fun k=>hinv.same (ht.inv l.length) fun m hm=>?_⟩
   ·cases hr:Region.ready .any ops listed with
    | nil=>rfl
    | cons j js=>
      have hj:j∈Region.ready .any ops listed:=by rw [hr]; simp
      obtain ⟨h4,o,ho,_⟩:=mem_ready.1 hj
      rw [hno j (Array.getElem?_eq_some_iff.1 ho).1] at h4; cases h4
   ·have hlt:m < l.length:=by
     rcases Nat.lt_or_ge m l.length with h | h
     ·exact h
     ·rw [ht.out m (List.getElem?_eq_none h)] at hm; simp [Ch.ks] at hm
    refine ⟨fun _=>hlt,fun _=>?_⟩
    have:=hno m (by omega)
    have hms:m < listed.size:=by omega
    simpa [hms] using this
 | succ fuel ih=>
   intro listed env a w ob hsz hcount hcl hinv hnl hC hK
   refine ⟨fun hr=>?_,fun i hi=>?_⟩
   ·have hall:∀ N j,j < N→j < ops.size→listed.getD j true=true:=by
     intro N
     induction N with
     | zero=>intro j hj; omega
     | succ N ihN=>
       intro j hj hjs
       by_cases hl:listed.getD j true=true
       ·exact hl
       ·exfalso
        obtain ⟨o,ho,_,_,he,_,_,_,_,_⟩:=hedge j (l[j]'(by omega)) (List.getElem?_eq_getElem (by omega))
        have:j∈Region.ready .any ops listed:=mem_ready.2 ⟨by simpa using hl,o,ho,fun e hm hb=>by
         have h5:=he e hm hb
         have h6:=ihN e.on (by omega) (by omega)
         have:e.on < listed.size:=by omega
         simpa [this] using h6⟩
        rw [hr] at this; simp at this
    refine hK env a.tmps w ob hC fun k=>hinv.same (ht.inv l.length) fun m hm=>?_
    have hlt:m < l.length:=by
     rcases Nat.lt_or_ge m l.length with h | h
     ·exact h
     ·rw [ht.out m (List.getElem?_eq_none h)] at hm; simp [Ch.ks] at hm
    refine ⟨fun _=>hlt,fun _=>?_⟩
    have:=hall (m+1) m (by omega) (by omega)
    have hms:m < listed.size:=by omega
    simpa [hms] using this
   ·obtain ⟨hun,o,ho,hrd⟩:=mem_ready.1 hi
    have hlt:i < ops.size:=(Array.getElem?_eq_some_iff.1 ho).1
    obtain ⟨di,hdi⟩:∃ di,l[i]?=some di:=⟨_,List.getElem?_eq_getElem (by omega)⟩
    obtain ⟨o',ho',hg,hai,he,hpre,hdw,hpg,hsf,het⟩:=hedge i di hdi
    rw [ho] at ho'; cases ho'
    have hunf:listed.getD i false=false:=by
     have hms:i < listed.size:=by omega
     simpa [hms] using hun
    have hpl:∀ p∈di.pre,listed.getD p false=true:=by
     intro p hp
     obtain ⟨_,e,hm,hb,hc⟩:=hpre p hp
     have hon:=hrd e hm hb
     rcases hc with rfl | ⟨u,hu,hc⟩
     ·exact hon
     ·exact hcl e.on u hu hon p hc
    have wrof:∀ m k,k∈(D m).ks→∃ dm,l[m]?=some dm∧(dm.piv=false→k∈dm.wr):=by
     intro m k hk
     cases hm:l[m]? with
     | none=>rw [ht.out m hm] at hk; simp [Ch.ks] at hk
     | some dm=>exact ⟨dm,rfl,fun hp=>(ht.at' m dm hm hp).2.2 k hk⟩
    have agree:∀ k,(di.piv=true∨k∉di.hide∨k∈di.wr)→look env k=look (T i) k:=by
     intro k hk
     refine hinv.same (ht.inv i) fun m hm=>?_
     obtain ⟨dm,hdm,hw⟩:=wrof m k hm
     by_cases hmi:m=i
     ·subst hmi; rw [hunf]; simp
     ·by_cases hp1:m∈di.pre
      ·exact ⟨fun _=>(hpre m hp1).1,fun _=>hpl m hp1⟩
      ·by_cases hp2:i∈dm.pre
       ·obtain ⟨_,_,_,_,_,hpm,_,_,_,_⟩:=hedge m dm hdm
        have:=(hpm i hp2).1
        refine ⟨fun hs=>?_,fun hl=>by omega⟩
        have:=hcl m dm hdm hs i hp2
        rw [hunf] at this; cases this
       ·obtain ⟨hv1,hv2,this⟩:=hpair i m di dm hdi hdm (Ne.symm hmi) hp1 hp2
        have this:=this k (hw hv2)
        rcases hk with hk | hk | hk
        ·rw [hv1] at hk; cases hk
        ·exact absurd this.1 hk
        ·exact absurd hk this.2
    -- behind it
    have behind:∀ (env':Env) (tm':Array Value) (w':World) (ob':Nat→OB),Conc P B G0 W0 n env' tm' w' ob'→(∀ k,look env' k=look (D i++env) k)→(∀ s∈safeOf l,∀ q∈env',leads s q.2=false)→wpAny P .any ops Q fuel (listed.setIfInBounds i true) {a with tmps:=tm'} w':=by
     intro env' tm' w' ob' hC' hl' hn'
     have hset:∀ m,(listed.setIfInBounds i true).getD m false=true↔(listed.getD m false=true∨m=i):=by
      intro m
      by_cases hm:m=i
      ·subst hm
       have hms:m < listed.size:=by omega
       simp [hms]
      ·rw [getD_set_ne false (Ne.symm hm)]
       simp [hm]
     refine ih _ env' {a with tmps:=tm'} w' ob' (by simpa using hsz) ?_ ?_ ?_ hn' hC' (fun e2 t2 w2 o2 h4 h5=>hK e2 t2 w2 o2 h4 h5)
     ·have:=countP_lt (p:=fun j=>!(listed.setIfInBounds i true).getD j true) (q:=fun j=>!listed.getD j true) (l:=List.range ops.size) (fun x hx hp=>by
       by_cases hxi:x=i
       ·subst hxi
        have hms:x < listed.size:=by omega
        simp [hms] at hp
       ·rw [getD_set_ne true (Ne.symm hxi)] at hp; exact hp) ⟨i,List.mem_range.2 hlt,by simpa using hun,by
        have hms:i < listed.size:=by omega
        simp [hms]⟩
      omega
     ·intro m dm hm hs p hp
      rw [hset] at hs ⊢
      rcases hs with hs | rfl
      ·exact .inl (hcl m dm hm hs p hp)
      ·rw [hdi] at hm; cases hm
       exact .inl (hpl p hp)
     ·have hadd:=Inv.add (i:=i) hinv (fun k hk m' hm' hs hk'=>by
       obtain ⟨dm,hdm,hw'⟩:=wrof m' k hk'
       by_cases hp2:i∈dm.pre
       ·have:=hcl m' dm hdm hs i hp2
        rw [hunf] at this; cases this
       ·have hp1:m'∉di.pre:=fun hp=>by have:=(hpre m' hp).1; omega
        obtain ⟨hv1,hv2,hv3⟩:=hpair i m' di dm hdi hdm (by omega) hp1 hp2
        exact (hv3 k (hw' hv2)).2 ((ht.at' i di hdi hv1).2.2 k hk))
      intro k
      rcases (hadd.set fun m=>(hset m).symm) k with h | h
      ·left
       obtain ⟨m,g1,g2,g3,g4⟩:=h
       exact ⟨m,g1,g2,g3,by rw [hl' k]; exact g4⟩
      ·exact .inr ⟨h.1,by rw [hl' k]; exact h.2⟩
    have hz1:W0.pin=none∨di.ai.dst≠some 0:=hz.imp id fun h=>noZ_ne (List.all_eq_true.1 h di (List.mem_of_getElem? hdi))
    have hdst0:di.ai.dst=o.dst:=by simp only [okAI,Bool.and_eq_true,decide_eq_true_eq] at hai; exact hai.1.1
    have hd:∀ k,o.dst=some k→Dst W0 n k:=by
     simp only [okAI,Bool.and_eq_true,decide_eq_true_eq] at hai
     intro k hk
     have:=hai.1.2
     rw [hk] at this; exact ⟨by simpa using this,hz1.imp id fun h e=>h (by rw [hdst0,hk,e])⟩
    cases hpv:di.piv with
    | true=>
      have hwant:Region.wanted o (yielded ops a.tmps)=true:=by
       have hig:=hpg hpv
       cases hog:o.guard with
       | none=>simp [Region.wanted,hog]
       | some q=>rw [hog,hig] at hg; simp [okGuard] at hg
      obtain ⟨ob1,hC1⟩:=Conc.ext hC (env':=T i) fun k=>(agree k (.inl hpv)).symm
      unfold wpOp
      simp only [ho]
      rw [if_pos hwant]
      refine .inl (st_ok (R:=Env) (r:=T (i+1)) hgood hC1 (fun env' tm' w' ob' hC' hk=>?_) hai hz1 (ht.piv i di hdi hpv))
      cases hk
      exact behind _ tm' w' ob' hC' (fun k=>(ht.next i k).trans (look_app_ext (fun k=>(agree k (.inl hpv)).symm) k)) (fun s hs=>(ht.safe i di hdi s (by rw [hsf]; exact hs)).2.2)
    | false=>
    obtain ⟨hd1,hd2,hd3⟩:=ht.at' i di hdi hpv
    have hsub:Sub (hid di.hide (look (T i))) (look env):=hid_sub fun k hk=>.inr (agree k (.inr (.inl hk)))
    have hfree:free env di.ai.dst=true:=by
     cases hdd:di.ai.dst with
     | none=>rfl
     | some d=>
       rw [hdd] at hd2
       simp only [free] at hd2 ⊢
       rw [agree d (.inr (.inr (hdw d hdd)))]; exact hd2
    have hn2:∀ s∈safeOf l,∀ q∈D i++env,leads s q.2=false:=by
     intro s hs q hq
     rcases List.mem_append.1 hq with hq | hq
     ·exact (ht.safe i di hdi s (by rw [hsf]; exact hs)).2.1 q hq
     ·exact hnl s hs q hq
    have hdst:di.ai.dst=o.dst:=by simp only [okAI,Bool.and_eq_true,decide_eq_true_eq] at hai; exact hai.1.1
    have yes:(wrR cl di.ai.dst di.ai.op).run (hid di.hide (look (T i)))=some (D i)→o.wp P a w (wpAny P .any ops Q fuel (listed.setIfInBounds i true)) Q:=by
     intro hw
     have hw2:=(wrR cl di.ai.dst di.ai.op).mono _ _ _ hsub hw
     have hst:step cl di.ai env (some:Kont Env)=some (D i++env):=wrR_step (g:=di.ai.guard) hw2 hfree (fun s hs=>hnl s (het hpv s hs))
     exact st_ok (R:=Env) (r:=D i++env) hgood hC (fun env' tm' w' ob' hC' hk=>by
      cases hk; exact behind _ tm' w' ob' hC' (fun _=>rfl) hn2) hai hz1 hst
    have nope:D i=one di.ai.dst .und→wpAny P .any ops Q fuel (listed.setIfInBounds i true) (a.put o.dst undef) w:=by
     intro hD
     obtain ⟨ob',hC'⟩:=Conc.putO (e:=.und) (v:=undef) hC hd (Grows.refl w) ⟨rfl,rfl⟩ a rfl
     have:=behind _ _ w ob' hC' (fun k=>by rw [←hdst,free_putO hfree,hD]) (by rw [←hdst,free_putO hfree,←hD]; exact hn2)
     have e:({a with tmps:=(a.put o.dst undef).tmps}:Act)=a.put o.dst undef:=by cases o.dst<;>rfl
     rw [e] at this; exact this
    unfold wpOp
    simp only [ho]
    cases hog:o.guard with
    | none=>
      cases hig:di.ai.guard with
      | some q=>rw [hog,hig] at hg; simp [okGuard] at hg
      | none=>
        simp only [Did,hig] at hd1
        have hw:Region.wanted o (yielded ops a.tmps)=true:=by simp [Region.wanted,hog]
        rw [if_pos hw]
        exact .inl (yes hd1)
    | some q=>
      obtain ⟨gj,gb⟩:=q
      cases hig:di.ai.guard with
      | none=>rw [hog,hig] at hg; simp [okGuard] at hg
      | some q'=>
        obtain ⟨s,pol⟩:=q'
        rw [hog,hig] at hg
        simp only [okGuard,Bool.and_eq_true,beq_iff_eq] at hg
        obtain ⟨rfl,hg⟩:=hg
        split at hg
        case h_2=>simp at hg
        rename_i og hgj
        simp only [decide_eq_true_eq] at hg
        simp only [Did,hig] at hd1
        have lk:∀ e,hid di.hide (look (T i)) s=e→e≠.dead→look env s=e:=by
         intro e he hne
         rcases hsub s with h | h
         ·rw [h] at he; exact absurd he.symm hne
         ·rw [h,he]
        have wan:∀ b,look env s=.v .bool b→Region.wanted o (yielded ops a.tmps)=(b==gb):=by
         intro b hs2
         have hy:=kept hC hgj hg hs2
         simp only [Region.wanted,hog,hy]
         cases b<;>cases gb<;>rfl
        rcases hd1 with ⟨hs,hd1⟩ | ⟨hs | hs,hd1⟩
        ·rw [wan _ (lk _ hs (by simp))]
         simp only [beq_self_eq_true,if_true]
         exact .inl (yes hd1)
        ·rw [wan _ (lk _ hs (by simp))]
         have:((!gb)==gb)=false:=by cases gb<;>rfl
         rw [this]
         simp only [Bool.false_eq_true,if_false]
         exact nope hd1
        ·have hy:=kept_und hC hgj hg (lk _ hs (by simp))
         rw [if_neg (by simp [Region.wanted,hog,hy])]
         exact nope hd1
theorem draws_sound (hgood:Good P W0.t cl) {ops:Array Oper} {l:List DI} (hok:okD P n ops l=true) (hz:W0.pin=none∨(l.all fun i=>noZ i.ai)=true) {env:Env} {a:Act} {w:World} {ob:Nat→OB} {K:Kont R} (hC:Conc P B G0 W0 n env a.tmps w ob) (h:draws cl l env K=some r)
  (hK:∀ env' tm' w' ob',Conc P B G0 W0 n env' tm' w' ob'→K env'=some r→Q .normal {a with tmps:=tm'} w') {id:Nat}:(Code.region id ops true).wp P Q a w:=by
 have hm:P.follows .mixedOrders=true:=by simp only [okD,Bool.and_eq_true] at hok; exact hok.1.1.1
 obtain ⟨D,T,ht,hk⟩:=draws_text l env h
 refine wp_region_any hm ?_
 obtain ⟨ob2,hC2⟩:∃ ob2,Conc P B G0 W0 n env a.tmps {w with drawn:=w.drawn+1} ob2:=
  Conc.putO (d:=none) (e:=.und) (v:=undef) (w':={w with drawn:=w.drawn+1}) hC (fun k hk=>by cases hk) ⟨rfl,rfl,rfl,Nat.le_refl _,fun _ _=>rfl⟩ ⟨rfl,rfl⟩ a rfl
 refine any_sound hgood hok hz ht _ _ env a _ ob2 (by simp) ?_ ?_ (Inv.start fun m=>?_) ?_ hC2 (fun env' tm' w' ob' hC' hl'=>?_)
 ·exact Nat.le_trans List.countP_le_length (by simp)
 ·intro i di _ hs
  simp only [Array.getD_eq_getD_getElem?] at hs
  by_cases hi:i < ops.size<;>simp [hi] at hs
 ·intro hs
  simp only [Array.getD_eq_getD_getElem?] at hs
  by_cases hi:m < ops.size<;>simp [hi] at hs
 ·cases l with
  | nil=>intro s hs; simp [safeOf] at hs
  | cons i l=>intro s hs; have:=(ht.safe 0 i rfl s hs).1; rwa [ht.start] at this
 ·obtain ⟨ob3,hC3⟩:=Conc.ext hC' (env':=T l.length) (fun k=>(hl' k).symm)
  exact hK _ tm' w' ob3 hC3 hk
end
end Go.Fw
