/- Own work: the value machine, part 2. -/
import Derived.Test.YtbdlccajpcomjaaDoorFwB1
set_option linter.unusedVariables false
set_option linter.unusedSimpArgs false
open Array renaming size_setIfInBounds → sZ, getElem?_toList → qB
open Bool renaming and_eq_true → aB, false_eq_true → bA
open Int renaming le_of_lt → Sv
open List renaming map_congr_left → IN, mem_cons → dG, mem_singleton → vL, any_eq_true → vG, mem_append_left → gJ, mem_append_right → iq, mem_map → ew, getElem?_cons_zero → im, getElem?_cons_succ → vI, length_eq_one_iff → s5, mem_append → eu, eq_nil_of_length_eq_zero → l7, getElem?_eq_some_iff → lH, getElem?_append_left → il, getElem?_append_right → gI, append_assoc → bX, drop_zero → SB
open List.cons renaming injEq → iZ
open Nat renaming le_refl → b5, le_trans → gv, lt_of_lt_of_le → eK, add_zero → ff, add_assoc → nB, succ_mul → ma
open Ne renaming symm → b9
open Option renaming bind_eq_some_iff → av
open Option.some renaming injEq → az
open Prod.mk renaming injEq → eL
/- Soundness, part 3: how a state of the machine goes on to hold. -/
namespace Go.Fw
open Go Go.RowKit
theorem bm (j:Nat) (e:E) (env:Env) (k:Nat):look ((j,e)::env) k=if j=k then e else look env k:=by
 simp only [look]
 cases hd:Nat.decEq j k with
 | isTrue h=>rw [if_pos h]
 | isFalse h=>rw [if_neg h]
theorem HM (f:E→E) (hf:f .dead=.dead):∀ (env:Env) (k:Nat),look (env.map fun q=>(q.1,f q.2)) k=f (look env k)
 | [],k=>hf.symm
 | (j,e)::r,k=>by
   rw [List.map_cons,bm,bm,HM f hf r k]
   split<;>rfl
theorem HL (s:Nat) (env:Env) (k:Nat):look (kill s env) k=if leads s (look env k) then .dead else look env k:=by
 have:kill s env=env.map fun q=>(q.1,if leads s q.2 then E.dead else q.2):=by
  unfold kill
  apply IN
  intro q _
  split<;>rfl
 rw [this,HM (fun e=>if leads s e then E.dead else e) (by simp)]
def jx (s d:Nat):E→E
 | .ref k p=>if k==s then .ref d p else .ref k p
 | .dk k p i r=>if k==s then .dk d p i r else .dk k p i r
 | .dY f A C caps=>if leads s (.dY f A C caps) then .dead else .dY f A C caps
 | .dead=>.dead
 | .cn=>.cn
 | .v T x=>.v T x
 | .own wr e T o xs=>.own wr e T o xs
 | .loc T o x=>.loc T o x
 | .ptr k p=>.ptr k p
 | .at T x=>.at T x
 | .cP es=>.cP es
 | .it s p=>.it s p
 | .sb t e s=>.sb t e s
 | .nw T o x=>.nw T o x
theorem avJ (s d:Nat) (env:Env) (k:Nat):look (vb s d env) k=jx s d (look env k):=by
 have:vb s d env=env.map fun q=>(q.1,jx s d q.2):=by
  unfold vb
  apply IN
  intro q _
  obtain ⟨j,e⟩:=q
  cases e<;>simp only [jx]<;>split<;>rfl
 rw [this,HM (jx s d) rfl]
theorem agP (f:E→E):∀ (live:List Nat) (env:Env) (k:Nat),look (live.map fun k=>(k,f (look env k))) k=if k∈live then f (look env k) else .dead
 | [],env,k=>by simp [look]
 | j::live,env,k=>by
   have ih:=agP f live env k
   rw [List.map_cons,bm,ih]
   by_cases h:j=k
   ·subst h; simp
   ·rw [if_neg h]
    simp only [dG]
    by_cases h':k∈live
    ·simp [h']
    ·have:k≠j:=fun e=>h e.symm
     simp [h',this]
theorem agO (live:List Nat) (env:Env) (k:Nat):look (ae live env) k=if k∈live then sF live (look env k) else .dead:=agP (sF live) live env k
theorem avc {s:Nat} {e:E} (h:leads s e=true):s∈sJ e:=by
 cases e<;>simp only [leads] at h<;>first | (exfalso; simp at h; done) | skip
 ·simp only [sJ,u0,vL]; simpa using (beq_iff_eq.1 h).symm
 ·simp only [sJ,u0,vL]; simpa using (beq_iff_eq.1 h).symm
 ·simp only [sJ,u0,vL]; simpa using (beq_iff_eq.1 h).symm
 ·rename_i f A C caps
  simp only [vG] at h
  obtain ⟨c,hc,h⟩:=h
  simp only [sJ,List.mem_flatMap]
  refine ⟨c,hc,?_⟩
  cases c<;>simp only [u0,vL] at h ⊢<;>first | (exact (beq_iff_eq.1 h).symm) | (exfalso; simp at h; done)
theorem agc (live:List Nat) (e:E):(sF live e=e∧∀ s,leads s e=true→s∈live)∨sF live e=.dead:=by
 unfold sF
 split
 ·rename_i h
  refine .inl ⟨rfl,fun s hs=>?_⟩
  have:=List.all_eq_true.1 h s (avc hs)
  obtain ⟨k,hk,h2⟩:=vG.1 this
  rw [beq_iff_eq] at h2; subst h2; exact hk
 ·exact .inr rfl
theorem sL (env:Env) (k:Nat) (e:E) (j:Nat):look (put env k e) j=if k=j then (if leads k e then .dead else e) else if (look env k).home=true∧leads k (look env j)=true then .dead else look env j:=by
 unfold put
 rw [bm]
 split
 ·rfl
 ·split
  ·rename_i hh
   rw [HL]
   by_cases hl:leads k (look env j)=true
   ·simp [hl,hh]
   ·simp [hl]
  ·rename_i hh
   simp [hh]
theorem sI {s:Nat} {e:E} (h:e.home=true):leads s e=false:=by cases e<;>simp_all [E.home,leads]
def fp (w:World) (tm:Array Value) (env:Env) (w':World) (tm':Array Value) (env':Env) (s:Nat):Prop:=
 (∀ p v,(bC env s p).isSome=true→b7 w tm env s p=some v→b7 w' tm' env' s p=some v)∧
 (∀ p h,bC env s p=some h→∃ h',bC env' s p=some h'∧h'.T=h.T∧h'.xs.length=h.xs.length)∧
 (∀ T o x,look env s=.loc T o x→∃ o' x',look env' s=.loc T o' x'∧tm'.getD s undef=tm.getD s undef)
theorem Re {env env':Env} {s:Nat} (h:look env' s=look env s) (p:Path):bC env' s p=bC env s p:=by simp [bC,h]
theorem fp.same {P:Program} {w w':World} {G:Nat→Nat→Prop} {B:Nat} {tm tm':Array Value} {env env':Env} {s:Nat} {ob:OB}
  (hl:look env' s=look env s) (ht:tm'.getD s undef=tm.getD s undef) (hr:bL P w G B tm env (look env s) (tm.getD s undef) ob) (hO:∀ g∈blocks ob,w'.heap[g]?=w.heap[g]?):
  fp w tm env w' tm' env' s:=by
 refine ⟨fun p v _ hv=>?_,fun p h hh=>⟨h,by rw [Re hl]; exact hh,rfl,rfl⟩,fun T o x hx=>⟨o,x,by rw [hl]; exact hx,ht⟩⟩
 unfold b7 at hv ⊢
 rw [hl,ht]
 cases he:look env s with
 | own wr e T o xs=>rw [he] at hv; exact hv
 | loc T o x=>
   rw [he] at hv hr
   obtain ⟨b,cur,e,ob',hp,_,hb,_,rfl⟩:=hr
   simp only [hp] at hv ⊢
   rw [World.cell?_of_block (w:=w) (hO b (by simp))]
   exact hv
 | dead=>simp [he] at hv
 | cn=>simp [he] at hv
 | v=>simp [he] at hv
 | ref=>simp [he] at hv
 | ptr=>simp [he] at hv
 | dk=>simp [he] at hv
 | «at»=>simp [he] at hv
 | cP=>simp [he] at hv
 | dY=>simp [he] at hv
 | it=>simp [he] at hv
 | sb=>simp [he] at hv
 | nw=>simp [he] at hv
theorem adF {B:Nat} {w w':World} (hL:b8 B w w') {b i:Nat} (h:b < B):w'.cell? ⟨b,i,none⟩=w.cell? ⟨b,i,none⟩:=World.cell?_of_block (w:=w) (hL.2 b h)
theorem j0.ae {w w':World} {B:Nat} {t e:TypeId} {s:List UInt8} {v:Value} {ob:OB} (hO:∀ g∈blocks ob,w'.heap[g]?=w.heap[g]?) (h:j0 w B t e s v ob):j0 w' B t e s v ob:=by
 obtain ⟨b,p,u,h1,h2,h3,h4,h5,h6,rfl⟩:=h
 refine ⟨b,p,u,h1,h2,by rw [hO b (by simp)]; exact h3,h4,⟨h5.1,h5.2.imp id fun k=>?_⟩,h6,rfl⟩
 obtain ⟨g,cap,cur,k1,k2,k3,k4⟩:=k
 exact ⟨g,cap,cur,k1,k2,by rw [hO g (by subst k1; simp [cf,Value.ownBlock])]; exact k3,k4⟩
theorem cx.ae {P:Program} {w w':World} {G G':Nat→Nat→Prop} {B:Nat} {tm tm':Array Value} {env env':Env} {e:E} {v:Value} {ob:OB}
  (hG:∀ b i,b < w.heap.size→G b i→G' b i∧w'.cell? ⟨b,i,none⟩=w.cell? ⟨b,i,none⟩) (hL:b8 B w w') (hO:∀ g∈blocks ob,w'.heap[g]?=w.heap[g]?)
  (hH:∀ s,leads s e=true→fp w tm env w' tm' env' s) (h:cx P w G B tm env e v ob):cx P w' G' B tm' env' e v ob:=by
 cases e with
 | dead=>exact h
 | cn=>exact h
 | v T x=>obtain ⟨h0,vs,h1,h2⟩:=h; exact ⟨h0,vs,Flat.mono P T hG hL (by simp) h1,h2⟩
 | own wr e T o xs=>exact Flat.mono P (.sl T) hG hL hO h
 | loc T o x=>
   obtain ⟨b,cur,e,ob',h1,h2,h3,h4,rfl⟩:=h
   exact ⟨b,cur,e,ob',h1,h2,by rw [hO b (by simp)]; exact h3,Flat.mono P T hG hL (fun g hg=>hO g (by simp [hg])) h4,rfl⟩
 | ref s p=>
   obtain ⟨h0,h1,h2⟩:=h
   have hs:=hH s (by simp [leads])
   obtain ⟨q,hq⟩:=Option.isSome_iff_exists.1 h2
   obtain ⟨q',hq',_⟩:=hs.2.1 p q hq
   exact ⟨h0,hs.1 p v h2 h1,by rw [hq']; rfl⟩
 | ptr s p=>
   obtain ⟨h0,T,o,x,b,h1,h2,h3,h4⟩:=h
   have hs:=hH s (by simp [leads])
   obtain ⟨o',x',h5,h6⟩:=hs.2.2 T o x h1
   exact ⟨h0,T,o',x',b,h5,by rw [h6]; exact h2,h3,h4⟩
 | dk s p i q=>
   obtain ⟨h0,hh,g,n,c,h1,h2,h3,h4,h5⟩:=h
   have hs:=hH s (by simp [leads])
   obtain ⟨h',h6,h7,h8⟩:=hs.2.1 p hh h1
   exact ⟨h0,h',g,n,c,h6,hs.1 p _ (by rw [h1]; rfl) h2,by rw [h8]; exact h3,by rw [h7]; exact h4,by rw [h7]; exact h5⟩
 | «at» T x=>
   obtain ⟨h0,b,off,vs,h1,h2,h3⟩:=h
   refine ⟨h0,b,off,vs,h1,Flat.mono P T hG hL (by simp) h2,fun j u hj=>?_⟩
   obtain ⟨h4,h5⟩:=h3 j u hj
   rcases h5 with h5 | h5
   ·exact ⟨(adF hL h5).trans h4,.inl h5⟩
   ·have hlt:b < w.heap.size:=World.block_lt_of_cell? w _ h4
    have:=hG b (off+j) hlt h5
    exact ⟨this.2.trans h4,.inr this.1⟩
 | cP=>exact h.elim
 | dY=>exact h.elim
 | nw T o x=>obtain ⟨h0,vs,h1,h2⟩:=h; exact ⟨h0,vs,Flat.mono P T hG hL (by simp) h1,h2⟩
 | it s pos=>
   obtain ⟨b,h1,h2,h3,h4,rfl⟩:=h
   exact ⟨b,h1,h2,by rw [hO b (by simp)]; exact h3,h4,rfl⟩
 | sb t e s=>exact ⟨j0.ae hO h.1,h.2⟩
theorem dR.imp {R S:E→Value→OB→Prop}:∀ {es:List E} {vs:List Value} {ob:OB},(∀ e∈es,∀ v b,(∀ q∈b,q∈ob)→R e v b→S e v b)→dR R es vs ob→dR S es vs ob
 | [],_,_,_,h=>h
 | e::es,_,_,f,h=>by
   obtain ⟨v,r,b1,b2,rfl,rfl,h1,h2⟩:=h
   exact ⟨v,r,b1,b2,rfl,rfl,f e (List.mem_cons_self ..) v b1 (fun q hq=>gJ _ hq) h1,dR.imp (fun e he v b hb=>f e (List.mem_cons_of_mem _ he) v b fun q hq=>iq _ (hb q hq)) h2⟩
theorem bL.ae {P:Program} {w w':World} {G G':Nat→Nat→Prop} {B:Nat} {tm tm':Array Value} {env env':Env} {e:E} {v:Value} {ob:OB}
  (hG:∀ b i,b < w.heap.size→G b i→G' b i∧w'.cell? ⟨b,i,none⟩=w.cell? ⟨b,i,none⟩) (hL:b8 B w w') (hO:∀ g∈blocks ob,w'.heap[g]?=w.heap[g]?)
  (hH:∀ s,leads s e=true→fp w tm env w' tm' env' s) (h:bL P w G B tm env e v ob):bL P w' G' B tm' env' e v ob:=by
 cases e with
 | cP es=>
   obtain ⟨h0,vs,h1,h2⟩:=h
   refine ⟨h0,vs,h1,dR.imp (fun e he v b hb hr=>cx.ae hG hL (fun g hg=>?_) (fun s hs=>?_) hr) h2⟩
   ·obtain ⟨q,hq,rfl⟩:=ew.1 hg
    exact hO _ (ew.2 ⟨q,hb q hq,rfl⟩)
   ·rw [h0 e he s] at hs; exact absurd hs (by simp)
 | dY f A C caps=>
   obtain ⟨h0,cv,h1,h2⟩:=h
   refine ⟨h0,cv,h1,dR.imp (fun e he v b hb hr=>cx.ae hG hL (fun g hg=>?_) (fun s hs=>?_) hr) h2⟩
   ·obtain ⟨q,hq,rfl⟩:=ew.1 hg
    exact absurd (hb q hq) (by simp)
   ·refine hH s ?_
    simp only [leads,vG]
    refine ⟨e,he,?_⟩
    cases e<;>simp only [leads] at hs ⊢<;>first | exact hs | exact (hr:False).elim | exact absurd hs (by simp)
 | dead=>exact h
 | cn=>exact h
 | v T x=>exact cx.ae (P:=P) (e:=.v T x) hG hL hO hH h
 | own wr e T o xs=>exact cx.ae (P:=P) (e:=.own wr e T o xs) hG hL hO hH h
 | loc T o x=>exact cx.ae (P:=P) (e:=.loc T o x) hG hL hO hH h
 | ref s p=>exact cx.ae (P:=P) (e:=.ref s p) hG hL hO hH h
 | ptr s p=>exact cx.ae (P:=P) (e:=.ptr s p) hG hL hO hH h
 | dk s p i q=>exact cx.ae (P:=P) (e:=.dk s p i q) hG hL hO hH h
 | «at» T x=>exact cx.ae (P:=P) (e:=.at T x) hG hL hO hH h
 | it s pos=>exact cx.ae (P:=P) (e:=.it s pos) hG hL hO hH h
 | sb t e s=>exact cx.ae (P:=P) (e:=.sb t e s) hG hL hO hH h
 | nw T o x=>exact cx.ae (P:=P) (e:=.nw T o x) hG hL hO hH h
theorem bL.leads {P:Program} {w:World} {G:Nat→Nat→Prop} {B:Nat} {tm:Array Value} {env:Env} {e:E} {v:Value} {ob:OB} {s:Nat}
  (hs:leads s e=true) (h:bL P w G B tm env e v ob):(look env s).home=true∧ob=[]:=by
 have key:∀ {e:E} {v:Value} {ob:OB},Fw.leads s e=true→cx P w G B tm env e v ob→(look env s).home=true∧ob=[]:=by
  intro e v ob hs h
  cases e<;>simp only [Fw.leads] at hs<;>first | exact (h:False).elim | (exfalso; simp at hs; done) | skip
  ·simp only [beq_iff_eq] at hs; subst hs
   obtain ⟨h0,h1,_⟩:=h
   refine ⟨?_,h0⟩
   unfold b7 at h1
   split at h1<;>first | (rename_i hq; rw [hq]; rfl) | exact absurd h1 (by simp)
  ·simp only [beq_iff_eq] at hs; subst hs
   obtain ⟨h0,T,o,x,b,h1,_⟩:=h
   exact ⟨by rw [h1]; rfl,h0⟩
  ·simp only [beq_iff_eq] at hs; subst hs
   obtain ⟨h0,hh,g,n,c,_,h2,_⟩:=h
   refine ⟨?_,h0⟩
   unfold b7 at h2
   split at h2<;>first | (rename_i hq; rw [hq]; rfl) | exact absurd h2 (by simp)
 cases e with
 | cP=>exact absurd hs (by simp [Fw.leads])
 | dY f A C caps=>
   obtain ⟨h0,cv,h1,h2⟩:=h
   refine ⟨?_,h0⟩
   simp only [Fw.leads,vG] at hs
   obtain ⟨c,hc,hs⟩:=hs
   have find:∀ {es:List E} {vs:List Value} {ob:OB},dR (cx P w G B tm env) es vs ob→∀ c∈es,∃ v b,cx P w G B tm env c v b:=by
    intro es
    induction es with
    | nil=>intro vs ob _ c hc; exact absurd hc (by simp)
    | cons e es ih=>
      rintro vs ob ⟨v,r,b1,b2,rfl,rfl,h1,h2⟩ c hc
      rcases dG.1 hc with rfl | hc
      ·exact ⟨v,b1,h1⟩
      ·exact ih h2 c hc
   obtain ⟨v',b',hr⟩:=find h2 c hc
   refine (key (e:=c) ?_ hr).1
   cases c<;>simp only [Fw.leads] at hs ⊢<;>first | exact hs | exact (hr:False).elim | exact absurd hs (by simp)
 | dead=>exact absurd hs (by simp [Fw.leads])
 | cn=>exact absurd hs (by simp [Fw.leads])
 | v=>exact absurd hs (by simp [Fw.leads])
 | own=>exact absurd hs (by simp [Fw.leads])
 | loc=>exact absurd hs (by simp [Fw.leads])
 | ref s p=>exact key (e:=.ref s p) hs h
 | ptr s p=>exact key (e:=.ptr s p) hs h
 | dk s p i q=>exact key (e:=.dk s p i q) hs h
 | «at»=>exact absurd hs (by simp [Fw.leads])
 | it=>exact absurd hs (by simp [Fw.leads])
 | sb=>exact absurd hs (by simp [Fw.leads])
 | nw=>exact absurd hs (by simp [Fw.leads])
section
variable {P:Program} {B:Nat} {G0:Nat→Nat→Prop} {W0:dF} {n:Nat} {env env':Env} {tm tm':Array Value} {w w':World} {ob ob':Nat→OB}
structure aY (w w':World):Prop where
 os:w'.os=w.os
 tape:w'.tape=w.tape
 output:w'.output=w.output
 size:w.heap.size≤w'.heap.size
 block:∀ k,k < w.heap.size→w'.heap[k]?=w.heap[k]?
theorem aY.refl (w:World):aY w w:=⟨rfl,rfl,rfl,b5 _,fun _ _=>rfl⟩
theorem aY.alloc (w:World) (o:Obj):aY w (w.alloc o):=⟨rfl,rfl,rfl,by simp,fun i hi=>heap_alloc_old w o hi⟩
theorem aY.drew (w:World):aY w w.drew:=⟨rfl,rfl,rfl,b5 _,fun _ _=>rfl⟩
theorem aY.trans {a b c:World} (h:aY a b) (q:aY b c):aY a c:=
 ⟨q.os.trans h.os,q.tape.trans h.tape,q.output.trans h.output,gv h.size q.size,fun i hi=>(q.block i (eK hi h.size)).trans (h.block i hi)⟩
theorem aY.below {w w':World} (h:aY w w') {B:Nat} (hB:B≤w.heap.size):Below B w w':=⟨h.os,h.tape,h.output,h.size,fun k hk=>h.block k (eK hk hB)⟩
theorem aY.cell {w w':World} (h:aY w w') {b i:Nat} (hb:b < w.heap.size):w'.cell? ⟨b,i,none⟩=w.cell? ⟨b,i,none⟩:=World.cell?_of_block (w:=w) (h.block b hb)
structure Steps (ob ob':Nat→OB) (w w':World):Prop where
 from_:∀ k b,b∈blocks (ob' k)→(∃ j,b∈blocks (ob j))∨w.heap.size≤b
 rest:∀ b,b < w.heap.size→(∀ k,b∉blocks (ob k))→w'.heap[b]?=w.heap[b]?
theorem Steps.grow {ob ob':Nat→OB} {w w':World} (hg:aY w w') (h:∀ k b,b∈blocks (ob' k)→(∃ j,b∈blocks (ob j))∨w.heap.size≤b):Steps ob ob' w w':=⟨h,fun b hb _=>hg.block b hb⟩
theorem Steps.less {ob ob':Nat→OB} {w w':World} (hg:aY w w') (h:∀ k b,b∈blocks (ob' k)→∃ j,b∈blocks (ob j)):Steps ob ob' w w':=.grow hg fun k b hb=>.inl (h k b hb)
theorem ar.step (hC:ar P B G0 W0 n env tm w ob) (hst:Steps ob ob' w w') (hbel:Below B w w')
  (hG:∀ b i,b < w.heap.size→Gd B G0 ob b i→Gd B G0 ob' b i∧w'.cell? ⟨b,i,none⟩=w.cell? ⟨b,i,none⟩)
  (hrep:∀ k,(look env' k=look env k∧tm'.getD k undef=tm.getD k undef∧ob' k=ob k∧(∀ g∈blocks (ob k),w'.heap[g]?=w.heap[g]?)∧
    (∀ s,leads s (look env k)=true→fp w tm env w' tm' env' s))∨
   bL P w' (Gd B G0 ob') B tm' env' (look env' k) (tm'.getD k undef) (ob' k))
  (hdist:∀ j k b,b∈blocks (ob' j)→b∈blocks (ob' k)→j=k) (hnodup:∀ k,(blocks (ob' k)).Nodup)
  (hlow:∀ k b,b∈blocks (ob' k)→B≤b∧b < w'.heap.size) (hsize:tm'.size=n) (hpin:∀ v,W0.pin=some v→tm'.getD 0 undef=tm.getD 0 undef):ar P B G0 W0 n env' tm' w' ob' where
 rep k:=by
  rcases hrep k with ⟨h1,h2,h3,h4,h5⟩ | h
  ·rw [h1,h2,h3]
   exact bL.ae hG ⟨hbel.size,hbel.block⟩ h4 h5 (hC.rep k)
  ·exact h
 dist:=hdist
 nodup:=hnodup
 low:=hlow
 below:=hC.below.trans hbel
 prot k b hb hx:=by
  rcases hst.from_ k b hb with ⟨j,h⟩ | h
  ·exact hC.prot j b h hx
  ·have:=hC.oldx b hx; omega
 same b hx:=(hst.rest b (hC.oldx b hx) fun k h=>hC.prot k b h hx).trans (hC.same b hx)
 oldx b hx:=eK (hC.oldx b hx) hbel.size
 free:=hC.free
 base:=gv hC.base hbel.size
 size:=hsize
 pinned v h:=(hpin v h).trans (hC.pinned v h)
 kept b i h:=by
  obtain ⟨h1,h2,h3⟩:=hC.kept b i h
  obtain ⟨h4,h5⟩:=hG b i h1 h2
  exact ⟨eK h1 hbel.size,h4,h5.trans h3⟩
 jT:=hC.jT
def fE (ob:Nat→OB) (k:Nat) (b:OB):Nat→OB:=fun j=>if j=k then b else ob j
theorem gk (ob:Nat→OB) (k:Nat) (b:OB):fE ob k b k=b:=by simp [fE]
theorem fo (ob:Nat→OB) {k j:Nat} (b:OB) (h:j≠k):fE ob k b j=ob j:=by simp [fE,h]
theorem oe (tm:Array Value) (k:Nat) (v:Value) (h:k < tm.size):(tm.setIfInBounds k v).getD k undef=v:=by
 simp [Array.getD,h]
theorem hJ (tm:Array Value) {k j:Nat} (v:Value) (h:j≠k):(tm.setIfInBounds k v).getD j undef=tm.getD j undef:=by
 have:(tm.setIfInBounds k v)[j]?=tm[j]?:=Array.getElem?_setIfInBounds_ne (b9 h)
 simp only [Array.getD_eq_getD_getElem?,this]
theorem bH.ae {W0:dF} {n k:Nat} (hk:bH W0 n k) {v:Value} (h:W0.pin=some v) (tm:Array Value) (u:Value):(tm.setIfInBounds k u).getD 0 undef=tm.getD 0 undef:=
 hJ tm u (b9 (hk.2.resolve_left (by rw [h]; simp)))
theorem ar.put (hC:ar P B G0 W0 n env tm w ob) {k:Nat} {e:E} {v:Value} {bk:OB} (hk:bH W0 n k) (hfr:∀ b,b∈blocks bk→(∃ j,b∈blocks (ob j))∨w.heap.size≤b) (hrs:∀ b,b < w.heap.size→(∀ k,b∉blocks (ob k))→w'.heap[b]?=w.heap[b]?) (hbel:Below B w w')
  (hO:∀ j,j≠k→∀ g∈blocks (ob j),w'.heap[g]?=w.heap[g]?)
  (hG:∀ b i,b < w.heap.size→Gd B G0 ob b i→Gd B G0 (fE ob k bk) b i∧w'.cell? ⟨b,i,none⟩=w.cell? ⟨b,i,none⟩)
  (hnew:bL P w' (Gd B G0 (fE ob k bk)) B (tm.setIfInBounds k v) (Fw.put env k e) (if leads k e then .dead else e) v bk)
  (hdist:∀ j b,j≠k→b∈blocks (ob j)→b∉blocks bk) (hnodup:(blocks bk).Nodup) (hlow:∀ b,b∈blocks bk→B≤b∧b < w'.heap.size):
  ar P B G0 W0 n (Fw.put env k e) (tm.setIfInBounds k v) w' (fE ob k bk):=by
 have hkt:k < tm.size:=by rw [hC.size]; exact hk.1
 refine ar.step hC ⟨fun j b hb=>?_,hrs⟩ hbel hG (fun j=>?_) ?_ ?_ ?_ (by rw [sZ]; exact hC.size) (fun _ h=>hk.ae h _ _)
 ·by_cases hj:j=k
  ·subst hj; rw [gk] at hb; exact hfr b hb
  ·rw [fo _ _ hj] at hb; exact .inl ⟨j,hb⟩
 ·by_cases hj:j=k
  ·subst hj
   right
   rw [sL,if_pos rfl,oe _ _ _ hkt,gk]
   exact hnew
  ·rw [sL,if_neg (b9 hj),hJ _ _ hj,fo _ _ hj]
   by_cases hd:(look env k).home=true∧leads k (look env j)=true
   ·right
    rw [if_pos hd]
    exact (bL.leads hd.2 (hC.rep j)).2
   ·left
    rw [if_neg hd]
    refine ⟨rfl,rfl,rfl,hO j hj,fun s hs=>?_⟩
    have hs2:=bL.leads hs (hC.rep j)
    have hsk:s≠k:=by rintro rfl; exact hd ⟨hs2.1,hs⟩
    refine fp.same (P:=P) ?_ (hJ _ _ hsk) (hC.rep s) (hO s hsk)
    rw [sL,if_neg (b9 hsk),sI hs2.1]
    simp
 ·intro i j b hi hj
  by_cases h1:i=k
  ·by_cases h2:j=k
   ·rw [h1,h2]
   ·subst h1
    rw [gk] at hi; rw [fo _ _ h2] at hj
    exact absurd hi (hdist j b h2 hj)
  ·by_cases h2:j=k
   ·subst h2
    rw [gk] at hj; rw [fo _ _ h1] at hi
    exact absurd hj (hdist i b h1 hi)
   ·rw [fo _ _ h1] at hi; rw [fo _ _ h2] at hj
    exact hC.dist i j b hi hj
 ·intro j
  by_cases h:j=k
  ·subst h; rw [gk]; exact hnodup
  ·rw [fo _ _ h]; exact hC.nodup j
 ·intro j b hb
  by_cases h:j=k
  ·subst h; rw [gk] at hb; exact hlow b hb
  ·rw [fo _ _ h] at hb
   have:=hC.low j b hb
   exact ⟨this.1,eK this.2 hbel.size⟩
theorem s3 {k:Nat} {bk:OB} {b i:Nat} (hb:∀ lim,(b,lim)∈bk→i < lim) (h:Gd B G0 ob b i):Gd B G0 (fE ob k bk) b i:=by
 rcases h with h | ⟨h1,h0,h2⟩
 ·exact .inl h
 ·refine .inr ⟨h1,h0,fun j lim hj=>?_⟩
  by_cases hjk:j=k
  ·subst hjk; rw [gk] at hj; exact hb lim hj
  ·rw [fo _ _ hjk] at hj; exact h2 j lim hj
theorem ar.oB (hC:ar P B G0 W0 n env tm w ob) {k:Nat} {e:E} {v:Value} {bk:OB} (hk:bH W0 n k) (hg:aY w w')
  (hnew:bL P w' (Gd B G0 (fE ob k bk)) B (tm.setIfInBounds k v) (Fw.put env k e) (if leads k e then .dead else e) v bk)
  (hbk:∀ b∈blocks bk,w.heap.size≤b∧b < w'.heap.size) (hnodup:(blocks bk).Nodup):
  ar P B G0 W0 n (Fw.put env k e) (tm.setIfInBounds k v) w' (fE ob k bk):=by
 refine ar.put hC hk (fun b hb=>.inr (hbk b hb).1) (fun b hb _=>hg.block b hb) (hg.below hC.base) (fun j _ g hg'=>hg.block g (hC.low j g hg').2) (fun b i hb h=>⟨s3 (fun lim hl=>?_) h,hg.cell hb⟩) hnew (fun j b _ hb hb'=>?_) hnodup (fun b hb=>?_)
 ·have:=(hbk b (ew.2 ⟨_,hl,rfl⟩)).1; omega
 ·have:=(hbk b hb').1; have:=(hC.low j b hb).2; omega
 ·have h1:=hbk b hb; have h2:=hC.base; exact ⟨by omega,h1.2⟩
theorem ar.ayq (hC:ar P B G0 W0 n env tm w ob) {k:Nat} {e:E} {v:Value} (hk:bH W0 n k) (hg:aY w w')
  (hr:bL P w (Gd B G0 ob) B tm env e v []):ar P B G0 W0 n (Fw.put env k e) (tm.setIfInBounds k v) w' (fE ob k []):=by
 refine ar.oB hC hk hg ?_ (by simp) (by simp)
 split
 ·exact rfl
 ·rename_i hl
  refine bL.ae (fun b i hb h=>⟨s3 (by simp) h,hg.cell hb⟩) ⟨hg.size,fun b hb=>hg.block b (eK hb hC.base)⟩ (by simp) (fun s hs=>?_) hr
  have hsk:s≠k:=by rintro rfl; exact hl hs
  have hs2:=bL.leads hs hr
  refine fp.same (P:=P) ?_ (hJ _ _ hsk) (hC.rep s) (fun g hg'=>hg.block g (hC.low s g hg').2)
  rw [sL,if_neg (b9 hsk),sI hs2.1]
  simp
theorem ar.aX (hC:ar P B G0 W0 n env tm w ob) {d:Option Nat} {e:E} {v:Value} (hk:∀ k,d=some k→bH W0 n k) (hg:aY w w')
  (hr:bL P w (Gd B G0 ob) B tm env e v []) (a:Act) (ha:a.tmps=tm):∃ ob',ar P B G0 W0 n (Fw.aX env d e) (a.put d v).tmps w' ob':=by
 cases d with
 | none=>
   refine ⟨ob,?_⟩
   subst ha
   refine ar.step hC (.less hg fun k b hb=>⟨k,hb⟩) (hg.below hC.base) (fun b i hb h=>⟨h,hg.cell hb⟩) (fun k=>.inl ⟨rfl,rfl,rfl,fun g hg'=>hg.block g (hC.low k g hg').2,fun s hs=>?_⟩) hC.dist hC.nodup (fun k b hb=>⟨(hC.low k b hb).1,eK (hC.low k b hb).2 hg.size⟩) hC.size (fun _ _=>rfl)
   exact fp.same (P:=P) rfl rfl (hC.rep s) (fun g hg'=>hg.block g (hC.low s g hg').2)
 | some k=>subst ha; exact ⟨_,ar.ayq hC (hk k rfl) hg hr⟩
theorem ar.relabel (hC:ar P B G0 W0 n env tm w ob) {s:Nat} {e:E} {bs:OB}
  (hbl:blocks bs=blocks (ob s)) (hlim:∀ b lim,(b,lim)∈bs→∃ lim',(b,lim')∈ob s∧lim'≤lim)
  (hhome:fp w tm env w tm ((s,e)::env) s) (hnew:bL P w (Gd B G0 (fE ob s bs)) B tm ((s,e)::env) e (tm.getD s undef) bs):
  ar P B G0 W0 n ((s,e)::env) tm w (fE ob s bs):=by
 have hfrom:∀ j b,b∈blocks (fE ob s bs j)→b∈blocks (ob j):=by
  intro j b hb
  by_cases h:j=s
  ·subst h; rw [gk,hbl] at hb; exact hb
  ·rw [fo _ _ h] at hb; exact hb
 refine ar.step hC (.less (aY.refl _) fun j b hb=>⟨j,hfrom j b hb⟩) (Below.refl _ _) (fun b i hb h=>⟨?_,rfl⟩) (fun j=>?_) ?_ ?_ ?_ hC.size (fun _ _=>rfl)
 ·rcases h with h | ⟨h1,h0,h2⟩
  ·exact .inl h
  ·refine .inr ⟨h1,h0,fun j lim hj=>?_⟩
   by_cases hjk:j=s
   ·subst hjk; rw [gk] at hj
    obtain ⟨lim',h3,h4⟩:=hlim b lim hj
    exact eK (h2 j lim' h3) h4
   ·rw [fo _ _ hjk] at hj; exact h2 j lim hj
 ·by_cases hj:j=s
  ·subst hj; right; rw [bm,if_pos rfl,gk]; exact hnew
  ·left
   rw [bm,if_neg (b9 hj),fo _ _ hj]
   refine ⟨rfl,rfl,rfl,fun _ _=>rfl,fun t ht=>?_⟩
   by_cases hts:t=s
   ·subst hts; exact hhome
   ·exact fp.same (P:=P) (by rw [bm,if_neg (b9 hts)]) rfl (hC.rep t) (fun _ _=>rfl)
 ·intro i j b hi hj
  have key:∀ i,b∈blocks (fE ob s bs i)→b∈blocks (ob i):=by
   intro i hi
   by_cases h:i=s
   ·subst h; rw [gk,hbl] at hi; exact hi
   ·rw [fo _ _ h] at hi; exact hi
  exact hC.dist i j b (key i hi) (key j hj)
 ·intro j
  by_cases h:j=s
  ·subst h; rw [gk,hbl]; exact hC.nodup j
  ·rw [fo _ _ h]; exact hC.nodup j
 ·intro j b hb
  by_cases h:j=s
  ·subst h; rw [gk,hbl] at hb; exact hC.low j b hb
  ·rw [fo _ _ h] at hb; exact hC.low j b hb
theorem ar.forget (hC:ar P B G0 W0 n env tm w ob) (h:∀ k,look env' k=look env k∨(look env' k=.dead∧(∀ j,leads k (look env' j)=true→False))):
  ∃ ob',ar P B G0 W0 n env' tm w ob':=by
 classical
 refine ⟨fun k=>if look env' k=look env k then ob k else [],?_⟩
 have hfrom:∀ j b,b∈blocks ((fun k=>if look env' k=look env k then ob k else []) j)→∃ i,b∈blocks (ob i):=by
  intro j b hb
  simp only at hb
  split at hb
  ·exact ⟨j,hb⟩
  ·exact absurd hb (by simp)
 refine ar.step hC (.less (aY.refl _) hfrom) (Below.refl _ _) (fun b i hb h=>⟨?_,rfl⟩) (fun j=>?_) ?_ ?_ ?_ hC.size (fun _ _=>rfl)
 ·rcases h with h | ⟨h1,h0,h2⟩
  ·exact .inl h
  ·refine .inr ⟨h1,h0,fun j lim hj=>h2 j lim ?_⟩
   simp only at hj
   split at hj
   ·exact hj
   ·exact absurd hj (by simp)
 ·by_cases hj:look env' j=look env j
  ·left
   refine ⟨hj,rfl,by simp [hj],fun _ _=>rfl,fun s hs=>?_⟩
   rcases h s with h1 | h1
   ·exact fp.same (P:=P) h1 rfl (hC.rep s) (fun _ _=>rfl)
   ·exact (h1.2 j (by rw [hj]; exact hs)).elim
  ·right
   simp only [hj,if_false]
   rcases h j with h1 | h1
   ·exact absurd h1 hj
   ·rw [h1.1]; exact rfl
 ·intro i j b hi hj
  split at hi<;>split at hj<;>first | exact hC.dist i j b hi hj | exact absurd hi (by simp) | exact absurd hj (by simp)
 ·intro j; split
  ·exact hC.nodup j
  ·simp
 ·intro j b hb
  split at hb
  ·exact hC.low j b hb
  ·exact absurd hb (by simp)
end
end Go.Fw
/- Soundness, part 4: the program's types; constants; reading and writing cells. -/
namespace Go.Fw
open Go Go.RowKit
def tQ:Value→Value→Bool
 | .int k n,.int k' n'=>decide (k=k')&&decide (n=n')
 | .bool a,.bool b=>a==b
 | .string a,.string b=>decide (a=b)
 | .slice none 0 0,.slice none 0 0=>true
 | _,_=>false
theorem rK {a b:Value} (h:tQ a b=true):a=b:=by
 unfold tQ at h
 split at h<;>simp_all
def tS:List Value→List Value→Bool
 | [],[]=>true
 | a::r,b::s=>tQ a b&&tS r s
 | _,_=>false
theorem aei:∀ {a b:List Value},tS a b=true→a=b
 | [],[],_=>rfl
 | a::r,b::s,h=>by
   simp only [tS,aB] at h
   rw [rK h.1,aei h.2]
 | [],_::_,h=>by simp [tS] at h
 | _::_,[],h=>by simp [tS] at h
def Hb (T:Ty) (vs:List Value) (v:Value):Bool:=
 match fk T,v with
 | true,.agg cs=>tS vs cs.toList
 | false,v=>match vs with | [u]=>tQ u v | _=>false
 | _,_=>false
theorem aek {T:Ty} {vs:List Value} {v:Value} (h:Hb T vs v=true):v=ck T vs:=by
 unfold Hb at h
 unfold ck
 split at h
 ·rename_i ht
  rw [if_pos ht,aei h]
 ·rename_i ht
  split at h
  ·rw [if_neg (by simp [ht]),rK h]; rfl
  ·exact absurd h (by simp)
 ·exact absurd h (by simp)
def af6 (k:IntKind) (n:Int):Bool:=decide (k.min≤n)&&decide (n≤k.max)
def qt (n:Nat) (l:List Value):List Value:=match n with | 0=> [] | n+1=>l++qt n l
def gU:(T:Ty)→den T→Option (List Value)
 | .int k,n=>if af6 k n then some [.int k n] else none
 | .bool,b=>some [.bool b]
 | .str,s=>if s.length≤1000000 then some [.string ⟨⟨s⟩⟩] else none
 | .unit,_=>some []
 | .sl _,xs=>match xs with | []=>some [.slice none 0 0] | _=>none
 | .pair A B,x=>match gU A x.1,gU B x.2 with
   | some a,some b=>some (a++b)
   | _,_=>none
 | .arr n T,xs=>if xs.length=n then (List.foldr (fun x acc=>match gU T x,acc with | some a,some b=>some (a++b) | _,_=>none) (some []) xs) else none
 | .fn _ _,_=>none
def jc:Ty→aC→Bool
 | .sl _,.hole=>false
 | .pair A B,o=>jc A o.l&&jc B o.r
 | _,_=>true
theorem iu (P:Program):∀ (T:Ty) {x:den T} {vs:List Value} (w:World) (G:Nat→Nat→Prop) (B:Nat) (o:aC),jc T o=true→gU T x=some vs→Flat P T w G B o x vs []
 | .int k,x,vs,w,G,B,o,_,h=>by
   simp only [gU] at h
   split at h
   ·rename_i hr
    simp only [af6,aB,decide_eq_true_eq] at hr
    simp only [az] at h
    unfold Flat; exact ⟨h.symm,hr,rfl⟩
   ·exact absurd h (by simp)
 | .bool,x,vs,w,G,B,o,_,h=>by simp only [gU,az] at h; unfold Flat; exact ⟨h.symm,rfl⟩
 | .str,x,vs,w,G,B,o,_,h=>by
   simp only [gU] at h
   split at h
   ·rename_i hr
    simp only [az] at h
    unfold Flat; exact ⟨h.symm,by unfold maxLen; omega,rfl⟩
   ·exact absurd h (by simp)
 | .unit,x,vs,w,G,B,o,_,h=>by simp only [gU,az] at h; unfold Flat; exact ⟨h.symm,rfl⟩
 | .sl T,x,vs,w,G,B,o,ho,h=>by
   simp only [gU] at h
   split at h
   ·simp only [az] at h
    subst h
    cases o with
    | no=>unfold Flat; exact ⟨rfl,none,0,rfl,by simp,by simp [maxLen],.inl rfl⟩
    | pair=>unfold Flat; exact ⟨rfl,none,0,rfl,by simp,by simp [maxLen],.inl rfl⟩
    | hole=>simp [jc] at ho
    | own wr e o=>unfold Flat; exact ⟨_,[],[],rfl,vn (World.ownsRow_nil _ _ _ _),⟨rfl,rfl⟩,rfl⟩
   ·exact absurd h (by simp)
 | .pair A C,x,vs,w,G,B,o,ho,h=>by
   simp only [jc,aB] at ho
   simp only [gU] at h
   split at h
   ·rename_i a b ha hb
    simp only [az] at h
    subst h
    unfold Flat
    exact ⟨a,b,[],[],rfl,rfl,iu P A w G B o.l ho.1 ha,iu P C w G B o.r ho.2 hb⟩
   ·exact absurd h (by simp)
 | .arr n T,x,vs,w,G,B,o,_,h=>by
   simp only [gU] at h
   split at h
   ·rename_i hn
    unfold Flat
    refine ⟨hn,?_⟩
    clear hn
    revert vs
    induction (x:List (den T)) with
    | nil=>intro vs h; simp only [List.foldr_nil,az] at h; exact ⟨h.symm,rfl⟩
    | cons y ys ih=>
      intro vs h
      simp only [List.foldr_cons] at h
      split at h
      ·rename_i a b ha hb
       simp only [az] at h
       have hy:Flat P T w G B .no y a []:=iu P T w G B .no (by cases T<;>simp [jc,aC.l,aC.r]<;>exact annOk_no' _ _) ha
       exact ⟨a,b,[],[],h.symm,rfl,hy,ih _ hb⟩
      ·exact absurd h (by simp)
   ·exact absurd h (by simp)
 | .fn _ _,x,vs,w,G,B,o,_,h=>by simp [gU] at h
where
 annOk_no:∀ T,jc T .no=true
  | .int _=>rfl | .bool=>rfl | .str=>rfl | .unit=>rfl | .sl _=>rfl | .arr _ _=>rfl | .fn _ _=>rfl
  | .pair A B=>by simp only [jc,aB]; exact ⟨annOk_no A,annOk_no B⟩
 annOk_no':∀ A B,jc A .no=true∧jc B .no=true:=fun A B=>⟨annOk_no A,annOk_no B⟩
def qK:TypeDesc→Bool
 | .struct _ | .array _ _=>true
 | _=>false
mutual
def dE (P:Program):Nat→TypeId→Ty→Bool
 | 0,_,_=>false
 | n+1,t,T=>(match P.info? t with | some i=>i.size==aA T | none=>false)&&
   match P.underlying t with
   | some (.int k)=>(match T with | .int k'=>decide (k=k') | _=>false)
   | some .bool=>(match T with | .bool=>true | _=>false)
   | some .string=>(match T with | .str=>true | _=>false)
   | some (.slice e)=>(match T with | .sl T'=>dE P n e T' | _=>false)
   | some (.array m e)=>(match T with | .arr m' T'=>m==m'&&dE P n e T' | _=>false)
   | some (.struct fs)=>eo P n fs.toList T 0
   | some (.func _ _ _)=>(match T with | .fn _ _=>true | _=>false)
   | _=>false
def eo (P:Program):Nat→List Field→Ty→Nat→Bool
 | 0,_,_,_=>false
 | _+1,[],T,_=>(match T with | .unit=>true | _=>false)
 | n+1,f::fs,T,off=>(match T with | .pair A B=>f.offset==off&&dE P n f.type A&&eo P n fs B (off+aA A) | _=>false)
end
structure bW (P:Program) (t:TypeId) (T:Ty):Prop where
 ok:∃ n,dE P n t T=true
theorem bW.size {P:Program} {t:TypeId} {T:Ty} (h:bW P t T):∃ i,P.info? t=some i∧i.size=aA T:=by
 obtain ⟨⟨n,h⟩⟩:=h
 cases n with
 | zero=>simp [dE] at h
 | succ n=>
   simp only [dE,aB] at h
   cases hi:P.info? t with
   | none=>simp [hi] at h
   | some i=>exact ⟨i,rfl,by simpa [hi] using h.1⟩
theorem bW.agg {P:Program} {t:TypeId} {T:Ty} (h:bW P t T):∃ d,P.underlying t=some d∧qK d=fk T:=by
 obtain ⟨⟨n,h⟩⟩:=h
 cases n with
 | zero=>simp [dE] at h
 | succ n=>
   simp only [dE,aB] at h
   have h2:=h.2
   cases hu:P.underlying t with
   | none=>simp [hu] at h2
   | some d=>
     refine ⟨d,rfl,?_⟩
     cases d with
     | struct fs=>
       simp only [hu] at h2
       cases n with
       | zero=>simp [eo] at h2
       | succ n=>
         cases hfs:fs.toList with
         | nil=>rw [hfs] at h2; cases T<;>first | rfl | (simp [eo] at h2; done)
         | cons f fs=>rw [hfs] at h2; cases T<;>first | rfl | (simp [eo] at h2; done)
     | _=>cases T<;>first | rfl | (simp [hu] at h2; done)
theorem bW.cases {P:Program} {t:TypeId} {T:Ty} (h:bW P t T) (hT:∀ A B,T≠.pair A B) (hT':T≠.unit):∃ n d,P.underlying t=some d∧(∀ fs,d≠.struct fs)∧
  (match d with
  | .int k=>(match T with | .int k'=>decide (k=k') | _=>false)
  | .bool=>(match T with | .bool=>true | _=>false)
  | .string=>(match T with | .str=>true | _=>false)
  | .slice e=>(match T with | .sl T'=>dE P n e T' | _=>false)
  | .array m e=>(match T with | .arr m' T'=>m==m'&&dE P n e T' | _=>false)
  | .func _ _ _=>(match T with | .fn _ _=>true | _=>false)
  | _=>false)=true:=by
 obtain ⟨⟨n,h⟩⟩:=h
 cases n with
 | zero=>simp [dE] at h
 | succ n=>
   simp only [dE,aB] at h
   have h2:=h.2
   cases hu:P.underlying t with
   | none=>simp [hu] at h2
   | some d=>
     refine ⟨n,d,rfl,?_,?_⟩
     ·rintro fs rfl
      simp only [hu] at h2
      cases n with
      | zero=>simp [eo] at h2
      | succ n=>
        cases hfs:fs.toList with
        | nil=>rw [hfs] at h2; cases T<;>first | exact hT' rfl | (simp [eo] at h2; done)
        | cons f fs=>rw [hfs] at h2; cases T<;>first | exact hT _ _ rfl | (simp [eo] at h2; done)
     ·rw [hu] at h2
      cases d with
      | struct fs=>
        exfalso
        cases n with
        | zero=>simp [eo] at h2
        | succ n=>
          cases hfs:fs.toList with
          | nil=>simp only [hfs] at h2; cases T<;>first | exact hT' rfl | (simp [eo] at h2; done)
          | cons f fs=>simp only [hfs] at h2; cases T<;>first | exact hT _ _ rfl | (simp [eo] at h2; done)
      | _=>cases T<;>first | exact h2 | (simp at h2; done)
theorem bW.slice {P:Program} {t:TypeId} {T:Ty} (h:bW P t (.sl T)):∃ e,P.underlying t=some (.slice e)∧bW P e T:=by
 obtain ⟨n,d,hu,_,h2⟩:=h.cases (by simp) (by simp)
 cases d<;>first | (simp at h2; done) | exact ⟨_,hu,⟨n,h2⟩⟩
theorem bW.int {P:Program} {t:TypeId} {k:IntKind} (h:bW P t (.int k)):P.underlying t=some (.int k):=by
 obtain ⟨n,d,hu,_,h2⟩:=h.cases (by simp) (by simp)
 cases d<;>first | (simp at h2; done) | (rw [hu,of_decide_eq_true h2])
theorem bW.bool {P:Program} {t:TypeId} (h:bW P t .bool):P.underlying t=some .bool:=by
 obtain ⟨n,d,hu,_,h2⟩:=h.cases (by simp) (by simp)
 cases d<;>first | (simp at h2; done) | exact hu
theorem bW.str {P:Program} {t:TypeId} (h:bW P t .str):P.underlying t=some .string:=by
 obtain ⟨n,d,hu,_,h2⟩:=h.cases (by simp) (by simp)
 cases d<;>first | (simp at h2; done) | exact hu
theorem bW.array {P:Program} {t:TypeId} {m:Nat} {T:Ty} (h:bW P t (.arr m T)):∃ e,P.underlying t=some (.array m e)∧bW P e T:=by
 obtain ⟨n,d,hu,_,h2⟩:=h.cases (by simp) (by simp)
 cases d<;>first | (simp at h2; done) | skip
 simp only [aB,beq_iff_eq] at h2
 exact ⟨_,by rw [hu,h2.1],⟨n,h2.2⟩⟩
def eV:Nat→Path
 | 0=> [.l]
 | f+1=>.r::eV f
theorem aes (P:Program):∀ (fs:List Field) (n:Nat) (T:Ty) (off f:Nat) (fd:Field),eo P n fs T off=true→fs[f]?=some fd→∃ A,dw T (eV f)=some A∧bW P fd.type A∧off+bu T (eV f)=fd.offset
 | [],n,T,off,f,fd,_,h=>by simp at h
 | g::fs,n,T,off,f,fd,h,hf=>by
   cases n with
   | zero=>simp [eo] at h
   | succ n=>
     simp only [eo] at h
     split at h
     ·rename_i A C
      simp only [aB,beq_iff_eq] at h
      cases f with
      | zero=>
        simp only [im,az] at hf
        subst hf
        refine ⟨A,?_,⟨n,h.1.2⟩,?_⟩
        ·cases A<;>rfl
        ·have:bu A []=0:=by cases A<;>rfl
         simp only [eV,bu,this]; omega
      | succ f=>
        simp only [vI] at hf
        obtain ⟨D,h1,h2,h3⟩:=aes P fs n C (off+aA A) f fd h.2 hf
        exact ⟨D,by simp only [eV,dw]; exact h1,h2,by simp only [eV,bu]; omega⟩
     ·exact absurd h (by simp)
theorem bW.struct {P:Program} {t:TypeId} {T:Ty} {fs:Array Field} (h:bW P t T) (hu:P.underlying t=some (.struct fs)) {f:Nat} {fd:Field} (hf:fs[f]?=some fd):
  ∃ A,dw T (eV f)=some A∧bW P fd.type A∧bu T (eV f)=fd.offset:=by
 obtain ⟨⟨n,h⟩⟩:=h
 cases n with
 | zero=>simp [dE] at h
 | succ n=>
   simp only [dE,aB,hu] at h
   obtain ⟨A,h1,h2,h3⟩:=aes P fs.toList n T 0 f fd h.2 (by simpa using hf)
   exact ⟨A,h1,h2,by omega⟩
theorem mc (b off j:Nat):(⟨b,off,none⟩:Addr).add j=⟨b,off+j,none⟩:=by unfold Addr.add; split<;>simp_all
section
variable {P:Program}
theorem oC {t:TypeId} {T:Ty} (h:bW P t T) (w:World):(sizeOf t).run P w=.ok (aA T) w:=by
 obtain ⟨i,hi,hs⟩:=h.size
 simp [sizeOf,typeInfo,hi,hs]
theorem ahq {t:TypeId} {T:Ty} (h:bW P t T) (w:World):(isAgg t).run P w=.ok (fk T) w:=by
 obtain ⟨d,hd,ha⟩:=h.agg
 simp only [isAgg,Sem.run_bind,run_underlying hd,Result.andThen_ok]
 rw [←ha]
 cases d<;>rfl
theorem ahr {t:TypeId} {T:Ty} (h:bW P t T) (w:World) {b off:Nat} {vs:List Value} (hl:vs.length=aA T) (hc:∀ j u,vs[j]?=some u→w.cell? ⟨b,off+j,none⟩=some u):
  (loadVar t ⟨b,off,none⟩).run P w=.ok (ck T vs) w:=by
 unfold loadVar
 simp only [Sem.run_bind,ahq h,Result.andThen_ok]
 unfold ck
 by_cases ha:fk T=true
 ·rw [if_pos ha,if_pos ha]
  have:=run_loadCells_list (P:=P) w ⟨b,off,none⟩ vs (fun j v hj=>by rw [mc]; exact hc j v hj)
  simp only [Sem.run_bind,oC h,Result.andThen_ok,←hl,this]
  rfl
 ·rw [if_neg ha,if_neg ha]
  have h1:vs.length=1:=by rw [hl]; cases T<;>simp_all [fk,aA]
  obtain ⟨u,rfl⟩:=s5.1 h1
  have:=hc 0 u rfl
  simp only [ff] at this
  simp [run_load,this]
theorem nD {T:Ty} {vs:List Value} (hl:vs.length=aA T) (h1:∀ u∈vs,u.oneCell'=true):(ck T vs).cells=vs.toArray:=by
 unfold ck
 by_cases ha:fk T=true
 ·rw [if_pos ha]; rfl
 ·rw [if_neg ha]
  have h1':vs.length=1:=by rw [hl]; cases T<;>simp_all [fk,aA]
  obtain ⟨u,rfl⟩:=s5.1 h1'
  have:=h1 u (by simp)
  cases u<;>simp_all [Value.oneCell',Value.cells]
theorem aht (P:Program) (g o:Nat) (t:TypeId) (fz:Nat×Nat):∀ (vs:List Value) (i:Nat) (cur:Array Value) (w:World),w.heap[g]?=some (.cells cur t fz)→rM fz cur.size→o+i+vs.length≤cur.size→(∀ v∈vs,v.oneCell'=true)→
  (storeCells ⟨g,o,none⟩ vs i).run P w=.ok () (w.setRow g (cur.toList.take (o+i)++vs++cur.toList.drop (o+i+vs.length)).toArray)
 | [],i,cur,w,hg,_,_,_=>by
   simp only [storeCells,List.append_nil,List.length_nil,ff,List.take_append_drop,Array.toArray_toList]
   rw [setRow_self w g cur t fz hg]
   rfl
 | v::rest,i,cur,w,hg,hfz,hl,h1=>by
   have hi:o+i < cur.size:=by simp at hl; omega
   have hadd:(⟨g,o,none⟩:Addr).add i=⟨g,o+i,none⟩:=by unfold Addr.add; split<;>simp_all
   have hcell:w.cell? ⟨g,o+i,none⟩=some cur[o+i]:=by simp [World.cell?,hg,hi]
   have hfro:w.frozen? ⟨g,o+i,none⟩=false:=by
    obtain ⟨lo,hi'⟩:=fz
    simp only [World.frozen?,hg,Bool.and_eq_false_iff,decide_eq_false_iff_not]
    rcases hfz with hfz | hfz
    ·simp only [eL] at hfz; right; omega
    ·simp only at hfz; left; omega
   have hst:(store ((⟨g,o,none⟩:Addr).add i) v).run P w=.ok () (w.setRow g (cur.setIfInBounds (o+i) v)):=by
    rw [hadd,run_store P w _ v _ (h1 v (by simp)),hcell]
    simp [hfro,setCell_eq_setRow w g (o+i) cur t fz v hg]
   have ih:=aht P g o t fz rest (i+1) (cur.setIfInBounds (o+i) v) (w.setRow g (cur.setIfInBounds (o+i) v)) (setRow_heap w g cur _ t _ hg) (by simpa using hfz) (by simp at hl ⊢; omega) (fun x hx=>h1 x (by simp [hx]))
   simp only [storeCells,Sem.run_bind,hst,Result.andThen_ok,ih,setRow_setRow]
   congr 3
   have e:=list_seg_step cur.toList (o+i) v rest (by simp at hl ⊢; omega)
   simpa [Array.toList_setIfInBounds,nB] using e
theorem aAL {t:TypeId} {T:Ty} (h:bW P t T) (w:World) {g off:Nat} {e:TypeId} {fz:Nat×Nat} {cur:Array Value} {vs:List Value} (hg:w.heap[g]?=some (.cells cur e fz)) (hfz:rM fz cur.size) (hl:vs.length=aA T)
  (h1:∀ u∈vs,u.oneCell'=true) (hfit:off+vs.length≤cur.size):
  (storeVar t ⟨g,off,none⟩ (ck T vs)).run P w=.ok () (w.setRow g (cur.toList.take off++vs++cur.toList.drop (off+vs.length)).toArray):=by
 have:=aht P g off e fz vs 0 cur w hg hfz (by simpa using hfit) h1
 simp only [ff] at this
 simp [storeVar,oC h,nD hl h1,hl,this]
end
end Go.Fw
/- Soundness, part 5: operands; copies and assignments. -/
namespace Go.Fw
open Go Go.RowKit
def aK:Operand→Od→Bool
 | .tmp k,.t k'=>k==k'
 | .const v,.c T x=>(match gU T x with | some vs=>Hb T vs v | none=>false)
 | .const v,.nil _ _=>tQ v (.slice none 0 0)
 | .func f,.fn g _ _=>f==g
 | _,_=>false
def CQ (ob:Nat→OB):Od→OB | .t k=>ob k | _=> []
section
variable {P:Program} {B:Nat} {G0:Nat→Nat→Prop} {W0:dF} {n:Nat} {env:Env} {a:Act} {w:World} {ob:Nat→OB}
theorem gr {x:Operand} {y:Od} (hC:ar P B G0 W0 n env a.tmps w ob) (h:aK x y=true):bL P w (Gd B G0 ob) B a.tmps env (ag env y) (a.eval x) (CQ ob y):=by
 unfold aK at h
 split at h
 ·rename_i k k'
  rw [beq_iff_eq] at h; subst h
  exact hC.rep k
 ·rename_i v T x
  split at h
  ·rename_i vs hvs
   exact ⟨rfl,vs,iu P T w _ B .no (iu.annOk_no T) hvs,aek h⟩
  ·exact absurd h (by simp)
 ·rename_i v e T
  have:=rK h
  subst this
  show Flat P (.sl T) w _ B (.own true e .no) [] [_] _
  unfold Flat
  exact ⟨_,[],[],rfl,vn (World.ownsRow_nil _ _ _ _),⟨rfl,rfl⟩,rfl⟩
 ·rename_i f g A C
  rw [beq_iff_eq] at h; subst h
  exact ⟨rfl,#[],rfl,rfl,rfl⟩
 ·exact absurd h (by simp)
theorem N5 {x:Operand} {y:Od} (hC:ar P B G0 W0 n env a.tmps w ob) (h:aK x y=true):bL P w (Gd B G0 ob) B a.tmps env (fw y (ag env y)) (a.eval x) []∨(∃ v e T o xs,fw y (ag env y)=.own v e T o xs∧CQ ob y=[]∧xs=[]∧a.eval x=.slice none 0 0):=by
 have hr:=gr hC h
 cases y with
 | t k=>
   left
   simp only [ag,CQ] at hr ⊢
   have hx:a.eval x=a.tmps.getD k undef:=by
    unfold aK at h
    split at h<;>first | (rename_i k1 k2 _ hh; cases hh; rw [beq_iff_eq] at h; subst h; rfl) | skip
    all_goals first | (rename_i hh; cases hh; done) | (exact absurd h (by simp)) | skip
   cases he:look env k with
   | dead=>rw [he] at hr; exact rfl
   | cn=>rw [he] at hr; exact ⟨hr.1,rfl⟩
   | v T x=>rw [he] at hr; exact ⟨rfl,hr.2⟩
   | own wr e T o xs=>
     refine ⟨rfl,?_,?_⟩
     ·simp only [b7,he]; rw [hx]
     ·simp [bC,he]
   | loc T o x=>
     rw [he] at hr
     obtain ⟨b,cur,e,ob',h1,_⟩:=hr
     refine ⟨rfl,T,o,x,b,he,by rw [←hx]; exact h1,?_,?_⟩
     ·cases T<;>rfl
     ·rw [h1]; cases T<;>rfl
   | ref s p=>rw [he] at hr; exact ⟨rfl,hr.2⟩
   | ptr s p=>rw [he] at hr; exact ⟨rfl,hr.2⟩
   | dk s p i q=>rw [he] at hr; exact ⟨rfl,hr.2⟩
   | «at» T x=>rw [he] at hr; exact ⟨rfl,hr.2⟩
   | cP es=>exact rfl
   | it s pos=>exact rfl
   | sb t e s=>exact rfl
   | nw T o x=>rw [he] at hr; exact ⟨rfl,hr.2⟩
   | dY f A C caps=>rw [he] at hr; exact ⟨rfl,hr.2⟩
 | c T x=>left; exact hr
 | nil e T=>
   right
   refine ⟨true,e,T,.no,[],rfl,rfl,rfl,?_⟩
   unfold aK at h
   split at h<;>first | (rename_i hh; cases hh; exact rK h) | (rename_i hh; cases hh; done) | (exact absurd h (by simp)) | skip
 | fn f A C=>left; exact hr
def bU (P:Program) (B:Nat) (G0:Nat→Nat→Prop) (W0:dF) (n:Nat) (a:Act) {R:Type} (K:dn R) (r:R) (next:Act→World→Prop):Prop:=
 ∀ env' tm' w' ob',ar P B G0 W0 n env' tm' w' ob'→K env'=some r→next {a with tmps:=tm'} w'
theorem ahg (a:Act) (d:Option Tmp) (v:Value):({a with tmps:=(a.put d v).tmps}:Act)=a.put d v:=by cases d<;>rfl
theorem bK {o:Oper} {next:Act→World→Prop} {Q:Exit→Act→World→Prop} {v:Value} {w':World} (hrun:(execOp a.eval o).run P w=.ok (.value v) w') (h:next (a.put o.dst v) w'):o.wp P a w next Q:=by
 unfold Oper.wp; rw [hrun]; exact h
theorem aM9 {o:Oper} {next:Act→World→Prop} {Q:Exit→Act→World→Prop} {w':World} (hrun:(execOp a.eval o).run P w=.ok .skip w') (h:next (a.put o.dst undef) w'):o.wp P a w next Q:=by
 unfold Oper.wp; rw [hrun]; exact h
variable {R:Type} {K:dn R} {r:R} {next:Act→World→Prop}
theorem bN (hC:ar P B G0 W0 n env a.tmps w ob) (hK:bU P B G0 W0 n a K r next) {d:Option Nat} {e:E} {v:Value} {w':World} (hd:∀ k,d=some k→bH W0 n k) (hg:aY w w')
  (hr:bL P w (Gd B G0 ob) B a.tmps env e v []) (hk:K (aX env d e)=some r):next (a.put d v) w':=by
 obtain ⟨ob',h⟩:=ar.aX hC hd hg hr a rfl
 have:=hK _ _ _ _ h hk
 rwa [ahg] at this
theorem Pe (hC:ar P B G0 W0 n env a.tmps w ob) (hK:bU P B G0 W0 n a K r next) {d:Option Nat} {wr:Bool} {e:TypeId} {T:Ty} {o:aC} (hd:∀ k,d=some k→bH W0 n k)
  (hk:K (aX env d (.own wr e T o []))=some r):next (a.put d (.slice none 0 0)) w:=by
 cases d with
 | none=>
   have:=hK _ _ _ _ hC hk
   exact this
 | some k=>
   have h:=ar.oB (e:=.own wr e T o []) (v:=.slice none 0 0) (bk:=[]) hC (hd k rfl) (aY.refl w) ?_ (by simp) (by simp)
   ·have:=hK _ _ _ _ h hk
    exact this
   ·rw [if_neg (by simp [leads])]
    show Flat P (.sl T) w _ B (.own wr e o) [] [_] _
    unfold Flat
    exact ⟨_,[],[],rfl,vn (World.ownsRow_nil _ _ _ _),⟨rfl,rfl⟩,rfl⟩
theorem wC (hC:ar P B G0 W0 n env a.tmps w ob) (hK:bU P B G0 W0 n a K r next) {d:Option Nat} {x:Operand} {y:Od} (hx:aK x y=true) (hd:∀ k,d=some k→bH W0 n k)
  (hk:K (aX env d (fw y (ag env y)))=some r):next (a.put d (a.eval x)) w:=by
 rcases N5 hC hx with h | ⟨wr,e,T,o,xs,h1,_,rfl,h4⟩
 ·exact bN hC hK hd (aY.refl w) h hk
 ·rw [h1] at hk
  rw [h4]
  exact Pe hC hK hd hk
end
end Go.Fw
/- Soundness, part 6: what is held goes over; what is held is shared. -/
namespace Go.Fw
open Go Go.RowKit
section
variable {P:Program} {B:Nat} {G0:Nat→Nat→Prop} {W0:dF} {n:Nat} {env:Env} {tm:Array Value} {a:Act} {w:World} {ob:Nat→OB}
theorem qD {ob':Nat→OB} (h:∀ j b lim,(b,lim)∈ob' j→∃ j' lim',(b,lim')∈ob j'∧lim'≤lim) {b i:Nat} (hg:Gd B G0 ob b i):Gd B G0 ob' b i:=by
 rcases hg with hg | ⟨h1,h0,h2⟩
 ·exact .inl hg
 ·refine .inr ⟨h1,h0,fun j lim hj=>?_⟩
  obtain ⟨j',lim',h3,h4⟩:=h j b lim hj
  exact eK (h2 j' lim' h3) h4
def jA (ob:Nat→OB) (k d:Nat):Nat→OB:=fE (fE ob k []) d (ob k)
theorem H4 (k d:Nat):jA ob k d d=ob k:=gk _ _ _
theorem H5 {k d:Nat} (h:k≠d):jA ob k d k=[]:=by unfold jA; rw [fo _ _ h,gk]
theorem H6 {k d j:Nat} (h1:j≠k) (h2:j≠d):jA ob k d j=ob j:=by unfold jA; rw [fo _ _ h2,fo _ _ h1]
theorem C1 {k d:Nat} {j:Nat} {q:Nat×Nat} (h:q∈jA ob k d j):(j=d∧q∈ob k)∨(j≠d∧j≠k∧q∈ob j):=by
 by_cases hd:j=d
 ·subst hd; rw [H4] at h; exact .inl ⟨rfl,h⟩
 ·by_cases hk:j=k
  ·subst hk; rw [H5 hd] at h; exact absurd h (by simp)
  ·rw [H6 hk hd] at h; exact .inr ⟨hd,hk,h⟩
theorem aI {b:Nat} {l:OB}:b∈blocks l↔∃ lim,(b,lim)∈l:=by
 unfold blocks
 rw [ew]
 constructor
 ·rintro ⟨⟨x,y⟩,h,rfl⟩; exact ⟨y,h⟩
 ·rintro ⟨y,h⟩; exact ⟨(b,y),h,rfl⟩
theorem ahC (hC:ar P B G0 W0 n env tm w ob) {k d:Nat} (i j b:Nat) (hi:b∈blocks (jA ob k d i)) (hj:b∈blocks (jA ob k d j)):i=j:=by
 obtain ⟨l1,hi⟩:=aI.1 hi
 obtain ⟨l2,hj⟩:=aI.1 hj
 rcases C1 hi with ⟨e1,q1⟩ | ⟨h1,h2,q1⟩<;>rcases C1 hj with ⟨e2,q2⟩ | ⟨h3,h4,q2⟩
 ·rw [e1,e2]
 ·exact absurd (hC.dist _ _ b (aI.2 ⟨_,q2⟩) (aI.2 ⟨_,q1⟩)) h4
 ·exact absurd (hC.dist _ _ b (aI.2 ⟨_,q1⟩) (aI.2 ⟨_,q2⟩)) h2
 ·exact hC.dist _ _ b (aI.2 ⟨_,q1⟩) (aI.2 ⟨_,q2⟩)
theorem ahE (hC:ar P B G0 W0 n env tm w ob) {k d:Nat} (j:Nat):(blocks (jA ob k d j)).Nodup:=by
 by_cases hd:j=d
 ·subst hd; rw [H4]; exact hC.nodup k
 ·by_cases hk:j=k
  ·subst hk; rw [H5 hd]; simp
  ·rw [H6 hk hd]; exact hC.nodup j
theorem ahD (hC:ar P B G0 W0 n env tm w ob) {k d:Nat} (j b:Nat) (h:b∈blocks (jA ob k d j)):B≤b∧b < w.heap.size:=by
 obtain ⟨l,h⟩:=aI.1 h
 rcases C1 h with ⟨_,h⟩ | ⟨_,_,h⟩<;>exact hC.low _ b (aI.2 ⟨_,h⟩)
theorem ahF {k d:Nat} (j b:Nat) (h:b∈blocks (jA ob k d j)):∃ i,b∈blocks (ob i):=by
 obtain ⟨l,h⟩:=aI.1 h
 rcases C1 h with ⟨_,h⟩ | ⟨_,_,h⟩<;>exact ⟨_,aI.2 ⟨_,h⟩⟩
theorem H3 {k d b i:Nat} (h:Gd B G0 ob b i):Gd B G0 (jA ob k d) b i:=
 qD (fun j b lim hj=>by rcases C1 hj with ⟨_,h⟩ | ⟨_,_,h⟩<;>exact ⟨_,lim,h,b5 _⟩) h
theorem agN (env:Env) (d j:Nat):look (if (look env d).home=true then kill d env else env) j=if (look env d).home=true∧leads d (look env j)=true then .dead else look env j:=by
 by_cases h:(look env d).home=true
 ·simp only [h,if_true,true_and,HL]
 ·simp [h]
theorem awP {k d:Nat} {e:E} (h:e.home=true):jx k d e=e:=by
 cases e<;>first | rfl | (exfalso; simp [E.home] at h; done)
theorem awQ {k d:Nat} {e:E} (h:¬ leads k e=true):jx k d e=e:=by
 cases e with
 | ref s p=>simp only [leads] at h; simp only [jx]; rw [if_neg h]
 | dk s p i q=>simp only [leads] at h; simp only [jx]; rw [if_neg h]
 | dY f A C caps=>simp only [jx]; rw [if_neg h]
 | _=>rfl
theorem aiy (hC:ar P B G0 W0 n env tm w ob) {k d:Nat} (hkd:k≠d) (hd:bH W0 n d) {wr:Bool} {e:TypeId} {T:Ty} {o:aC} {xs:List (den T)} (hk:look env k=.own wr e T o xs):
  ar P B G0 W0 n ((d,.own wr e T o xs)::(k,.ref d [])::vb k d (if (look env d).home=true then kill d env else env)) (tm.setIfInBounds d (tm.getD k undef)) w (jA ob k d):=by
 have hdt:d < tm.size:=by rw [hC.size]; exact hd.1
 have hrk:=hC.rep k
 rw [hk] at hrk
 have hlook:∀ j,look ((d,E.own wr e T o xs)::(k,.ref d [])::vb k d (if (look env d).home=true then kill d env else env)) j=
   if d=j then .own wr e T o xs else if k=j then .ref d [] else jx k d (if (look env d).home=true∧leads d (look env j)=true then .dead else look env j):=by
  intro j
  rw [bm,bm,avJ,agN]
 refine ar.step hC (.less (aY.refl _) fun j b=>ahF j b) (Below.refl _ _) (fun b i _ h=>⟨H3 h,rfl⟩) (fun j=>?_) (fun i j b=>ahC hC i j b) (fun j=>ahE hC j) (fun j b=>ahD hC j b) (by rw [sZ]; exact hC.size) (fun _ h=>hd.ae h _ _)
 by_cases hjd:j=d
 ·subst hjd
  right
  rw [hlook,if_pos rfl,oe _ _ _ hdt,H4]
  exact Flat.mono P (.sl T) (fun b i _ h=>⟨H3 h,rfl⟩) (b8.refl _ _) (fun _ _=>rfl) hrk
 ·by_cases hjk:j=k
  ·subst hjk
   right
   rw [hlook,if_neg (b9 hjd),if_pos rfl,hJ _ _ hjd,H5 hkd]
   refine ⟨rfl,?_,?_⟩
   ·simp only [b7]; rw [hlook,if_pos rfl]; simp only; rw [oe _ _ _ hdt]
   ·simp only [bC]; rw [hlook,if_pos rfl]; rfl
  ·rw [hlook,if_neg (b9 hjd),if_neg (b9 hjk),hJ _ _ hjd,H6 hjk hjd]
   by_cases hkill:(look env d).home=true∧leads d (look env j)=true
   ·right
    rw [if_pos hkill]
    exact (bL.leads hkill.2 (hC.rep j)).2
   ·rw [if_neg hkill]
    by_cases hl:leads k (look env j)=true
    ·right
     have hrj:=hC.rep j
     cases hej:look env j with
     | ref s p=>
       rw [hej] at hl hrj
       simp only [leads,beq_iff_eq] at hl; subst hl
       obtain ⟨h0,h1,h2⟩:=hrj
       simp only [b7,hk] at h1
       cases p with
       | cons=>exact absurd h1 (by simp)
       | nil=>
         simp only [az] at h1
         simp only [jx,beq_self_eq_true,if_true]
         refine ⟨h0,?_,?_⟩
         ·simp only [b7]; rw [hlook,if_pos rfl]; simp only; rw [oe _ _ _ hdt,h1]
         ·simp only [bC]; rw [hlook,if_pos rfl]; rfl
     | dk s p i q=>
       rw [hej] at hl hrj
       simp only [leads,beq_iff_eq] at hl; subst hl
       obtain ⟨h0,hh,g,m,c,h1,h2,h3,h4,h5⟩:=hrj
       simp only [b7,hk] at h2
       simp only [bC,hk] at h1
       cases p with
       | cons=>exact absurd h2 (by simp)
       | nil=>
         simp only [az] at h1 h2
         simp only [jx,beq_self_eq_true,if_true]
         refine ⟨h0,hh,g,m,c,?_,?_,h3,h4,h5⟩
         ·simp only [bC]; rw [hlook,if_pos rfl]; simp only; rw [h1]
         ·simp only [b7]; rw [hlook,if_pos rfl]; simp only; rw [oe _ _ _ hdt,h2]
     | dY f A C caps=>
       rw [hej] at hl hrj
       simp only [jx,hl,if_true]
       exact hrj.1
     | ptr s p=>
       rw [hej] at hl hrj
       simp only [leads,beq_iff_eq] at hl; subst hl
       obtain ⟨_,_,_,_,_,h1,_⟩:=hrj
       rw [hk] at h1; exact absurd h1 (by simp)
     | _=>rw [hej] at hl; exact absurd hl (by simp [leads])
    ·left
     have hmv:jx k d (look env j)=look env j:=awQ hl
     rw [hmv]
     refine ⟨rfl,rfl,rfl,fun _ _=>rfl,fun s hs=>?_⟩
     have hsh:=bL.leads hs (hC.rep j)
     have hsk:s≠k:=by rintro rfl; exact hl hs
     have hsd:s≠d:=by rintro rfl; exact hkill ⟨hsh.1,hs⟩
     refine fp.same (P:=P) ?_ (hJ _ _ hsd) (hC.rep s) (fun _ _=>rfl)
     rw [hlook,if_neg (b9 hsd),if_neg (b9 hsk),sI hsh.1]
     simp only [bA,and_false,if_false]
     exact awP hsh.1
theorem awO (hC:ar P B G0 W0 n env tm w ob) {k d:Nat} (hkd:k≠d) (hd:bH W0 n d) {es:List E} (hk:look env k=.cP es):
  ar P B G0 W0 n ((d,.cP es)::(k,.dead)::(if (look env d).home=true then kill d env else env)) (tm.setIfInBounds d (tm.getD k undef)) w (jA ob k d):=by
 have hdt:d < tm.size:=by rw [hC.size]; exact hd.1
 have hrk:=hC.rep k
 rw [hk] at hrk
 have hlook:∀ j,look ((d,E.cP es)::(k,.dead)::(if (look env d).home=true then kill d env else env)) j=
   if d=j then .cP es else if k=j then .dead else (if (look env d).home=true∧leads d (look env j)=true then .dead else look env j):=by
  intro j
  rw [bm,bm,agN]
 refine ar.step hC (.less (aY.refl _) fun j b=>ahF j b) (Below.refl _ _) (fun b i _ h=>⟨H3 h,rfl⟩) (fun j=>?_) (fun i j b=>ahC hC i j b) (fun j=>ahE hC j) (fun j b=>ahD hC j b) (by rw [sZ]; exact hC.size) (fun _ h=>hd.ae h _ _)
 by_cases hjd:j=d
 ·subst hjd
  right
  rw [hlook,if_pos rfl,oe _ _ _ hdt,H4]
  exact bL.ae (e:=.cP es) (fun b i _ h=>⟨H3 h,rfl⟩) (b8.refl _ _) (fun _ _=>rfl) (fun s hs=>by simp [leads] at hs) hrk
 ·by_cases hjk:j=k
  ·subst hjk
   right
   rw [hlook,if_neg (b9 hjd),if_pos rfl,H5 hkd]
   exact rfl
  ·rw [hlook,if_neg (b9 hjd),if_neg (b9 hjk),hJ _ _ hjd,H6 hjk hjd]
   by_cases hkill:(look env d).home=true∧leads d (look env j)=true
   ·right
    rw [if_pos hkill]
    exact (bL.leads hkill.2 (hC.rep j)).2
   ·rw [if_neg hkill]
    left
    refine ⟨rfl,rfl,rfl,fun _ _=>rfl,fun s hs=>?_⟩
    have hsh:=bL.leads hs (hC.rep j)
    have hsk:s≠k:=by rintro rfl; rw [hk] at hsh; exact absurd hsh.1 (by simp [E.home])
    have hsd:s≠d:=by rintro rfl; exact hkill ⟨hsh.1,hs⟩
    refine fp.same (P:=P) ?_ (hJ _ _ hsd) (hC.rep s) (fun _ _=>rfl)
    rw [hlook,if_neg (b9 hsd),if_neg (b9 hsk),sI hsh.1]
    simp
variable {R:Type} {K:dn R} {r:R} {next:Act→World→Prop}
theorem lA {x:Operand} {k:Nat} (h:aK x (.t k)=true) (a:Act):a.eval x=a.tmps.getD k undef:=by
 unfold aK at h
 split at h<;>first | (rename_i k1 k2 _ hh; cases hh; rw [beq_iff_eq] at h; subst h; rfl) | (rename_i hh; cases hh; done) | (exact absurd h (by simp))
theorem ahB (tm:Array Value) (k:Nat):tm.setIfInBounds k (tm.getD k undef)=tm:=by
 apply Array.ext
 ·simp
 ·intro i h1 h2
  rw [Array.getElem_setIfInBounds]
  split
  ·rename_i h; subst h; simp [Array.getD,h2]
  ·rfl
theorem aju (hC:ar P B G0 W0 n env a.tmps w ob) (hK:bU P B G0 W0 n a K r next) {d:Option Nat} {x:Operand} {y:Od} (hx:aK x y=true) (hd:∀ k,d=some k→bH W0 n k)
  (hk:K (qi env d y)=some r):next (a.put d (a.eval x)) w:=by
 unfold qi at hk
 split at hk
 ·rename_i es he
  split at hk
  ·rename_i k d'
   simp only [ag] at he
   have hev:=lA hx a
   by_cases hkd:k=d'
   ·subst hkd
    rw [if_pos (by simp)] at hk
    have:=hK _ _ _ _ hC hk
    rw [hev]
    simpa only [Act.put,ahB] using this
   ·rw [if_neg (by simpa using hkd)] at hk
    have:=hK _ _ _ _ (awO hC hkd (hd d' rfl) he) hk
    rw [hev]
    exact this
  ·exact bN hC hK hd (aY.refl w) (e:=.dead) rfl hk
 ·exact wC hC hK hx hd hk
theorem ajt (hC:ar P B G0 W0 n env a.tmps w ob) (hK:bU P B G0 W0 n a K r next) {d:Nat} {x:Operand} {y:Od} (hx:aK x y=true) (hd:bH W0 n d)
  (hk:K (assign env d y)=some r):next (a.put (some d) (a.eval x)) w:=by
 unfold assign at hk
 split at hk
 ·rename_i wr e T o xs he
  split at hk
  ·rename_i k
   simp only [ag] at he
   have hev:=lA hx a
   by_cases hkd:k=d
   ·subst hkd
    rw [if_pos (by simp)] at hk
    have:=hK _ _ _ _ hC hk
    rw [hev]
    simpa only [Act.put,ahB] using this
   ·rw [if_neg (by simpa using hkd)] at hk
    have:=hK _ _ _ _ (aiy hC hkd hd he) hk
    rw [hev]
    exact this
  ·rename_i hnt
   cases y with
   | t k=>exact absurd rfl (hnt k)
   | c T x=>simp [ag] at he
   | fn f A C=>simp [ag] at he
   | nil e' T'=>
     have hr:=N5 hC hx
     rcases hr with h | ⟨wr',e2,T2,o2,xs2,h1,_,h3,h4⟩
     ·have:fw (.nil e' T') (ag env (.nil e' T'))=.own true e' T' .no []:=rfl
      simp only [ag] at he
      cases he
      have hr2:=gr hC hx
      have hv:a.eval x=.slice none 0 0:=by
       unfold aK at hx
       split at hx<;>first | (rename_i hh; cases hh; exact rK hx) | (rename_i hh; cases hh; done) | (exact absurd hx (by simp))
      rw [hv]
      exact Pe hC hK (d:=some d) (fun k hk=>by cases hk; exact hd) hk
     ·simp only [ag] at he
      cases he
      rw [h4]
      exact Pe hC hK (d:=some d) (fun k hk=>by cases hk; exact hd) hk
 ·refine wC hC hK (d:=some d) hx (fun k hk=>by cases hk; exact hd) hk
end
end Go.Fw
/- Soundness, part 7: what is held, shown as nobody's own. -/
namespace Go.Fw
open Go Go.RowKit
section
variable {P:Program} {B:Nat} {G0:Nat→Nat→Prop} {W0:dF} {n:Nat} {env:Env} {tm:Array Value} {a:Act} {w:World} {ob:Nat→OB}
theorem Pj (o:aC):o.bJ.l=o.l.bJ:=by cases o<;>rfl
theorem Pk (o:aC):o.bJ.r=o.r.bJ:=by cases o<;>rfl
theorem wF {o:aC}:o.bJ.pure=o.pure:=by
 induction o with
 | no=>rfl
 | hole=>rfl
 | own=>rfl
 | pair a b iha ihb=>simp [aC.bJ,aC.pure,iha,ihb]
theorem aez {o:aC}:o.bJ.whole=o.whole:=by
 induction o with
 | no=>rfl
 | hole=>rfl
 | own wr e o ih=>simp [aC.bJ,aC.whole,ih]
 | pair a b iha ihb=>simp [aC.bJ,aC.whole,iha,ihb]
theorem oP:∀ (p:Path) (o:aC),ct o.bJ p=(ct o p).bJ
 | [],_=>rfl
 | .l::p,o=>by simp only [ct,Pj]; exact oP p o.l
 | .r::p,o=>by simp only [ct,Pk]; exact oP p o.r
 | .ix _::_,_=>rfl
def dx (ob2 ob:OB):Prop:=blocks ob2=blocks ob∧∀ b lim,(b,lim)∈ob2→∃ lim',(b,lim')∈ob∧lim'≤lim
theorem dx.refl (ob:OB):dx ob ob:=⟨rfl,fun b lim h=>⟨lim,h,b5 _⟩⟩
theorem dx.append {a b c d:OB} (h:dx a c) (k:dx b d):dx (a++b) (c++d):=by
 refine ⟨by rw [eZ,eZ,h.1,k.1],fun x lim hx=>?_⟩
 rcases eu.1 hx with hx | hx
 ·obtain ⟨l,h1,h2⟩:=h.2 x lim hx; exact ⟨l,gJ _ h1,h2⟩
 ·obtain ⟨l,h1,h2⟩:=k.2 x lim hx; exact ⟨l,iq _ h1,h2⟩
theorem dx.cf (v:Value) {l l':Nat} (h:l≤l'):dx (cf v l') (cf v l):=by
 unfold Fw.cf
 cases v.ownBlock with
 | none=>exact dx.refl _
 | some g=>exact ⟨rfl,fun b lim hb=>by simp at hb; exact ⟨l,by simp [hb.1],by omega⟩⟩
theorem Flat.bJ (P:Program):∀ (T:Ty) {w:World} {G:Nat→Nat→Prop} {B:Nat} {o:aC} {x:den T} {vs:List Value} {ob:OB},Flat P T w G B o x vs ob→∃ ob2,Flat P T w G B o.bJ x vs ob2∧dx ob2 ob
 | .int k,_,_,_,_,_,_,_,h=>⟨_,by unfold Flat at h ⊢; exact h,dx.refl _⟩
 | .bool,_,_,_,_,_,_,_,h=>⟨_,by unfold Flat at h ⊢; exact h,dx.refl _⟩
 | .str,_,_,_,_,_,_,_,h=>⟨_,by unfold Flat at h ⊢; exact h,dx.refl _⟩
 | .unit,_,_,_,_,_,_,_,h=>⟨_,by unfold Flat at h ⊢; exact h,dx.refl _⟩
 | .pair A C,_,_,_,_,_,_,_,h=>by
   unfold Flat at h
   obtain ⟨v1,v2,b1,b2,rfl,rfl,h1,h2⟩:=h
   obtain ⟨c1,k1,l1⟩:=Flat.bJ P A h1
   obtain ⟨c2,k2,l2⟩:=Flat.bJ P C h2
   exact ⟨c1++c2,by unfold Flat; exact ⟨v1,v2,c1,c2,rfl,rfl,by rw [Pj]; exact k1,by rw [Pk]; exact k2⟩,dx.append l1 l2⟩
 | .arr n T,_,_,_,_,_,_,_,h=>⟨_,by unfold Flat at h ⊢; exact h,dx.refl _⟩
 | .fn A C,_,_,_,_,_,_,_,h=>⟨_,by unfold Flat at h ⊢; exact h,dx.refl _⟩
 | .sl T,w,G,B,o,xs,vs,ob,h=>by
   cases o with
   | no=>exact ⟨_,h,dx.refl _⟩
   | hole=>exact ⟨_,h,dx.refl _⟩
   | pair a b=>exact ⟨_,by unfold Flat at h; simp only [aC.bJ]; unfold Flat; exact h,dx.refl _⟩
   | own wr e o=>
     unfold Flat at h
     obtain ⟨v,cells,ob',rfl,h2,h3,rfl⟩:=h
     have key:∀ {xs:List (den T)} {vs:List Value} {ob:OB},aU (Flat P T w G B o) xs vs ob→∃ ob2,aU (Flat P T w G B o.bJ) xs vs ob2∧dx ob2 ob:=by
      intro xs
      induction xs with
      | nil=>rintro vs ob ⟨rfl,rfl⟩; exact ⟨[],⟨rfl,rfl⟩,dx.refl _⟩
      | cons x xs ih=>
        rintro vs ob ⟨u1,u2,c1,c2,rfl,rfl,hr,ht⟩
        obtain ⟨d1,k1,l1⟩:=Flat.bJ P T hr
        obtain ⟨d2,k2,l2⟩:=ih ht
        exact ⟨d1++d2,⟨u1,u2,d1,d2,rfl,rfl,k1,k2⟩,dx.append l1 l2⟩
     obtain ⟨d,k,l⟩:=key h3
     refine ⟨cf v (if false=true then 0 else xs.length * aA T)++d,?_,dx.append (dx.cf v (by split<;>simp)) l⟩
     simp only [aC.bJ]
     unfold Flat
     exact ⟨v,cells,d,rfl,h2,k,rfl⟩
theorem sO {T:Ty} {G G':Nat→Nat→Prop} {wr:Bool} {e:TypeId} {o:aC} {xs:List (den T)} {v:Value} {b:OB} (h:Flat P (.sl T) w G B (.own wr e o) xs [v] b) (ho:o.pure=true)
  (hG:∀ b i,b < w.heap.size→G b i→G' b i) (hgood:∀ g i,v.ownBlock=some g→B≤g→i < xs.length * aA T→G' g i):Flat P (.sl T) w G' B .no xs [v] []:=by
 unfold Flat at h
 obtain ⟨v',cells,ob',h1,h2,h3,rfl⟩:=h
 simp only [iZ,and_true] at h1
 subst h1
 obtain ⟨_,h4⟩:=aU.pure P (o':=.no) ho rfl h3
 unfold Flat
 refine ⟨rfl,?_⟩
 have h2':=h2
 rcases h2.2 with ⟨rfl,hn⟩ | ⟨g,cap,cur,e',fz,rfl,hBg,hg,hnc,hcm,hcs,htake,_,_⟩
 ·refine ⟨none,0,by rw [hn],by omega,by unfold maxLen; omega,.inl (l7 hn)⟩
 ·refine ⟨some ⟨g,0,none⟩,cap,rfl,hnc,hcm,.inr ⟨g,0,cells,rfl,aU.imp (fun x v b hb hx=>Flat.mono P T (fun b i hb h=>⟨hG b i hb h,rfl⟩) (b8.refl _ _) (fun _ _=>rfl) hx) h4,fun j u hj=>?_⟩⟩
  have hc:=h2'.cells (g:=g) rfl j u hj
  rw [mc] at hc
  refine ⟨hc,hgood g (0+j) rfl hBg ?_⟩
  have:=(lH.1 hj).1
  rw [h2.1] at this; omega
theorem awS {l:OB} (h:(blocks l).Nodup) {b x y:Nat} (hx:(b,x)∈l) (hy:(b,y)∈l):x=y:=by
 induction l with
 | nil=>exact absurd hx (by simp)
 | cons q r ih=>
   rw [mf,List.nodup_cons] at h
   rcases dG.1 hx with e1 | hx'<;>rcases dG.1 hy with e2 | hy'
   ·rw [←e1] at e2; exact (Prod.mk.inj e2).2.symm
   ·exact absurd (aI.2 ⟨y,hy'⟩) (by rw [←e1] at h; exact h.1)
   ·exact absurd (aI.2 ⟨x,hx'⟩) (by rw [←e2] at h; exact h.1)
   ·exact ih h.2 hx' hy'
theorem vE (hC:ar P B G0 W0 n env tm w ob) {s g lim:Nat} (h:(g,lim)∈ob s) {i:Nat} (hi:i < lim) (hB:B≤g):Gd B G0 ob g i:=by
 refine .inr ⟨hB,hC.free _ _ hB (hC.prot s g (aI.2 ⟨_,h⟩)),fun k lim' hk=>?_⟩
 have:=hC.dist s k g (aI.2 ⟨_,h⟩) (aI.2 ⟨_,hk⟩)
 subst this
 rw [←awS (hC.nodup s) h hk]; exact hi
theorem aey (hC:ar P B G0 W0 n env tm w ob) {s:Nat} {wr:Bool} {e:TypeId} {T:Ty} {o:aC} {xs:List (den T)} (hs:look env s=.own wr e T o xs):
  ∃ bs,dx bs (ob s)∧ar P B G0 W0 n ((s,.own false e T o.bJ xs)::env) tm w (fE ob s bs):=by
 have hr:=hC.rep s
 rw [hs] at hr
 obtain ⟨bs,h1,h2⟩:=Flat.bJ P (.sl T) (o:=.own wr e o) hr
 refine ⟨bs,h2,ar.relabel hC h2.1 h2.2 ?_ ?_⟩
 ·refine ⟨fun p v _ hv=>?_,fun p h hh=>?_,fun T' o' x' hx=>?_⟩
  ·simp only [b7,hs] at hv
   simp only [b7]; rw [bm,if_pos rfl]; exact hv
  ·simp only [bC,hs] at hh
   simp only [bC]; rw [bm,if_pos rfl]
   cases p with
   | nil=>simp only [az] at hh; subst hh; exact ⟨_,rfl,rfl,rfl⟩
   | cons=>exact absurd hh (by simp)
  ·rw [hs] at hx; exact absurd hx (by simp)
 ·refine Flat.mono P (.sl T) (fun b i _ h=>⟨?_,rfl⟩) (b8.refl _ _) (fun _ _=>rfl) h1
  refine qD (fun j b lim hj=>?_) h
  by_cases hjs:j=s
  ·subst hjs; rw [gk] at hj; obtain ⟨l,h3,h4⟩:=h2.2 b lim hj; exact ⟨j,l,h3,h4⟩
  ·rw [fo _ _ hjs] at hj; exact ⟨j,lim,hj,b5 _⟩
theorem Rc {T:Ty} {o:aC} {x:den T} {env:Env} {s:Nat} (hs:look env s=.loc T o x) (p:Path) {h:jX} (hh:bC env s p=some h):
  bC ((s,.loc T o.bJ x)::env) s p=some ⟨false,h.e,h.T,h.o.bJ,h.xs⟩:=by
 simp only [bC,hs] at hh
 simp only [bC]; rw [bm,if_pos rfl]
 simp only [oP]
 split at hh
 ·rename_i wr e o' T' xs he hg
  simp only [az] at hh
  subst hh
  rw [he,hg]; rfl
 ·exact absurd hh (by simp)
theorem ajx (hC:ar P B G0 W0 n env tm w ob) {s:Nat} {T:Ty} {o:aC} {x:den T} (hs:look env s=.loc T o x):
  ∃ bs,dx bs (ob s)∧ar P B G0 W0 n ((s,.loc T o.bJ x)::env) tm w (fE ob s bs):=by
 have hr:=hC.rep s
 rw [hs] at hr
 obtain ⟨b,cur,e,ob',h1,h2,h3,h4,h5⟩:=hr
 obtain ⟨bs,h6,h7⟩:=Flat.bJ P T h4
 have hL:dx ((b,0)::bs) (ob s):=by rw [h5]; exact dx.append (dx.refl [(b,0)]) h7
 refine ⟨(b,0)::bs,hL,ar.relabel hC hL.1 hL.2 ?_ ?_⟩
 ·refine ⟨fun p v _ hv=>?_,fun p h hh=>⟨_,Rc hs p hh,rfl,rfl⟩,fun T' o' x' hx=>?_⟩
  ·simp only [b7,hs] at hv
   simp only [b7]; rw [bm,if_pos rfl]; exact hv
  ·rw [hs] at hx
   cases hx
   exact ⟨_,_,by rw [bm,if_pos rfl],rfl⟩
 ·refine ⟨b,cur,e,bs,h1,h2,h3,Flat.mono P T (fun b i _ h=>⟨?_,rfl⟩) (b8.refl _ _) (fun _ _=>rfl) h6,rfl⟩
  refine qD (fun j b lim hj=>?_) h
  by_cases hjs:j=s
  ·subst hjs; rw [gk] at hj; obtain ⟨l,h8,h9⟩:=hL.2 b lim hj; exact ⟨j,l,h8,h9⟩
  ·rw [fo _ _ hjs] at hj; exact ⟨j,lim,hj,b5 _⟩
structure eX (ob ob':Nat→OB):Prop where
 less:∀ j,dx (ob' j) (ob j)
theorem eX.refl (ob:Nat→OB):eX ob ob:=⟨fun _=>dx.refl _⟩
theorem eX.upd {s:Nat} {bs:OB} (h:dx bs (ob s)):eX ob (fE ob s bs):=⟨fun j=>by
 by_cases hj:j=s
 ·subst hj; rw [gk]; exact h
 ·rw [fo _ _ hj]; exact dx.refl _⟩
theorem eX.Gd {ob':Nat→OB} (h:eX ob ob') {b i:Nat} (hg:Gd B G0 ob b i):Fw.Gd B G0 ob' b i:=
 qD (fun j b lim hj=>by obtain ⟨l,h1,h2⟩:=(h.less j).2 b lim hj; exact ⟨j,l,h1,h2⟩) hg
theorem He (hC:ar P B G0 W0 n env tm w ob) (s:Nat):∃ ob',eX ob ob'∧ar P B G0 W0 n (freeze env s) tm w ob':=by
 unfold freeze
 split
 ·rename_i hs; obtain ⟨bs,h1,h2⟩:=aey hC hs; exact ⟨_,eX.upd h1,h2⟩
 ·rename_i hs; obtain ⟨bs,h1,h2⟩:=ajx hC hs; exact ⟨_,eX.upd h1,h2⟩
 ·exact ⟨ob,eX.refl _,hC⟩
theorem HB (hC:ar P B G0 W0 n env tm w ob) {s:Nat} {p:Path} {h:jX} {v:Value} {G':Nat→Nat→Prop} (hh:bC env s p=some h) (hv:b7 w tm env s p=some v) (ho:h.o.pure=true)
  (hG:∀ b i,b < w.heap.size→Gd B G0 ob b i→G' b i) (hw:h.wr=false∨∀ b i,G' b i):Flat P (.sl h.T) w G' B .no h.xs [v] []:=by
 have hr:=hC.rep s
 simp only [bC] at hh
 simp only [b7] at hv
 have good:∀ {wr e} {T:Ty} {o:aC} {xs:List (den T)} {v:Value} {b:OB},(wr=false∨∀ b i,G' b i)→Flat P (.sl T) w (Gd B G0 ob) B (.own wr e o) xs [v] b→(∀ q∈b,q∈ob s)→∀ g i,v.ownBlock=some g→B≤g→i < xs.length * aA T→G' g i:=by
  intro wr e T o xs v b hw hF hsub g i hg hB hi
  rcases hw with hw | hw
  ·subst hw
   have hF':=hF
   unfold Flat at hF
   obtain ⟨v',cells,ob',e1,h2,h3,rfl⟩:=hF
   simp only [iZ,and_true] at e1
   subst e1
   have hrec:(g,xs.length * aA T)∈ob s:=hsub _ (gJ _ (by simp [cf,hg]))
   exact hG g i (hC.low s g (aI.2 ⟨_,hrec⟩)).2 (vE hC hrec hi hB)
  ·exact hw g i
 split at hh
 ·rename_i wr e T o xs hs
  rw [hs] at hr hv
  split at hh
  ·simp only [az] at hh
   subst hh
   simp only [az] at hv
   subst hv
   exact sO hr ho hG (good hw hr (fun q hq=>hq))
  ·exact absurd hh (by simp)
 ·rename_i T o x hs
  rw [hs] at hr hv
  obtain ⟨b,cur,e,ob',h1,h2,h3,h4,h5⟩:=hr
  split at hh
  ·rename_i wr e' o' T' xs he hg
   simp only [az] at hh
   subst hh
   obtain ⟨v1,v2,v3,b1,b2,b3,hvs,hob,hl,hF,_⟩:=Flat.lens P p T h4 hg
   rw [he] at hF
   have hv2:v2.length=1:=Flat.len P (.sl T') hF
   obtain ⟨u,rfl⟩:=s5.1 hv2
   have hcell:w.cell? ⟨b,bu T p,none⟩=some u:=by
    rw [cell_of_row w b _ cur e (0,0) h3,←qB,hvs,←hl]
    simp
   simp only [h1] at hv
   rw [hcell] at hv
   simp only [az] at hv
   subst hv
   exact sO hF ho hG (good hw hF (fun q hq=>by rw [h5,hob]; simp [hq]))
  ·exact absurd hh (by simp)
 ·exact absurd hh (by simp)
theorem Dz (T:Ty) (v:Value):ck (.sl T) [v]=v:=rfl
theorem sD {x:Operand} {y:Od} (hC:ar P B G0 W0 n env a.tmps w ob) (hx:aK x y=true) {z:TV} (hi:dT env (ag env y)=some z):
  ∃ vs,a.eval x=ck z.1 vs∧Flat P z.1 w (fun _ _=>True) B .no z.2 vs []:=by
 have hr:=gr hC hx
 unfold dT at hi
 split at hi
 ·rename_i T x he
  simp only [az] at hi; subst hi
  rw [he] at hr
  obtain ⟨_,vs,h1,h2⟩:=hr
  exact ⟨vs,h2,Flat.mono P T (fun _ _ _ _=>⟨trivial,rfl⟩) (b8.refl _ _) (by simp) h1⟩
 ·rename_i wr e T o xs he
  split at hi
  ·rename_i ho
   simp only [az] at hi; subst hi
   rw [he] at hr
   exact ⟨[a.eval x],rfl,sO hr ho (fun _ _ _ _=>trivial) (fun _ _ _ _ _=>trivial)⟩
  ·exact absurd hi (by simp)
 ·rename_i s p he
  rw [he] at hr
  obtain ⟨_,h1,_⟩:=hr
  simp only [av] at hi
  obtain ⟨h,hh,hi⟩:=hi
  split at hi
  ·rename_i ho
   simp only [az] at hi; subst hi
   exact ⟨[a.eval x],rfl,HB hC hh h1 ho (fun _ _ _ _=>trivial) (.inr fun _ _=>trivial)⟩
  ·exact absurd hi (by simp)
 ·exact absurd hi (by simp)
theorem avG (env:Env) (s:Nat):(look (freeze env s) s=look env s)∨(∃ wr e T o xs,look env s=.own wr e T o xs∧look (freeze env s) s=.own false e T o.bJ xs)∨(∃ T o x,look env s=.loc T o x∧look (freeze env s) s=.loc T o.bJ x):=by
 unfold freeze
 split
 ·rename_i hs; exact .inr (.inl ⟨_,_,_,_,_,hs,by rw [bm,if_pos rfl]⟩)
 ·rename_i hs; exact .inr (.inr ⟨_,_,_,hs,by rw [bm,if_pos rfl]⟩)
 ·exact .inl rfl
theorem afO {env:Env} {s:Nat} {p:Path} {h:jX} (hh:bC env s p=some h):bC (freeze env s) s p=some ⟨false,h.e,h.T,h.o.bJ,h.xs⟩:=by
 unfold freeze
 cases hs:look env s with
 | own wr e T o xs=>
   simp only [bC,hs] at hh
   simp only [bC]; rw [bm,if_pos rfl]
   cases p with
   | nil=>simp only [az] at hh; subst hh; rfl
   | cons=>exact absurd hh (by simp)
 | loc T o x=>exact Rc hs p hh
 | _=>simp [bC,hs] at hh
theorem afN (w:World) (tm:Array Value) (env:Env) (s:Nat) (p:Path):b7 w tm (freeze env s) s p=b7 w tm env s p:=by
 unfold freeze
 cases hs:look env s<;>simp only [b7,bm,if_true,hs]
theorem nn {x:Operand} {y:Od} (hC:ar P B G0 W0 n env a.tmps w ob) (hx:aK x y=true) {env':Env} {z:TV} (hi:ea env y=some (env',z)):
  ∃ ob',eX ob ob'∧ar P B G0 W0 n env' a.tmps w ob'∧∃ vs,a.eval x=ck z.1 vs∧Flat P z.1 w (Gd B G0 ob') B .no z.2 vs []:=by
 have hr:=gr hC hx
 unfold ea at hi
 simp only [av,az,eL] at hi
 obtain ⟨z',hi,henv,rfl⟩:=hi
 unfold dT at hi
 split at hi
 ·rename_i T x he
  simp only [az] at hi; subst hi
  rw [he] at hr henv
  simp only [fx] at henv; subst henv
  obtain ⟨_,vs,h1,h2⟩:=hr
  exact ⟨ob,eX.refl _,hC,vs,h2,h1⟩
 ·rename_i wr e T o xs he
  split at hi
  ·rename_i ho
   simp only [az] at hi; subst hi
   rw [he] at hr henv
   cases y with
   | t k=>
     simp only [fx] at henv; subst henv
     simp only [ag] at he
     obtain ⟨ob',hf,hC'⟩:=He hC k
     refine ⟨ob',hf,hC',[a.eval x],rfl,?_⟩
     have hh:bC env k []=some ⟨wr,e,T,o,xs⟩:=by simp [bC,he]
     have:=HB (G':=Gd B G0 ob') hC' (afO hh) (v:=a.tmps.getD k undef) (by rw [afN]; simp [b7,he]) (by simpa only [wF] using ho) (fun _ _ _ h=>h) (.inl rfl)
     rw [lA hx a]
     exact this
   | nil e' T'=>
     simp only [fx] at henv; subst henv
     simp only [ag] at he; cases he
     exact ⟨ob,eX.refl _,hC,[a.eval x],rfl,sO hr ho (fun _ _ _ h=>h) (fun g i hg _ hi=>absurd hi (by simp))⟩
   | c T x=>simp [ag] at he
   | fn f A C=>simp [ag] at he
  ·exact absurd hi (by simp)
 ·rename_i s p he
  rw [he] at hr henv
  simp only [fx] at henv; subst henv
  obtain ⟨_,h1,_⟩:=hr
  simp only [av] at hi
  obtain ⟨h,hh,hi⟩:=hi
  split at hi
  ·rename_i ho
   simp only [az] at hi; subst hi
   obtain ⟨ob',hf,hC'⟩:=He hC s
   exact ⟨ob',hf,hC',[a.eval x],rfl,HB (h:=⟨false,h.e,h.T,h.o.bJ,h.xs⟩) (G':=Gd B G0 ob') hC' (afO hh) (by rw [afN]; exact h1) (by simpa only [wF] using ho) (fun _ _ _ h=>h) (.inl rfl)⟩
  ·exact absurd hi (by simp)
 ·exact absurd hi (by simp)
end
end Go.Fw
/- Soundness, part 8: operations without calls, first part. -/
namespace Go.Fw
open Go Go.RowKit
def aNe:Nat:=40
section
variable {ks:IntKind} {P:Program} {B:Nat} {G0:Nat→Nat→Prop} {W0:dF} {n:Nat} {env:Env} {a:Act} {w:World} {ob:Nat→OB}
theorem I3 {x:Operand} {y:Od} {b:Bool} (hC:ar P B G0 W0 n env a.tmps w ob) (hx:aK x y=true) (h:aD (ag env y)=some b):a.eval x=.bool b:=by
 have hr:=gr hC hx
 unfold aD at h
 split at h
 ·rename_i b' he
  simp only [az] at h; subst h
  rw [he] at hr
  obtain ⟨_,vs,h1,h2⟩:=hr
  unfold Flat at h1
  rw [h2,h1.1]; rfl
 ·exact absurd h (by simp)
theorem mY {x:Operand} {y:Od} {k:IntKind} {m:Int} (hC:ar P B G0 W0 n env a.tmps w ob) (hx:aK x y=true) (he:ag env y=.v (.int k) m):a.eval x=.int k m∧gP k m:=by
 have hr:=gr hC hx
 rw [he] at hr
 obtain ⟨_,vs,h1,h2⟩:=hr
 unfold Flat at h1
 rw [h2,h1.1]; exact ⟨rfl,h1.2.1⟩
theorem uw {x:Operand} {y:Od} {q:IntKind×Int} (hC:ar P B G0 W0 n env a.tmps w ob) (hx:aK x y=true) (h:lq (ag env y)=some q):a.eval x=.int q.1 q.2∧gP q.1 q.2:=by
 unfold lq at h
 split at h
 ·rename_i k m he
  simp only [az] at h; subst h
  exact mY hC hx he
 ·exact absurd h (by simp)
theorem Sg {x:Operand} {y:Od} {s:List UInt8} (hC:ar P B G0 W0 n env a.tmps w ob) (hx:aK x y=true) (he:ag env y=.v .str s):a.eval x=.string ⟨⟨s⟩⟩∧s.length≤maxLen:=by
 have hr:=gr hC hx
 rw [he] at hr
 obtain ⟨_,vs,h1,h2⟩:=hr
 unfold Flat at h1
 rw [h2,h1.1]; exact ⟨rfl,h1.2.1⟩
theorem vu {x:Operand} {y:Od} {s:List UInt8} (hC:ar P B G0 W0 n env a.tmps w ob) (hx:aK x y=true) (h:nt (ag env y)=some s):a.eval x=.string ⟨⟨s⟩⟩∧s.length≤maxLen:=by
 unfold nt at h
 split at h
 ·rename_i s' he
  simp only [az] at h; subst h
  exact Sg hC hx he
 ·exact absurd h (by simp)
theorem l6 (G:Nat→Nat→Prop) (tm:Array Value) (b:Bool):bL P w G B tm env (.v .bool b) (.bool b) []:=⟨rfl,[.bool b],by unfold Flat; exact ⟨rfl,rfl⟩,rfl⟩
theorem lE (G:Nat→Nat→Prop) (tm:Array Value) {k:IntKind} {m:Int} (h:gP k m):bL P w G B tm env (.v (.int k) m) (.int k m) []:=⟨rfl,[.int k m],by unfold Flat; exact ⟨rfl,h,rfl⟩,rfl⟩
theorem ah4 (G:Nat→Nat→Prop) (tm:Array Value) {s:List UInt8} (h:s.length≤maxLen):bL P w G B tm env (.v .str s) (.string ⟨⟨s⟩⟩) []:=⟨rfl,[.string ⟨⟨s⟩⟩],by unfold Flat; exact ⟨rfl,h,rfl⟩,rfl⟩
theorem aMD (k:IntKind) (m q:Int) (h:gP k m):gP k (m.tmod q):=by
 have h1:m.tmod q=m - q * m.tdiv q:=Int.tmod_def m q
 have h0:k.min≤0∧0≤k.max:=by cases k<;>decide
 have hn:(m.tmod q).natAbs≤m.natAbs:=by rw [Int.natAbs_tmod]; exact Nat.mod_le _ _
 rcases Int.le_total 0 m with hm | hm
 ·have:=Int.tmod_nonneg q hm
  exact ⟨by omega,by have:=h.2; omega⟩
 ·have h2:m.tmod q≤0:=by
   have:=Int.tmod_nonneg q (show 0≤ -m by omega)
   rw [Int.neg_tmod] at this; omega
  exact ⟨by have:=h.1; omega,by omega⟩
theorem toList_mk (s:List UInt8):(⟨⟨s⟩⟩:ByteArray).toList=s:=ByteArray.toList_mk s
theorem aiw (s t:List UInt8):(⟨⟨s⟩⟩:ByteArray)++⟨⟨t⟩⟩=⟨⟨s++t⟩⟩:=by
 have:((⟨⟨s⟩⟩:ByteArray)++⟨⟨t⟩⟩).data=⟨s++t⟩:=by
  rw [ByteArray.data_append]; simp
 cases h:(⟨⟨s⟩⟩:ByteArray)++⟨⟨t⟩⟩
 rw [h] at this
 simp only at this
 rw [this]
variable {R:Type} {K:dn R} {r:R} {next:Act→World→Prop} {Q:Exit→Act→World→Prop} {o:Oper} {i:AI} {cl:aH}
theorem Rl {m:Nat} (h:m≤maxLen):gP .i64 (m:Int):=by
 unfold maxLen at h
 constructor
 ·show (-9223372036854775808:Int)≤_; omega
 ·show _≤(9223372036854775807:Int); omega
theorem CC (k:IntKind) (m:Int):gP k (k.wrap m):=wrap_within k m
theorem aBr {x:Operand} {y:Od} (hC:ar P B G0 W0 n env a.tmps w ob) (hK:bU P B G0 W0 n a K r next) (hd:∀ k,o.dst=some k→bH W0 n k) (hdst:i.dst=o.dst)
  (ho:o.op=.move x) (hi:i.op=.mv y) (hx:aK x y=true) (h:step cl i env K=some r):o.wp P a w next Q:=by
 unfold step at h; rw [hi] at h; simp only [hdst] at h
 exact bK (v:=a.eval x) (by simp [execOp,ho]) (aju hC hK hx hd h)
theorem aA1 {x:Operand} {y:Od} (hC:ar P B G0 W0 n env a.tmps w ob) (hK:bU P B G0 W0 n a K r next) (hd:∀ k,o.dst=some k→bH W0 n k) (hdst:i.dst=o.dst)
  (ho:o.op=.assign x) (hi:i.op=.ab y) (hx:aK x y=true) (h:step cl i env K=some r):o.wp P a w next Q:=by
 unfold step at h; rw [hi] at h; simp only [hdst] at h
 split at h
 ·rename_i d hdd
  refine bK (w':=w) (v:=a.eval x) (by simp [execOp,ho]) ?_
  rw [hdd]
  exact ajt hC hK hx (hd d hdd) h
 ·exact absurd h (by simp)
theorem aBu {c x y:Operand} {c' x' y':Od} (hC:ar P B G0 W0 n env a.tmps w ob) (hK:bU P B G0 W0 n a K r next) (hd:∀ k,o.dst=some k→bH W0 n k) (hdst:i.dst=o.dst)
  (ho:o.op=.pick c x y) (hi:i.op=.pick c' x' y') (hc:aK c c'=true) (hx:aK x x'=true) (hy:aK y y'=true) (h:step cl i env K=some r):o.wp P a w next Q:=by
 unfold step at h; rw [hi] at h; simp only [hdst,av] at h
 obtain ⟨q,hq,h⟩:=h
 have hv:=I3 hC hc hq
 cases q with
 | true=>exact bK (v:=a.eval x) (by simp [execOp,ho,hv,asBool]) (wC hC hK hx hd h)
 | false=>exact bK (v:=a.eval y) (by simp [execOp,ho,hv,asBool]) (wC hC hK hy hd h)
theorem aAz {op:BinOp} {k:IntKind} {m q z:Int} (xt:TypeId) (h:arith op k m q=some z):(binOp op xt (.int k m) (.int k q)).run P w=.ok (.int k z) w∧gP k z:=by
 unfold arith at h
 split at h<;>first | (simp at h; done) | skip
 all_goals (simp only [az] at h; subst h)
 all_goals refine ⟨?_,?_⟩
 all_goals first
  | exact CC _ _
  | exact bits_within _ _ _ _
  | (simp [binOp,Op.intArith]; done)
  | (simp only [binOp,ne_eq,not_true_eq_false,if_false]; rfl)
theorem aAB {op:BinOp} {k:IntKind} {m q:Int} {z:Bool} (xt:TypeId) (h:Es op m q=some z):(binOp op xt (.int k m) (.int k q)).run P w=.ok (.bool z) w:=by
 unfold Es at h
 split at h<;>first | (simp at h; done) | skip
 all_goals (simp only [az] at h; subst h; simp [binOp,Op.intCmp])
theorem ahp {op:BinOp} {xt:TypeId} {x y:Operand} {k k':IntKind} {m q:Int}:(eqGuard op xt x y (.int k m) (.int k' q)).run P w=.ok () w:=by cases op<;>rfl
theorem aAD {op:BinOp} {xt:TypeId} {x y:Operand} {s t:ByteArray}:(eqGuard op xt x y (.string s) (.string t)).run P w=.ok () w:=by cases op<;>rfl
theorem aA2 {op:BinOp} {xt yt:TypeId} {x y:Operand} {x' y':Od} (hC:ar P B G0 W0 n env a.tmps w ob) (hK:bU P B G0 W0 n a K r next) (hd:∀ k,o.dst=some k→bH W0 n k) (hdst:i.dst=o.dst)
  (ho:o.op=.binOp op xt x y yt) (hi:i.op=.bin op x' y') (hx:aK x x'=true) (hy:aK y y'=true) (h:step cl i env K=some r):o.wp P a w next Q:=by
 unfold step at h; rw [hi] at h; simp only [hdst] at h
 split at h
 ·rename_i k m k' q hex hey
  split at h
  ·rename_i hkk
   subst hkk
   have hvx:=mY hC hx hex
   have hvy:=mY hC hy hey
   have hgd:(eqGuard op xt x y (.int k m) (.int k q)).run P w=.ok () w:=ahp
   split at h
   ·split at h
    ·exact absurd h (by simp)
    ·rename_i hq
     exact bK (v:=.int k (k.wrap (m.tdiv q))) (by simp [execOp,ho,hvx.1,hvy.1,hgd,binOp,Op.intDiv,hq]) (bN hC hK hd (aY.refl w) (lE _ _ (CC _ _)) h)
   ·split at h
    ·exact absurd h (by simp)
    ·rename_i hq
     have hin:gP k (m.tmod q):=aMD k m q hvx.2
     exact bK (v:=.int k (m.tmod q)) (by simp [execOp,ho,hvx.1,hvy.1,hgd,binOp,Op.intDiv,hq]) (bN hC hK hd (aY.refl w) (lE _ _ hin) h)
   ·split at h
    ·rename_i z hz
     exact bK (v:=.bool z) (by simp [execOp,ho,hvx.1,hvy.1,hgd,aAB xt hz]) (bN hC hK hd (aY.refl w) (l6 _ _ _) h)
    ·simp only [av] at h
     obtain ⟨z,hz,h⟩:=h
     have hrz:=aAz (P:=P) (w:=w) xt hz
     exact bK (v:=.int k z) (by simp [execOp,ho,hvx.1,hvy.1,hgd,hrz.1]) (bN hC hK hd (aY.refl w) (lE _ _ hrz.2) h)
  ·exact absurd h (by simp)
 ·rename_i s t hex hey
  have hvx:=Sg hC hx hex
  have hvy:=Sg hC hy hey
  have hgd:(eqGuard op xt x y (.string ⟨⟨s⟩⟩) (.string ⟨⟨t⟩⟩)).run P w=.ok () w:=aAD
  have hs:(⟨⟨s⟩⟩:ByteArray).toList=s:=toList_mk s
  have ht:(⟨⟨t⟩⟩:ByteArray).toList=t:=toList_mk t
  split at h
  ·exact bK (v:=.bool (s==t)) (by simp [execOp,ho,hvx.1,hvy.1,hgd,binOp,Op.stringOp,hs,ht]) (bN hC hK hd (aY.refl w) (l6 _ _ _) h)
  ·exact bK (v:=.bool (s != t)) (by simp [execOp,ho,hvx.1,hvy.1,hgd,binOp,Op.stringOp,hs,ht,bne]) (bN hC hK hd (aY.refl w) (l6 _ _ _) h)
  ·split at h
   ·rename_i hle
    have hadd:(Op.stringOp .add ⟨⟨s⟩⟩ ⟨⟨t⟩⟩).run P w=.ok (.string ⟨⟨s++t⟩⟩) w:=by
     have:=run_string_add_sum (P:=P) w ⟨⟨s⟩⟩ ⟨⟨t⟩⟩ (by show s.length+t.length≤_; omega)
     rw [this,aiw]
    refine bK (v:=.string ⟨⟨s++t⟩⟩) (by simp [execOp,ho,hvx.1,hvy.1,hgd,binOp,hadd]) (bN hC hK hd (aY.refl w) (ah4 _ _ ?_) h)
    rw [List.length_append]; unfold maxLen; omega
   ·exact absurd h (by simp)
  ·exact bK (v:=.bool (Op.bytesLess s t)) (by simp [execOp,ho,hvx.1,hvy.1,hgd,binOp,Op.stringOp,hs,ht]) (bN hC hK hd (aY.refl w) (l6 _ _ _) h)
  ·exact bK (v:=.bool (Op.bytesLess s t || s==t)) (by simp [execOp,ho,hvx.1,hvy.1,hgd,binOp,Op.stringOp,hs,ht]) (bN hC hK hd (aY.refl w) (l6 _ _ _) h)
  ·exact bK (v:=.bool (!(Op.bytesLess s t || s==t))) (by simp [execOp,ho,hvx.1,hvy.1,hgd,binOp,Op.stringOp,hs,ht]) (bN hC hK hd (aY.refl w) (l6 _ _ _) h)
  ·exact bK (v:=.bool (!Op.bytesLess s t)) (by simp [execOp,ho,hvx.1,hvy.1,hgd,binOp,Op.stringOp,hs,ht]) (bN hC hK hd (aY.refl w) (l6 _ _ _) h)
  ·exact absurd h (by simp)
 ·exact absurd h (by simp)
theorem aoj (k:IntKind):k.min≤0∧0≤k.max:=by cases k<;>decide
theorem aoi {k:IntKind} {m q:Int} (l:Bool) (hm:gP k m):gP k (vp l k m q):=by
 unfold vp
 cases l with
 | true=>exact CC _ _
 | false=>
   simp only
   have hz:=aoj k
   have hp:(0:Int) < 2 ^ (min q.toNat k.bits):=Int.pow_pos (by decide)
   generalize (2:Int) ^ (min q.toNat k.bits)=p at hp
   unfold gP at hm ⊢
   rw [Int.fdiv_eq_ediv_of_nonneg _ (Sv hp)]
   rcases (by omega:m < 0∨0≤m) with h | h
   ·have h1:m / p < 0:=Int.ediv_neg_of_neg_of_pos h hp
    have h2:m≤m / p:=by
     rw [Int.le_ediv_iff_mul_le hp]
     have:=Int.mul_le_mul_of_nonpos_left (a:=m) (b:=p) (c:=1) (Sv h) hp
     omega
    omega
   ·have h1:0≤m / p:=Int.ediv_nonneg h (Sv hp)
    have h2:m / p≤m:=Int.ediv_le_self _ h
    omega
theorem aBz {xt yt:TypeId} {l:Bool} {x y:Operand} {x' y':Od} (hC:ar P B G0 W0 n env a.tmps w ob) (hK:bU P B G0 W0 n a K r next) (hd:∀ k,o.dst=some k→bH W0 n k) (hdst:i.dst=o.dst)
  (ho:o.op=.binOp (if l then .shl else .shr) xt x y yt) (hi:i.op=.shift l x' y') (hx:aK x x'=true) (hy:aK y y'=true) (h:step cl i env K=some r):o.wp P a w next Q:=by
 unfold step at h; rw [hi] at h; simp only [hdst] at h
 split at h
 ·rename_i k m k' q hex hey
  split at h
  ·rename_i hq
   have hvx:=mY hC hx hex
   have hvy:=mY hC hy hey
   have hgd:∀ op,(eqGuard op xt x y (.int k m) (.int k' q)).run P w=.ok () w:=fun op=>ahp
   have hnq:¬ (show Int from q) < 0:=Int.not_lt.2 hq
   refine bK (v:=.int k (vp l k m q)) ?_ (bN hC hK hd (aY.refl w) (lE _ _ (aoi l hvx.2)) h)
   cases l<;>simp [execOp,ho,hvx.1,hvy.1,hgd,binOp,Op.shift,hnq,vp]
  ·exact absurd h (by simp)
 ·exact absurd h (by simp)
theorem aBF {op:UnOp} {xt:TypeId} {x:Operand} {x':Od} (hC:ar P B G0 W0 n env a.tmps w ob) (hK:bU P B G0 W0 n a K r next) (hd:∀ k,o.dst=some k→bH W0 n k) (hdst:i.dst=o.dst)
  (ho:o.op=.unOp op xt x) (hi:i.op=.un op x') (hx:aK x x'=true) (h:step cl i env K=some r):o.wp P a w next Q:=by
 unfold step at h; rw [hi] at h; simp only [hdst] at h
 split at h
 ·rename_i b hex
  have hv:=I3 hC hx (by rw [hex]; rfl)
  exact bK (v:=.bool (!b)) (by simp [execOp,ho,hv,Op.unary]) (bN hC hK hd (aY.refl w) (l6 _ _ _) h)
 ·rename_i k m hex
  have hv:=mY hC hx hex
  exact bK (v:=.int k (k.wrap (0 - m))) (by simp [execOp,ho,hv.1,Op.unary,Op.intArith]) (bN hC hK hd (aY.refl w) (lE _ _ (CC _ _)) h)
 ·exact absurd h (by simp)
theorem aBa {s d:TypeId} {x:Operand} {x':Od} {k:IntKind} (hC:ar P B G0 W0 n env a.tmps w ob) (hK:bU P B G0 W0 n a K r next) (hd:∀ k,o.dst=some k→bH W0 n k) (hdst:i.dst=o.dst)
  (ho:o.op=.convert s d x) (hi:i.op=.qP k x') (hx:aK x x'=true) (hs:bW P s (.int ks)) (hdt:bW P d (.int k)) (h:step cl i env K=some r):o.wp P a w next Q:=by
 unfold step at h; rw [hi] at h; simp only [hdst,av] at h
 obtain ⟨q,hq,h⟩:=h
 have hv:=uw hC hx hq
 exact bK (v:=.int k (k.wrap q.2)) (by simp [execOp,ho,hv.1,convert,run_underlying hs.int,run_underlying hdt.int,Conv.intToInt]) (bN hC hK hd (aY.refl w) (lE _ _ (CC _ _)) h)
end
end Go.Fw
/- Soundness, part 9: operations without calls: variables, parts, elements that are read. -/
namespace Go.Fw
open Go Go.RowKit
section
variable {P:Program} {B:Nat} {G0:Nat→Nat→Prop} {W0:dF} {n:Nat} {env:Env} {a:Act} {w:World} {ob:Nat→OB}
variable {R:Type} {K:dn R} {r:R} {next:Act→World→Prop} {Q:Exit→Act→World→Prop} {o:Oper} {i:AI} {cl:aH}
structure qJ (P:Program) (t:TypeId) (T:Ty):Prop where
 ok:∃ i z vs,P.info? t=some i∧i.zero=some z∧gU T (zero T)=some vs∧z=ck T vs
theorem Ev:∀ {T:Ty} {x:den T} {vs:List Value},gU T x=some vs→∀ u∈vs,u.oneCell'=true:=by
 intro T x vs h
 exact Flat.one (default:Program) T (w:=default) (G:=fun _ _=>True) (B:=0) (o:=.no) rfl (iu default T default _ 0 .no (iu.annOk_no T) h)
theorem Eu {T:Ty} {x:den T} {vs:List Value} (h:gU T x=some vs):vs.length=aA T:=
 Flat.len (default:Program) T (w:=default) (G:=fun _ _=>True) (B:=0) (o:=.no) (iu default T default _ 0 .no (iu.annOk_no T) h)
theorem agK {t:TypeId} {T:Ty} {oa:aC} {x:den T} {vs:List Value} {d:Option Nat} (hC:ar P B G0 W0 n env a.tmps w ob) (hK:bU P B G0 W0 n a K r next) (hd:∀ k,d=some k→bH W0 n k)
  (hF:Flat P T w (Gd B G0 ob) B oa x vs []) (hk:K (aX env d (.loc T oa x))=some r):next (a.put d (.pointer (some ⟨w.heap.size,0,none⟩))) (w.alloc (.cells vs.toArray t)):=by
 have hg:aY w (w.alloc (.cells vs.toArray t)):=aY.alloc w _
 cases d with
 | none=>exact bN (e:=.dead) hC hK hd hg (v:=undef) rfl hk
 | some k=>
   have h:=ar.oB (e:=.loc T oa x) (v:=.pointer (some ⟨w.heap.size,0,none⟩)) (bk:=[(w.heap.size,0)]) hC (hd k rfl) hg ?_ (by simp) (by simp)
   ·exact hK _ _ _ _ h hk
   ·rw [if_neg (by simp [leads])]
    refine ⟨w.heap.size,vs.toArray,t,[],rfl,hC.base,heap_alloc_new w _,?_,rfl⟩
    exact Flat.mono P T (fun b i hb h=>⟨s3 (fun lim hl=>by simp at hl; omega) h,hg.cell hb⟩) ⟨hg.size,fun b hb=>hg.block b (eK hb hC.base)⟩ (by simp) (by simpa using hF)
theorem aAZ {t:TypeId} {T:Ty} {oa:aC} (hC:ar P B G0 W0 n env a.tmps w ob) (hK:bU P B G0 W0 n a K r next) (hd:∀ k,o.dst=some k→bH W0 n k) (hdst:i.dst=o.dst)
  (ho:o.op=.alloc t) (hi:i.op=.alloc T oa) (hz:qJ P t T) (ha:jc T oa=true) (h:step cl i env K=some r):o.wp P a w next Q:=by
 unfold step at h; rw [hi] at h; simp only [hdst] at h
 obtain ⟨it,z,vs,h1,h2,h3,h4⟩:=hz.ok
 have hcells:z.cells=vs.toArray:=by rw [h4]; exact nD (Eu h3) (Ev h3)
 refine bK (v:=.pointer (some ⟨w.heap.size,0,none⟩)) (w':=w.alloc (.cells vs.toArray t)) ?_ (agK hC hK hd (iu P T w _ B oa ha h3) h)
 simp [execOp,ho,Instr.alloc,zeroValue,typeInfo,h1,h2,newVar,newRow,hcells]
theorem aA3 {t:TypeId} {T:Ty} {x:Operand} {y:Od} (hC:ar P B G0 W0 n env a.tmps w ob) (hK:bU P B G0 W0 n a K r next) (hd:∀ k,o.dst=some k→bH W0 n k) (hdst:i.dst=o.dst)
  (ho:o.op=.box t x) (hi:i.op=.box T y) (hx:aK x y=true) (h:step cl i env K=some r):o.wp P a w next Q:=by
 unfold step at h; rw [hi] at h; simp only [hdst,av] at h
 obtain ⟨⟨env',z⟩,hq,y',hy',h⟩:=h
 obtain ⟨ob',hf,hC',vs,hv,hF⟩:=nn hC hx hq
 have:=dJ hy'
 simp only at this; subst this
 have hcells:(a.eval x).cells=vs.toArray:=by rw [hv]; exact nD (Flat.len P T hF) (Flat.one P T rfl hF)
 refine bK (v:=.pointer (some ⟨w.heap.size,0,none⟩)) (w':=w.alloc (.cells vs.toArray t)) ?_ (agK hC' hK hd hF h)
 simp [execOp,ho,Instr.box,newVar,newRow,hcells]
theorem ou (hC:ar P B G0 W0 n env a.tmps w ob) {s:Nat} {T0:Ty} {oa:aC} {x:den T0} (hs:look env s=.loc T0 oa x) {p:Path} {T:Ty} {y:den T} (hg:aN T0 p x=some ⟨T,y⟩):
  ∃ b cur e v1 v2 v3 b1 b2 b3,a.tmps.getD s undef=.pointer (some ⟨b,0,none⟩)∧w.heap[b]?=some (.cells cur e (0,0))∧B≤b∧cur.toList=v1++v2++v3∧v1.length=bu T0 p∧ob s=(b,0)::(b1++b2++b3)∧
    Flat P T w (Gd B G0 ob) B (ct oa p) y v2 b2∧
    (∀ (o2:aC) (y2:den T) (u:List Value) (c:OB) (x2:den T0),(dM p=true→o2.pure=true)→Flat P T w (Gd B G0 ob) B o2 y2 u c→bz T0 p x ⟨T,y2⟩=some x2→Flat P T0 w (Gd B G0 ob) B (fD oa p o2) x2 (v1++u++v3) (b1++c++b3)):=by
 have hr:=hC.rep s
 rw [hs] at hr
 obtain ⟨b,cur,e,ob',h1,h2,h3,h4,h5⟩:=hr
 obtain ⟨v1,v2,v3,b1,b2,b3,e1,e2,e3,e4,e5⟩:=Flat.lens P p T0 h4 hg
 exact ⟨b,cur,e,v1,v2,v3,b1,b2,b3,h1,h3,h2,e1,e3,by rw [h5,e2],e4,e5⟩
theorem tn {b:Nat} {cur:Array Value} {e:TypeId} (h:w.heap[b]?=some (.cells cur e (0,0))) {v1 v2 v3:List Value} (hc:cur.toList=v1++v2++v3):∀ j u,v2[j]?=some u→w.cell? ⟨b,v1.length+j,none⟩=some u:=by
 intro j u hj
 rw [cell_of_row w b _ cur e (0,0) h,←qB,hc]
 have hlt:=(lH.1 hj).1
 rw [il (by simp; omega),gI (by omega)]
 simpa using hj
theorem Cz (hC:ar P B G0 W0 n env a.tmps w ob) {s:Nat} {p:Path} {h:jX} {v:Value} (hh:bC env s p=some h) (hv:b7 w a.tmps env s p=some v):
  ∃ cells b2,jR w B h.e (aA h.T) v h.xs.length cells∧aU (Flat P h.T w (Gd B G0 ob) B h.o) h.xs cells b2∧(∀ q∈cf v (if h.wr=true then 0 else h.xs.length * aA h.T)++b2,q∈ob s):=by
 have hr:=hC.rep s
 have hh':=hh
 simp only [bC] at hh
 simp only [b7] at hv
 split at hh
 ·rename_i wr e T oa xs hs
  rw [hs] at hr hv
  split at hh
  ·simp only [az] at hh hv
   subst hh; subst hv
   have hr':Flat P (.sl T) w (Gd B G0 ob) B (.own wr e oa) xs [a.tmps.getD s undef] (ob s):=hr
   unfold Flat at hr'
   obtain ⟨v',cells,b2,e1,h2,h3,h4⟩:=hr'
   simp only [iZ,and_true] at e1
   subst e1
   exact ⟨cells,b2,h2,h3,fun q hq=>by rw [h4]; exact hq⟩
  ·exact absurd hh (by simp)
 ·rename_i T oa x hs
  split at hh
  ·rename_i wr e' o' T' xs he hg
   simp only [az] at hh
   subst hh
   obtain ⟨b,cur,e,v1,v2,v3,b1,b2,b3,h1,h3,_,h5,h6,h7,h8,_⟩:=ou hC hs hg
   rw [hs] at hv
   simp only [h1] at hv
   rw [he] at h8
   have hv2:v2.length=1:=Flat.len P (.sl T') h8
   obtain ⟨u,rfl⟩:=s5.1 hv2
   have:=tn h3 h5 0 u rfl
   rw [h6,ff] at this
   rw [this] at hv
   simp only [az] at hv
   subst hv
   unfold Flat at h8
   obtain ⟨v',cells,b2',e1,h2',h3',h4'⟩:=h8
   simp only [iZ,and_true] at e1
   subst e1
   exact ⟨cells,b2',h2',h3',fun q hq=>by rw [h7,h4']; simp only [dG,eu] at hq ⊢; exact .inr (.inl (.inr hq))⟩
  ·exact absurd hh (by simp)
 ·exact absurd hh (by simp)
end
end Go.Fw
/- Soundness, part 10: reading. -/
namespace Go.Fw
open Go Go.RowKit
theorem Flat.shared (P:Program):∀ (T:Ty) {w:World} {G G':Nat→Nat→Prop} {B:Nat} {o:aC} {x:den T} {vs:List Value} {ob:OB},o.whole=true→
  (∀ b lim i,(b,lim)∈ob→i < lim→B≤b→G' b i)→(∀ b i,b < w.heap.size→G b i→G' b i)→Flat P T w G B o.bJ x vs ob→Flat P T w G' B .no x vs []
 | .int k,_,_,_,_,_,_,_,_,_,_,_,h=>by unfold Flat at h ⊢; exact ⟨h.1,h.2.1,rfl⟩
 | .bool,_,_,_,_,_,_,_,_,_,_,_,h=>by unfold Flat at h ⊢; exact ⟨h.1,rfl⟩
 | .str,_,_,_,_,_,_,_,_,_,_,_,h=>by unfold Flat at h ⊢; exact ⟨h.1,h.2.1,rfl⟩
 | .unit,_,_,_,_,_,_,_,_,_,_,_,h=>by unfold Flat at h ⊢; exact ⟨h.1,rfl⟩
 | .pair A C,_,_,_,_,o,_,_,_,ho,hg,hG,h=>by
   unfold Flat at h ⊢
   obtain ⟨v1,v2,b1,b2,rfl,rfl,h1,h2⟩:=h
   rw [Pj] at h1; rw [Pk] at h2
   have ho1:o.l.whole=true:=by cases o<;>simp_all [aC.whole,aC.l]
   have ho2:o.r.whole=true:=by cases o<;>simp_all [aC.whole,aC.r]
   exact ⟨v1,v2,[],[],rfl,rfl,Flat.shared P A ho1 (fun b lim i hb=>hg b lim i (gJ _ hb)) hG h1,Flat.shared P C ho2 (fun b lim i hb=>hg b lim i (iq _ hb)) hG h2⟩
 | .arr n T,_,_,_,_,_,_,_,_,_,_,hG,h=>by
   unfold Flat at h ⊢
   obtain ⟨_,h2⟩:=aU.pure P (o:=.no) (o':=.no) rfl rfl h.2
   exact ⟨h.1,aU.imp (fun x v b hb hx=>by
    have:b=[]:=by cases b with | nil=>rfl | cons q r=>exact absurd (hb q (by simp)) (by simp)
    subst this
    exact Flat.mono P T (fun b i hb h=>⟨hG b i hb h,rfl⟩) (b8.refl _ _) (by simp) hx) h2⟩
 | .fn A C,_,_,_,_,_,_,_,_,_,_,_,h=>by unfold Flat at h ⊢; exact ⟨rfl,h.2⟩
 | .sl T,w,G,G',B,o,xs,vs,ob,ho,hg,hG,h=>by
   have dT:∀ {ob:OB},(ob=[]∧∃ A c,vs=[.slice A xs.length c]∧xs.length≤c∧c≤maxLen∧
    (xs=[]∨∃ b off cells,A=some ⟨b,off,none⟩∧aU (Flat P T w G B .no) xs cells []∧∀ j v,cells[j]?=some v→w.cell? ⟨b,off+j,none⟩=some v∧G b (off+j)))→Flat P (.sl T) w G' B .no xs vs []:=by
    intro ob h
    have h':Flat P (.sl T) w G B .no xs vs []:=by unfold Flat; exact ⟨rfl,h.2⟩
    exact Flat.mono P (.sl T) (fun b i hb h=>⟨hG b i hb h,rfl⟩) (b8.refl _ _) (by simp) h'
   cases o with
   | no=>simp only [aC.bJ] at h; unfold Flat at h; exact dT h
   | pair a b=>simp only [aC.bJ] at h; unfold Flat at h; exact dT h
   | hole=>simp [aC.whole] at ho
   | own wr e o=>
     simp only [aC.bJ] at h
     unfold Flat at h
     obtain ⟨v,cells,ob',h1,h2,h3,rfl⟩:=h
     subst h1
     simp only [aC.whole] at ho
     have key:∀ {xs:List (den T)} {vs:List Value} {ob:OB},(∀ b lim i,(b,lim)∈ob→i < lim→B≤b→G' b i)→aU (Flat P T w G B o.bJ) xs vs ob→aU (Flat P T w G' B .no) xs vs []:=by
      intro xs
      induction xs with
      | nil=>rintro vs ob _ ⟨rfl,rfl⟩; exact ⟨rfl,rfl⟩
      | cons x xs ih=>
        rintro vs ob hg ⟨u1,u2,c1,c2,rfl,rfl,hr,ht⟩
        exact ⟨u1,u2,[],[],rfl,rfl,Flat.shared P T ho (fun b lim i hb=>hg b lim i (gJ _ hb)) hG hr,ih (fun b lim i hb=>hg b lim i (iq _ hb)) ht⟩
     have h3':=key (fun b lim i hb=>hg b lim i (iq _ hb)) h3
     unfold Flat
     refine ⟨rfl,?_⟩
     have h2':=h2
     rcases h2.2 with ⟨rfl,hn⟩ | ⟨g,cap,cur,_,_,rfl,hBg,hh,hnc,hcm,hcs,htake,_,_⟩
     ·exact ⟨none,0,by rw [hn],by omega,by unfold maxLen; omega,.inl (l7 hn)⟩
     ·refine ⟨some ⟨g,0,none⟩,cap,rfl,hnc,hcm,.inr ⟨g,0,cells,rfl,h3',fun j u hj=>?_⟩⟩
      have hc:=h2'.cells (g:=g) rfl j u hj
      rw [mc] at hc
      refine ⟨hc,hg g (xs.length * aA T) (0+j) (gJ _ (by simp [cf,Value.ownBlock])) ?_ hBg⟩
      have:=(lH.1 hj).1
      rw [h2.1] at this; omega
section
variable {P:Program} {B:Nat} {G0:Nat→Nat→Prop} {W0:dF} {n:Nat} {env:Env} {a:Act} {w:World} {ob:Nat→OB}
variable {R:Type} {K:dn R} {r:R} {next:Act→World→Prop} {Q:Exit→Act→World→Prop} {o:Oper} {i:AI} {cl:aH}
theorem oD {T:Ty} {x:den T} {vs:List Value} {G:Nat→Nat→Prop} {tm:Array Value} (h:Flat P T w G B .no x vs []):bL P w G B tm env (.v T x) (ck T vs) []:=⟨rfl,vs,h,rfl⟩
theorem ayw (hC:ar P B G0 W0 n env a.tmps w ob) {s:Nat} {l:OB} (hl:∀ q∈l,q∈ob s):∀ b lim i,(b,lim)∈l→i < lim→B≤b→Gd B G0 ob b i:=
 fun _ _ _ hb hi hB=>vE hC (hl _ hb) hi hB
theorem RO {x:Operand} {y:Od} {s:Nat} {p:Path} (hC:ar P B G0 W0 n env a.tmps w ob) (hx:aK x y=true) (hm:eH env y=some (s,p)) {T0:Ty} {oa:aC} {x0:den T0} (hs:look env s=.loc T0 oa x0):
  ∃ b,a.tmps.getD s undef=.pointer (some ⟨b,0,none⟩)∧a.eval x=.pointer (some ⟨b,bu T0 p,none⟩):=by
 have hr:=gr hC hx
 unfold eH at hm
 split at hm
 ·rename_i he
  rw [he] at hr
  simp only [az,eL] at hm
  obtain ⟨rfl,rfl⟩:=hm
  obtain ⟨_,T,o',x',b,h1,h2,_,h3⟩:=hr
  rw [hs] at h1; cases h1
  exact ⟨b,h2,h3⟩
 ·rename_i he
  rw [he] at hr
  cases y with
  | t k=>
    simp only [Od.slot,Option.map_some,az,eL] at hm
    obtain ⟨rfl,rfl⟩:=hm
    obtain ⟨b,cur,e',ob',h1,_⟩:=hr
    refine ⟨b,by rw [←lA hx a]; exact h1,?_⟩
    rw [h1]; cases T0<;>rfl
  | c T x=>simp [Od.slot] at hm
  | nil e T=>simp [Od.slot] at hm
  | fn f A C=>simp [Od.slot] at hm
 ·exact absurd hm (by simp)
theorem aBo {t:TypeId} {T:Ty} {x:Operand} {y:Od} (hC:ar P B G0 W0 n env a.tmps w ob) (hK:bU P B G0 W0 n a K r next) (hd:∀ k,o.dst=some k→bH W0 n k) (hdst:i.dst=o.dst)
  (ho:o.op=.load t x) (hi:i.op=.load T y) (hT:bW P t T) (hx:aK x y=true) (h:step cl i env K=some r):o.wp P a w next Q:=by
 unfold step at h; rw [hi] at h; simp only [hdst] at h
 have run:∀ {b off:Nat} {vs:List Value},a.eval x=.pointer (some ⟨b,off,none⟩)→vs.length=aA T→(∀ j u,vs[j]?=some u→w.cell? ⟨b,off+j,none⟩=some u)→(execOp a.eval o).run P w=.ok (.value (ck T vs)) w:=by
  intro b off vs hv hl hc
  simp [execOp,ho,hv,Instr.loadAt,Instr.sureAddr,ahr hT w hl hc]
 have hr:=gr hC hx
 split at h
 ·rename_i T' x' he
  simp only [av] at h
  obtain ⟨y',hy',h⟩:=h
  have hz:=dJ hy'
  rw [he] at hr
  cases hz
  obtain ⟨_,b,off,vs,h1,h2,h3⟩:=hr
  exact bK (run h1 (Flat.len P T h2) (fun j u hj=>(h3 j u hj).1)) (bN hC hK hd (aY.refl w) (oD h2) h)
 ·rename_i s p j q he
  simp only [av] at h
  obtain ⟨hh,hhe,h⟩:=h
  split at h
  case isFalse=>simp at h
  rename_i hj
  split at h
  case isFalse=>simp at h
  rename_i hpure
  simp only [av] at h
  obtain ⟨z,hz,y',hy',h⟩:=h
  have hzz:=dJ hy'
  subst hzz
  rw [he] at hr
  obtain ⟨_,h',g,m,c,h1,h2,h3,h4,h5⟩:=hr
  rw [hhe] at h1; cases h1
  obtain ⟨cells,b2,hrow,hel,hob⟩:=Cz hC hhe h2
  obtain ⟨v1,v2,v3,c1,c2,c3,e1,e2,e3,e4,_⟩:=aU.split (fun x v b hx=>Flat.len P _ hx) j (zero hh.T) hel hj
  obtain ⟨u1,u2,u3,d1,d2,d3,f1,f2,f3,f4,_⟩:=Flat.lens P q hh.T e4 hz
  have hann:(ct hh.o q).pure=true:=by
   have:∀ (q:Path) (o:aC),o.pure=true→(ct o q).pure=true:=by
    intro q
    induction q with
    | nil=>intro o h; exact h
    | cons st q ih=>intro o h; cases st<;>simp only [ct]<;>first | exact ih _ (aC.vk h) | exact ih _ (aC.vl h) | rfl
   exact this q _ hpure
  obtain ⟨_,f5⟩:=Flat.pure P T hann (o':=.no) rfl f4
  refine bK (run h5 (Flat.len P T f5) (fun k u hk=>?_)) (bN hC hK hd (aY.refl w) (oD f5) h)
  have hcell:=hrow.cells (g:=g) rfl (j * aA hh.T+bu hh.T q+k) u ?_
  ·rw [mc] at hcell; simpa [nB] using hcell
  ·rw [e1,f1]
   have hk':=(lH.1 hk).1
   rw [bX,gI (by omega),il (by simp; omega),bX,gI (by omega),il (by omega)]
   rw [←hk]; congr 1; omega
 ·split at h
  ·rename_i s p hm
   split at h
   ·rename_i T0 oa x0 hs
    obtain ⟨b,hb1,hb2⟩:=RO hC hx hm hs
    split at h
    ·rename_i wr' e' o' hann
     split at h
     ·rename_i T' xs hg
      split at h
      case isFalse=>simp at h
      rename_i hTT
      subst hTT
      obtain ⟨b',cur,e'',v1,v2,v3,b1,b2,b3,k1,k2,k3,k4,k5,k6,k7,_⟩:=ou hC hs hg
      rw [hb1] at k1; cases k1
      have hv2:v2.length=1:=Flat.len P (.sl T') k7
      obtain ⟨u,rfl⟩:=s5.1 hv2
      have hcell:=tn k2 k4
      rw [k5] at hcell
      refine bK (run hb2 hv2 hcell) (bN (e:=.ref s p) hC hK hd (aY.refl w) ⟨rfl,?_,?_⟩ h)
      ·simp only [b7,hs,hb1]
       have:=hcell 0 u rfl
       rw [Dz]
       simpa using this
      ·simp only [bC,hs,hann,hg]; rfl
     ·exact absurd h (by simp)
    ·rename_i bb hbb
     split at h
     case isFalse=>simp at h
     rename_i hwh
     simp only [av] at h
     obtain ⟨z,hz,y',hy',h⟩:=h
     have hzz:=dJ hy'
     subst hzz
     by_cases hp:(ct oa p).pure=true
     ·rw [if_pos hp] at h
      obtain ⟨b',cur,e'',v1,v2,v3,b1,b2,b3,k1,k2,k3,k4,k5,k6,k7,_⟩:=ou hC hs hz
      rw [hb1] at k1; cases k1
      obtain ⟨_,k8⟩:=Flat.pure P T hp (o':=.no) rfl k7
      have hcell:=tn k2 k4
      rw [k5] at hcell
      exact bK (run hb2 (Flat.len P T k8) hcell) (bN hC hK hd (aY.refl w) (oD k8) h)
     ·rw [if_neg hp] at h
      obtain ⟨ob',hf,hC'⟩:=He hC s
      have hs':look (freeze env s) s=.loc T0 oa.bJ x0:=by unfold freeze; rw [hs]; simp only [bm,if_true]
      obtain ⟨b',cur,e'',v1,v2,v3,b1,b2,b3,k1,k2,k3,k4,k5,k6,k7,_⟩:=ou hC' hs' hz
      rw [hb1] at k1; cases k1
      rw [oP] at k7
      have k8:Flat P T w (Gd B G0 ob') B .no y' v2 []:=Flat.shared P T hwh (ayw hC' (s:=s) (fun q hq=>by rw [k6]; simp [hq])) (fun _ _ _ h=>h) k7
      have hcell:=tn k2 k4
      rw [k5] at hcell
      exact bK (run hb2 (Flat.len P T k8) hcell) (bN hC' hK hd (aY.refl w) (oD k8) h)
   ·exact absurd h (by simp)
  ·exact absurd h (by simp)
theorem aAF {t:TypeId} {S A:Ty} {f:Nat} {b off:Nat} (hS:bW P t S) {fs:Array Field} (hu:P.underlying t=some (.struct fs)) {fd:Field} (hf:fs[f]?=some fd) (hA:dw S (eV f)=some A) (hz:aA A≠0):
  (Instr.fieldAt t (.pointer (some ⟨b,off,none⟩)) f).run P w=.ok (.pointer (some ⟨b,off+bu S (eV f),none⟩)) w:=by
 obtain ⟨A',h1,h2,h3⟩:=hS.struct hu hf
 rw [hA] at h1; cases h1
 simp [Instr.fieldAt,run_underlying hu,hf,Instr.sureAddr,fieldPlace,oC h2,hz,mc,h3]
theorem aBf {t:TypeId} {S A:Ty} {f:Nat} {x:Operand} {y:Od} {fs:Array Field} {fd:Field} (hC:ar P B G0 W0 n env a.tmps w ob) (hK:bU P B G0 W0 n a K r next) (hd:∀ k,o.dst=some k→bH W0 n k) (hdst:i.dst=o.dst)
  (ho:o.op=.fieldAddr t x f) (hi:i.op=.fieldAddr S (eV f) y) (hS:bW P t S) (hu:P.underlying t=some (.struct fs)) (hf:fs[f]?=some fd) (hA:dw S (eV f)=some A) (hz:aA A≠0) (hx:aK x y=true)
  (h:step cl i env K=some r):o.wp P a w next Q:=by
 unfold step at h; rw [hi] at h; simp only [hdst] at h
 have hr:=gr hC hx
 have run:∀ {b off:Nat},a.eval x=.pointer (some ⟨b,off,none⟩)→(execOp a.eval o).run P w=.ok (.value (.pointer (some ⟨b,off+bu S (eV f),none⟩))) w:=by
  intro b off hv
  simp [execOp,ho,hv,aAF (w:=w) hS hu hf hA hz]
 split at h
 ·rename_i T x' he
  simp only [av] at h
  obtain ⟨x2,hx2,y2,hy2,h⟩:=h
  have:=dJ hx2
  rw [he] at hr
  cases this
  obtain ⟨_,b,off,vs,h1,h2,h3⟩:=hr
  obtain ⟨v1,v2,v3,b1,b2,b3,e1,e2,e3,e4,_⟩:=Flat.lens P (eV f) S h2 hy2
  have hnil:b2=[]:=by
   have:b1++b2++b3=[]:=e2.symm
   simp at this; exact this.2.1
  subst hnil
  rw [tc] at e4
  refine bK (run h1) (bN (e:=.at y2.1 y2.2) hC hK hd (aY.refl w) ⟨rfl,b,off+bu S (eV f),v2,rfl,e4,fun j u hj=>?_⟩ h)
  have:=h3 (v1.length+j) u (by
   have hlt:=(lH.1 hj).1
   rw [e1,bX,gI (by omega),il (by omega)]
   simpa using hj)
  rw [e3] at this
  rw [nB]; exact this
 ·rename_i s q he
  split at h
  ·rename_i T0 oa x0 hs
   split at h
   case isFalse=>simp at h
   rename_i hsub
   rw [he] at hr
   obtain ⟨_,T1,o1,x1,b,h1,h2,h3,h4⟩:=hr
   rw [hs] at h1; cases h1
   have hoff:=vc q (eV f) T0 hsub
   refine bK (run h4) (bN (e:=.ptr s (q++eV f)) hC hK hd (aY.refl w) ⟨rfl,T0,oa,x0,b,hs,h2,?_,?_⟩ h)
   ·rw [hoff.2,hA]; rfl
   ·rw [hoff.1]
  ·exact absurd h (by simp)
 ·rename_i s q j rr he
  simp only [av] at h
  obtain ⟨hh,hhe,h⟩:=h
  split at h
  case isFalse=>simp at h
  rename_i hsub
  rw [he] at hr
  obtain ⟨_,h',g,m,c,h1,h2,h3,h4,h5⟩:=hr
  rw [hhe] at h1; cases h1
  have hoff:=vc rr (eV f) hh.T hsub
  refine bK (run h5) (bN (e:=.dk s q j (rr++eV f)) hC hK hd (aY.refl w) ⟨rfl,hh,g,m,c,hhe,h2,h3,?_,?_⟩ h)
  ·rw [hoff.2,hA]; rfl
  ·rw [hoff.1,nB]
 ·rename_i T0 oa x0 he
  split at h
  case isFalse=>simp at h
  rename_i hTS
  subst hTS
  simp only [av] at h
  obtain ⟨k,hk,h⟩:=h
  cases y with
  | t k'=>
    simp only [Od.slot,az] at hk; subst hk
    simp only [ag] at he
    rw [ag,he] at hr
    obtain ⟨b,cur,e,ob',h1,_⟩:=hr
    refine bK (run h1) (bN (e:=.ptr k' (eV f)) hC hK hd (aY.refl w) ⟨rfl,T0,oa,x0,b,he,?_,?_,?_⟩ h)
    ·rw [←lA hx a]; exact h1
    ·rw [hA]; rfl
    ·simp
  | c T x=>simp [Od.slot] at hk
  | nil e T=>simp [Od.slot] at hk
  | fn f A C=>simp [Od.slot] at hk
 ·exact absurd h (by simp)
theorem aAG {t e:TypeId} {T:Ty} (hu:P.underlying t=some (.slice e)) (hT:bW P e T) {b off m c:Nat} {k:IntKind} {q:Int} (h0:0≤q) (h1:q < (m:Int)):
  (Instr.indexAt t (.slice (some ⟨b,off,none⟩) m c) (.int k q)).run P w=.ok (.pointer (some ⟨b,off+q.toNat * aA T,none⟩)) w:=by
 simp [Instr.indexAt,run_underlying hu,asIntOf,h0,h1,oC hT,mc]
theorem aBh {t e:TypeId} {T:Ty} {x ix:Operand} {y iy:Od} (hC:ar P B G0 W0 n env a.tmps w ob) (hK:bU P B G0 W0 n a K r next) (hd:∀ k,o.dst=some k→bH W0 n k) (hdst:i.dst=o.dst)
  (ho:o.op=.indexAddr t x ix) (hi:i.op=.indexAddr T y iy) (hu:P.underlying t=some (.slice e)) (hT:bW P e T) (hx:aK x y=true) (hix:aK ix iy=true) (h:step cl i env K=some r):o.wp P a w next Q:=by
 unfold step at h; rw [hi] at h; simp only [hdst,av] at h
 obtain ⟨q,hq,h⟩:=h
 have hvi:=uw hC hix hq
 have hr:=gr hC hx
 have run:∀ {b off m c:Nat},a.eval x=.slice (some ⟨b,off,none⟩) m c→0≤q.2→q.2 < (m:Int)→(execOp a.eval o).run P w=.ok (.value (.pointer (some ⟨b,off+q.2.toNat * aA T,none⟩))) w:=by
  intro b off m c hv h0 h1
  simp [execOp,ho,hv,hvi.1,aAG (w:=w) hu hT h0 h1]
 have held:∀ {s:Nat} {p:Path} {h':jX} {v:Value},bC env s p=some h'→b7 w a.tmps env s p=some v→a.eval x=v→h'.T=T→0≤q.2→q.2 < (h'.xs.length:Int)→K (aX env o.dst (.dk s p q.2.toNat []))=some r→o.wp P a w next Q:=by
  intro s p h' v hh hv hev hTT h0 h1 hk
  obtain ⟨cells,b2,hrow,_,_⟩:=Cz hC hh hv
  rcases hrow.2 with ⟨_,hn⟩ | ⟨g,cap,cur,_,_,rfl,_⟩
  ·omega
  ·refine bK (run hev h0 h1) (bN (e:=.dk s p q.2.toNat []) hC hK hd (aY.refl w) ⟨rfl,h',g,_,cap,hh,hv,by omega,?_,?_⟩ hk)
   ·cases h'.T<;>rfl
   ·have:bu h'.T []=0:=by cases h'.T<;>rfl
    rw [this,hTT,Nat.zero_add,ff]
 split at h
 ·rename_i T' xs he
  simp only [av] at h
  obtain ⟨xs',hxs,h⟩:=h
  have:=dJ hxs
  rw [he] at hr
  cases this
  split at h
  case isFalse=>simp at h
  rename_i hb
  obtain ⟨_,vs,h1,h2⟩:=hr
  unfold Flat at h1
  obtain ⟨_,A,c,h3,h4,h5,h6⟩:=h1
  rcases h6 with h6 | ⟨b,off,cells,rfl,h7,h8⟩
  ·subst h6; exact absurd hb.2 (by simp; omega)
  ·subst h3
   obtain ⟨v1,v2,v3,c1,c2,c3,e1,e2,e3,e4,_⟩:=aU.split (fun x v b hx=>Flat.len P _ hx) q.2.toNat (zero T) h7 (by omega)
   have hnil:c2=[]:=by
    have:c1++c2++c3=[]:=e2.symm
    simp at this; exact this.2.1
   subst hnil
   refine bK (run h2 hb.1 hb.2) (bN (e:=.at T (xs'.getD q.2.toNat (zero T))) hC hK hd (aY.refl w) ⟨rfl,b,off+q.2.toNat * aA T,v2,rfl,e4,fun j u hj=>?_⟩ h)
   have hlt:=(lH.1 hj).1
   have:=h8 (v1.length+j) u (by
    rw [e1,bX,gI (by omega),il (by omega)]
    simpa using hj)
   rw [e3] at this
   rw [nB]
   exact ⟨this.1,.inr this.2⟩
 ·rename_i wr e' T' o' xs he
  split at h
  case isFalse=>simp at h
  rename_i hTT
  simp only [av] at h
  obtain ⟨s,hs,h⟩:=h
  split at h
  case isFalse=>simp at h
  rename_i hb
  cases y with
  | t k=>
    simp only [Od.slot,az] at hs; subst hs
    simp only [ag] at he
    exact held (s:=k) (p:=[]) (h':=⟨wr,e',T',o',xs⟩) (by simp [bC,he]) (by simp [b7,he]) (lA hx a) hTT hb.1 hb.2 h
  | c T x=>simp [Od.slot] at hs
  | nil e T=>simp [Od.slot] at hs
  | fn f A C=>simp [Od.slot] at hs
 ·rename_i s p he
  simp only [av] at h
  obtain ⟨hh,hhe,h⟩:=h
  split at h
  case isFalse=>simp at h
  rename_i hTT
  split at h
  case isFalse=>simp at h
  rename_i hb
  rw [he] at hr
  exact held hhe hr.2.1 rfl hTT hb.1 hb.2 h
 ·exact absurd h (by simp)
end
end Go.Fw
/- Soundness, part 11: lengths, elements, comparisons, several results, function literals. -/
namespace Go.Fw
open Go Go.RowKit
theorem aU.drop_take {α:Type} {R:α→List Value→OB→Prop} {n:Nat} (hl:∀ x v b,R x v b→v.length=n):∀ {xs:List α} {vs:List Value} (l m:Nat),aU R xs vs []→aU R ((xs.drop l).take m) ((vs.drop (l * n)).take (m * n)) []
 | [],vs,l,m,h=>by obtain ⟨rfl,_⟩:=h; simp; exact ⟨rfl,rfl⟩
 | x::xs,vs,0,0,h=>by simp; exact ⟨rfl,rfl⟩
 | x::xs,vs,0,m+1,h=>by
   obtain ⟨u1,u2,c1,c2,rfl,hc,hr,ht⟩:=h
   have hc':c1=[]∧c2=[]:=by simpa using hc.symm
   obtain ⟨rfl,rfl⟩:=hc'
   have ih:=aU.drop_take hl 0 m ht
   have hu:=hl _ _ _ hr
   simp only [Nat.zero_mul,SB,List.take_succ_cons] at ih ⊢
   have:(u1++u2).take ((m+1) * n)=u1++u2.take (m * n):=by
    rw [List.take_append,List.take_of_length_le (by rw [hu,ma]; omega),hu,ma]
    congr 2; omega
   rw [this]
   exact ⟨u1,_,[],[],rfl,rfl,hr,ih⟩
 | x::xs,vs,l+1,m,h=>by
   obtain ⟨u1,u2,c1,c2,rfl,hc,hr,ht⟩:=h
   have hc':c1=[]∧c2=[]:=by simpa using hc.symm
   obtain ⟨rfl,rfl⟩:=hc'
   have ih:=aU.drop_take hl l m ht
   have hu:=hl _ _ _ hr
   have:(u1++u2).drop ((l+1) * n)=u2.drop (l * n):=by
    rw [List.drop_append,List.drop_eq_nil_of_le (by rw [hu,ma]; omega),hu,ma]
    simp
   rw [this]
   exact ih
theorem dR.split {Rr:E→Value→OB→Prop}:∀ {es:List E} {vs:List Value} {ob:OB} {j:Nat} {e:E},dR Rr es vs ob→es[j]?=some e→
  ∃ v b1 b2 b3,vs[j]?=some v∧ob=b1++b2++b3∧Rr e v b2∧∀ e',Rr e' v []→dR Rr (es.set j e') vs (b1++b3)
 | [],_,_,_,_,_,h=>by simp at h
 | f::es,_,_,0,e,h,he=>by
   obtain ⟨v,r,b1,b2,rfl,rfl,h1,h2⟩:=h
   simp only [im,az] at he; subst he
   exact ⟨v,[],b1,b2,rfl,rfl,h1,fun e' h'=>⟨v,r,[],b2,rfl,rfl,h',h2⟩⟩
 | f::es,_,_,j+1,e,h,he=>by
   obtain ⟨v,r,b1,b2,rfl,rfl,h1,h2⟩:=h
   simp only [vI] at he
   obtain ⟨u,c1,c2,c3,k1,rfl,k3,k4⟩:=dR.split h2 he
   exact ⟨u,b1++c1,c2,c3,by simpa using k1,by simp,k3,fun e' h'=>⟨v,r,b1,c1++c3,rfl,by simp,h1,k4 e' h'⟩⟩
section
variable {P:Program} {B:Nat} {G0:Nat→Nat→Prop} {W0:dF} {n:Nat} {env:Env} {a:Act} {w:World} {ob:Nat→OB}
variable {R:Type} {K:dn R} {r:R} {next:Act→World→Prop} {Q:Exit→Act→World→Prop} {o:Oper} {i:AI} {cl:aH}
theorem aBm {t:TypeId} {x:Operand} {y:Od} (hC:ar P B G0 W0 n env a.tmps w ob) (hK:bU P B G0 W0 n a K r next) (hd:∀ k,o.dst=some k→bH W0 n k) (hdst:i.dst=o.dst)
  (ho:o.op=.call {callee:=.builtin .len,args:=#[x],argTypes:=#[t]}) (hi:i.op=.cd y) (ht:bW P t .str) (hx:aK x y=true) (h:step cl i env K=some r):o.wp P a w next Q:=by
 unfold step at h; rw [hi] at h; simp only [hdst,av] at h
 obtain ⟨s,hs,h⟩:=h
 have hv:=vu hC hx hs
 refine bK (v:=.int .i64 (s.length:Int)) (w':=w) ?_ (bN hC hK hd (aY.refl w) (lE _ _ (Rl hv.2)) h)
 have hsz:(⟨⟨s⟩⟩:ByteArray).size=s.length:=rfl
 simp [execOp,ho,resolve,invoke,builtin,Builtin.len_,run_underlying ht.str,hv.1,goInt,hsz]
theorem aBl {t e:TypeId} {x:Operand} {y:Od} (hC:ar P B G0 W0 n env a.tmps w ob) (hK:bU P B G0 W0 n a K r next) (hd:∀ k,o.dst=some k→bH W0 n k) (hdst:i.dst=o.dst)
  (ho:o.op=.call {callee:=.builtin .len,args:=#[x],argTypes:=#[t]}) (hi:i.op=.b4 y) (ht:P.underlying t=some (.slice e)) (hx:aK x y=true) (h:step cl i env K=some r):o.wp P a w next Q:=by
 unfold step at h; rw [hi] at h; simp only [hdst,av] at h
 obtain ⟨z,hz,h⟩:=h
 obtain ⟨vs,hv,hF⟩:=sD hC hx hz
 split at h
 ·rename_i T xs
  unfold Flat at hF
  obtain ⟨_,A,c,rfl,hc,hm,_⟩:=hF
  refine bK (v:=.int .i64 (xs.length:Int)) (w':=w) ?_ (bN hC hK hd (aY.refl w) (lE _ _ (Rl (gv hc hm))) h)
  rw [Dz] at hv
  simp [execOp,ho,resolve,invoke,builtin,Builtin.len_,run_underlying ht,hv,goInt]
 ·exact absurd h (by simp)
theorem aBk {t e:TypeId} {m:Nat} {x:Operand} (hC:ar P B G0 W0 n env a.tmps w ob) (hK:bU P B G0 W0 n a K r next) (hd:∀ k,o.dst=some k→bH W0 n k) (hdst:i.dst=o.dst)
  (ho:o.op=.call {callee:=.builtin .len,args:=#[x],argTypes:=#[t]}) (hi:i.op=.CM m) (ht:P.underlying t=some (.array m e)) (hm:m≤maxLen) (h:step cl i env K=some r):o.wp P a w next Q:=by
 unfold step at h; rw [hi] at h; simp only [hdst] at h
 refine bK (v:=.int .i64 (m:Int)) (w':=w) ?_ (bN hC hK hd (aY.refl w) (lE _ _ (Rl hm)) h)
 simp [execOp,ho,resolve,invoke,builtin,Builtin.len_,run_underlying ht,goInt]
theorem ahM {ts:Array TypeId} {mx:Bool} {x y:Operand} {x' y':Od} (hC:ar P B G0 W0 n env a.tmps w ob) (hK:bU P B G0 W0 n a K r next) (hd:∀ k,o.dst=some k→bH W0 n k) (hdst:i.dst=o.dst)
  (ho:o.op=.call {callee:=.builtin (if mx then .max else .min),args:=#[x,y],argTypes:=ts}) (hi:i.op=.mm mx x' y') (hx:aK x x'=true) (hy:aK y y'=true) (h:step cl i env K=some r):o.wp P a w next Q:=by
 unfold step at h; rw [hi] at h; simp only [hdst] at h
 split at h
 ·rename_i k m k' q hex hey
  split at h
  case isFalse=>simp at h
  rename_i hkk
  subst hkk
  have hvx:=mY hC hx hex
  have hvy:=mY hC hy hey
  cases mx with
  | true=>
    simp only [if_true] at h ho
    refine bK (v:=.int k (if q > m then q else m)) (w':=w) ?_ (bN hC hK hd (aY.refl w) (lE _ _ ?_) h)
    ·simp [execOp,ho,resolve,invoke,builtin,Builtin.max_,Builtin.max2,hvx.1,hvy.1]
    ·split
     ·exact hvy.2
     ·exact hvx.2
  | false=>
    simp only [bA,if_false] at h ho
    refine bK (v:=.int k (if q < m then q else m)) (w':=w) ?_ (bN hC hK hd (aY.refl w) (lE _ _ ?_) h)
    ·simp [execOp,ho,resolve,invoke,builtin,Builtin.min_,Builtin.min2,hvx.1,hvy.1]
    ·split
     ·exact hvy.2
     ·exact hvx.2
 ·exact absurd h (by simp)
theorem aBj {t:TypeId} {x ix:Operand} {y iy:Od} (hC:ar P B G0 W0 n env a.tmps w ob) (hK:bU P B G0 W0 n a K r next) (hd:∀ k,o.dst=some k→bH W0 n k) (hdst:i.dst=o.dst)
  (ho:o.op=.index t x ix) (hi:i.op=.du y iy) (ht:bW P t .str) (hx:aK x y=true) (hix:aK ix iy=true) (h:step cl i env K=some r):o.wp P a w next Q:=by
 unfold step at h; rw [hi] at h; simp only [hdst,av] at h
 obtain ⟨q,hq,s,hs,h⟩:=h
 split at h
 case isFalse=>simp at h
 rename_i hb
 have hvi:=uw hC hix hq
 have hv:=vu hC hx hs
 have hlt:q.2.toNat < s.length:=by omega
 have hget:(⟨⟨s⟩⟩:ByteArray)[q.2.toNat]?=some (s.getD q.2.toNat 0):=by
  have hsz:q.2.toNat < (⟨⟨s⟩⟩:ByteArray).size:=hlt
  rw [getElem?_pos (⟨⟨s⟩⟩:ByteArray) q.2.toNat hsz]
  congr 1
  rw [List.getD_eq_getElem?_getD,List.getElem?_eq_getElem hlt]
  rfl
 refine bK (v:=.int .u8 ((s.getD q.2.toNat 0).toNat:Int)) (w':=w) ?_ (bN hC hK hd (aY.refl w) (lE _ _ ?_) h)
 ·simp only [execOp,ho,Instr.index,hvi.1,hv.1,asIntOf,Sem.run_bind,Sem.run_pure,Result.andThen_ok,run_underlying ht.str,hb.1,if_true,hget]
 ·have:=(s.getD q.2.toNat 0).toNat_lt
  constructor
  ·show (0:Int)≤_; omega
  ·show _≤(255:Int); omega
theorem aBi {t e:TypeId} {m:Nat} {T:Ty} {x ix:Operand} {y iy:Od} (hC:ar P B G0 W0 n env a.tmps w ob) (hK:bU P B G0 W0 n a K r next) (hd:∀ k,o.dst=some k→bH W0 n k) (hdst:i.dst=o.dst)
  (ho:o.op=.indexAddr t x ix) (hi:i.op=.CE m T y iy) (hu:P.underlying t=some (.array m e)) (hT:bW P e T) (hx:aK x y=true) (hix:aK ix iy=true) (h:step cl i env K=some r):o.wp P a w next Q:=by
 unfold step at h; rw [hi] at h; simp only [hdst,av] at h
 obtain ⟨q,hq,h⟩:=h
 have hvi:=uw hC hix hq
 have hr:=gr hC hx
 have run:∀ {b off:Nat},a.eval x=.pointer (some ⟨b,off,none⟩)→0≤q.2→q.2 < (m:Int)→(execOp a.eval o).run P w=.ok (.value (.pointer (some ⟨b,off+q.2.toNat * aA T,none⟩))) w:=by
  intro b off hv h0 h1
  simp [execOp,ho,hv,hvi.1,Instr.indexAt,run_underlying hu,Instr.sureAddr,asIntOf,h0,h1,oC hT,mc]
 split at h
 ·rename_i T' xs he
  simp only [av] at h
  obtain ⟨xs',hxs,h⟩:=h
  have:=dJ hxs
  rw [he] at hr
  cases this
  split at h
  case isFalse=>simp at h
  rename_i hb
  obtain ⟨_,b,off,vs,h1,h2,h3⟩:=hr
  unfold Flat at h2
  obtain ⟨hlen,h2⟩:=h2
  obtain ⟨v1,v2,v3,c1,c2,c3,e1,e2,e3,e4,_⟩:=aU.split (fun x v b hx=>Flat.len P _ hx) q.2.toNat (zero T) h2 (by omega)
  have hnil:c2=[]:=by
   have:c1++c2++c3=[]:=e2.symm
   simp at this; exact this.2.1
  subst hnil
  refine bK (run h1 hb.1 hb.2) (bN (e:=.at T (xs'.getD q.2.toNat (zero T))) hC hK hd (aY.refl w) ⟨rfl,b,off+q.2.toNat * aA T,v2,rfl,e4,fun j u hj=>?_⟩ h)
  have hlt:=(lH.1 hj).1
  have:=h3 (v1.length+j) u (by
   rw [e1,bX,gI (by omega),il (by omega)]
   simpa using hj)
  rw [e3] at this
  rw [nB]
  exact this
 ·split at h
  ·rename_i s p hm
   split at h
   ·rename_i T0 oa x0 hs
    split at h
    case isFalse=>simp at h
    rename_i hsub
    split at h
    case isFalse=>simp at h
    rename_i hb
    obtain ⟨b,hb1,hb2⟩:=RO hC hx hm hs
    have hoff:=vc p [.ix q.2.toNat] T0 hsub
    have hO0:bu T []=0:=by cases T<;>rfl
    refine bK (run hb2 hb.1 hb.2) (bN (e:=.ptr s (p++[.ix q.2.toNat])) hC hK hd (aY.refl w) ⟨rfl,T0,oa,x0,b,hs,hb1,?_,?_⟩ h)
    ·rw [hoff.2]
     simp only [dw]
     rw [if_pos (by omega)]; rfl
    ·rw [hoff.1]
     simp only [bu,hO0,ff]
   ·exact absurd h (by simp)
  ·exact absurd h (by simp)
def jP:Option Operand→Option Od→Bool
 | none,none=>true
 | some u,some v=>aK u v
 | _,_=>false
theorem sN (hC:ar P B G0 W0 n env a.tmps w ob) {u:Option Operand} {v:Option Od} {z:Option Int} (hu:jP u v=true) (h:nh env v=some z):
  (u=none∧z=none)∨(∃ x k m,u=some x∧z=some m∧a.eval x=.int k m):=by
 cases u with
 | none=>
   cases v with
   | none=>simp only [nh,az] at h; exact .inl ⟨rfl,h.symm⟩
   | some v=>simp [jP] at hu
 | some u=>
   cases v with
   | none=>simp [jP] at hu
   | some v=>
     simp only [nh,av,az] at h
     obtain ⟨q,hq,rfl⟩:=h
     exact .inr ⟨u,q.1,q.2,rfl,rfl,(uw hC hu hq).1⟩
theorem aBB {t:TypeId} {x:Operand} {y:Od} {lo hi':Option Operand} {lo' hi'':Option Od} (hC:ar P B G0 W0 n env a.tmps w ob) (hK:bU P B G0 W0 n a K r next) (hd:∀ k,o.dst=some k→bH W0 n k) (hdst:i.dst=o.dst)
  (ho:o.op=.slice t x lo hi' none) (hi:i.op=.gF y lo' hi'') (ht:bW P t .str) (hx:aK x y=true) (hlo:jP lo lo'=true) (hhi:jP hi' hi''=true)
  (h:step cl i env K=some r):o.wp P a w next Q:=by
 unfold step at h; rw [hi] at h; simp only [hdst,av] at h
 obtain ⟨l,hl,m,hm,s,hs,h⟩:=h
 split at h
 case isFalse=>simp at h
 rename_i hb
 have hv:=vu hC hx hs
 have hres:(⟨⟨s⟩⟩:ByteArray).extract (l.getD 0).toNat (m.getD (s.length:Int)).toNat=⟨⟨(s.drop (l.getD 0).toNat).take ((m.getD (s.length:Int)).toNat - (l.getD 0).toNat)⟩⟩:=ByteArray.extract_mk s _ _
 refine bK (v:=.string ⟨⟨(s.drop (l.getD 0).toNat).take ((m.getD (s.length:Int)).toNat - (l.getD 0).toNat)⟩⟩) (w':=w) ?_ (bN hC hK hd (aY.refl w) (ah4 _ _ ?_) h)
 ·rw [←hres]
  have hsz:(⟨⟨s⟩⟩:ByteArray).size=s.length:=rfl
  rcases sN hC hlo hl with ⟨rfl,rfl⟩ | ⟨u,ku,zu,rfl,rfl,hu⟩<;>rcases sN hC hhi hm with ⟨rfl,rfl⟩ | ⟨v,kv,zv,rfl,rfl,hvv⟩<;>simp only [Option.getD_some,Option.getD_none] at hb
  ·have hfull:(⟨⟨s⟩⟩:ByteArray).extract 0 s.length=⟨⟨s⟩⟩:=by
    have:=ByteArray.extract_mk s 0 s.length
    rw [SB,Nat.sub_zero,List.take_length] at this
    exact this
   simp [execOp,ho,hv.1,Instr.sliceAt,Instr.slice,run_underlying ht.str,Instr.sliceBounds,hsz,hfull]
  ·have hb2:zv≤((⟨⟨s⟩⟩:ByteArray).size:Int):=by rw [hsz]; exact hb.2.2
   simp [execOp,ho,hv.1,Instr.sliceAt,Instr.slice,run_underlying ht.str,Instr.sliceBounds,hvv,run_sliceBound w kv zv _ .sliceAlen hb.2.1 hb2]
  ·simp [execOp,ho,hv.1,Instr.sliceAt,Instr.slice,run_underlying ht.str,Instr.sliceBounds,hu,run_sliceBound w ku zu s.length .sliceB hb.1 hb.2.1,hsz]
  ·have hb2:zv≤((⟨⟨s⟩⟩:ByteArray).size:Int):=by rw [hsz]; exact hb.2.2
   have hb3:zu≤((zv.toNat:Nat):Int):=by omega
   simp [execOp,ho,hv.1,Instr.sliceAt,Instr.slice,run_underlying ht.str,Instr.sliceBounds,hvv,hu,run_sliceBound w kv zv _ .sliceAlen (by omega) hb2,run_sliceBound w ku zu _ .sliceB hb.1 hb3]
 ·have h2:((s.drop (l.getD 0).toNat).take ((m.getD (s.length:Int)).toNat - (l.getD 0).toNat)).length≤s.length:=by
   rw [List.length_take,List.length_drop]; omega
  have:=hv.2
  omega
end
end Go.Fw
