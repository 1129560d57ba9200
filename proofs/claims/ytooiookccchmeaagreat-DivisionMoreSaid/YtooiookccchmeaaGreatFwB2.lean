/- Own work: the value machine, part 2. -/
import Derived.Test.YtooiookccchmeaaGreatFwB1
set_option linter.unusedVariables false
set_option linter.unusedSimpArgs false
open Array renaming size_setIfInBounds → rb, getElem?_toList → jd
open Bool renaming and_eq_true → au, false_eq_true → eo
open Int renaming le_of_lt → LJ
open List renaming map_congr_left → DO, mem_cons → cS, mem_singleton → gX, any_eq_true → ug, mem_append_left → gp, mem_append_right → iK, mem_map → dd, getElem?_cons_zero → iI, getElem?_cons_succ → ui, length_eq_one_iff → oR, mem_append → dD, eq_nil_of_length_eq_zero → lh, getElem?_eq_some_iff → kc, getElem?_append_left → fW, getElem?_append_right → eU, append_assoc → bO, drop_zero → LQ
open List.cons renaming injEq → gC
open Nat renaming le_refl → cE, le_trans → ep, lt_of_lt_of_le → dK, add_zero → kL, add_assoc → ll, succ_mul → ln
open Ne renaming symm → bu
open Option renaming bind_eq_some_iff → aq
open Option.some renaming injEq → aw
open Prod.mk renaming injEq → eN
/- Soundness, part 3: how a state of the machine goes on to hold. -/
namespace Go.Fw
open Go Go.RowKit
theorem aP (j:Nat) (e:E) (env:Env) (k:Nat):look ((j,e)::env) k=if j=k then e else look env k:=by
 simp only [look]
 cases hd:Nat.decEq j k with
 | isTrue h=>rw [if_pos h]
 | isFalse h=>rw [if_neg h]
theorem Db (f:E→E) (hf:f .dead=.dead):∀ (env:Env) (k:Nat),look (env.map fun q=>(q.1,f q.2)) k=f (look env k)
 | [],k=>hf.symm
 | (j,e)::r,k=>by
   rw [List.map_cons,aP,aP,Db f hf r k]
   split<;>rfl
theorem oA (s:Nat) (env:Env) (k:Nat):look (kill s env) k=if leads s (look env k) then .dead else look env k:=by
 have:kill s env=env.map fun q=>(q.1,if leads s q.2 then E.dead else q.2):=by
  unfold kill
  apply DO
  intro q _
  split<;>rfl
 rw [this,Db (fun e=>if leads s e then E.dead else e) (by simp)]
def jE (s d:Nat):E→E
 | .ref k p=>if k==s then .ref d p else .ref k p
 | .cT k p i r=>if k==s then .cT d p i r else .cT k p i r
 | .cP f A C caps=>if leads s (.cP f A C caps) then .dead else .cP f A C caps
 | .dead=>.dead
 | .bJ=>.bJ
 | .v T x=>.v T x
 | .own wr e T o xs=>.own wr e T o xs
 | .loc T o x=>.loc T o x
 | .ptr k p=>.ptr k p
 | .at T x=>.at T x
 | .cI es=>.cI es
 | .it s p=>.it s p
 | .sb t e s=>.sb t e s
 | .nw T o x=>.nw T o x
 | .nm T o x=>.nm T o x
theorem aeX (s d:Nat) (env:Env) (k:Nat):look (tG s d env) k=jE s d (look env k):=by
 have:tG s d env=env.map fun q=>(q.1,jE s d q.2):=by
  unfold tG
  apply DO
  intro q _
  obtain ⟨j,e⟩:=q
  cases e<;>simp only [jE]<;>split<;>rfl
 rw [this,Db (jE s d) rfl]
theorem Vx (f:E→E):∀ (live:List Nat) (env:Env) (k:Nat),look (live.map fun k=>(k,f (look env k))) k=if k∈live then f (look env k) else .dead
 | [],env,k=>by simp [look]
 | j::live,env,k=>by
   have ih:=Vx f live env k
   rw [List.map_cons,aP,ih]
   by_cases h:j=k
   ·subst h; simp
   ·rw [if_neg h]
    simp only [cS]
    by_cases h':k∈live
    ·simp [h']
    ·have:k≠j:=fun e=>h e.symm
     simp [h',this]
theorem Vw (live:List Nat) (env:Env) (k:Nat):look (aj live env) k=if k∈live then qq live (look env k) else .dead:=Vx (qq live) live env k
theorem aep {s:Nat} {e:E} (h:leads s e=true):s∈qF e:=by
 cases e<;>simp only [leads] at h<;>first | (exfalso; simp at h; done) | skip
 ·simp only [qF,tA,gX]; simpa using (beq_iff_eq.1 h).symm
 ·simp only [qF,tA,gX]; simpa using (beq_iff_eq.1 h).symm
 ·simp only [qF,tA,gX]; simpa using (beq_iff_eq.1 h).symm
 ·rename_i f A C caps
  simp only [ug] at h
  obtain ⟨c,hc,h⟩:=h
  simp only [qF,List.mem_flatMap]
  refine ⟨c,hc,?_⟩
  cases c<;>simp only [tA,gX] at h ⊢<;>first | (exact (beq_iff_eq.1 h).symm) | (exfalso; simp at h; done)
theorem Uj (live:List Nat) (e:E):(qq live e=e∧∀ s,leads s e=true→s∈live)∨qq live e=.dead:=by
 unfold qq
 split
 ·rename_i h
  refine .inl ⟨rfl,fun s hs=>?_⟩
  have:=List.all_eq_true.1 h s (aep hs)
  obtain ⟨k,hk,h2⟩:=ug.1 this
  rw [beq_iff_eq] at h2; subst h2; exact hk
 ·exact .inr rfl
theorem iZ (env:Env) (k:Nat) (e:E) (j:Nat):look (put env k e) j=if k=j then (if leads k e then .dead else e) else if (look env k).home=true∧leads k (look env j)=true then .dead else look env j:=by
 unfold put
 rw [aP]
 split
 ·rfl
 ·split
  ·rename_i hh
   rw [oA]
   by_cases hl:leads k (look env j)=true
   ·simp [hl,hh]
   ·simp [hl]
  ·rename_i hh
   simp [hh]
theorem qE {s:Nat} {e:E} (h:e.home=true):leads s e=false:=by cases e<;>simp_all [E.home,leads]
theorem Ku:∀ (q:Path) (T0:Ty) {x:den T0} {U:Ty} {y:den U},cC q=false→aH T0 q x=some ⟨U,y⟩→∀ x1:den T0,∃ y':den U,aH T0 q x1=some ⟨U,y'⟩
 | [],T0,x,U,y,_,h,x1=>by
   simp only [aH,aw] at h
   have:=(Sigma.mk.inj h).1
   subst this
   exact ⟨x1,by cases T0<;>rfl⟩
 | .l::q,T0,x,U,y,hx,h,x1=>by
   cases T0 with
   | pair A C=>simp only [aH] at h ⊢; exact Ku q A (by simpa [cC] using hx) h x1.1
   | _=>simp [aH] at h
 | .r::q,T0,x,U,y,hx,h,x1=>by
   cases T0 with
   | pair A C=>simp only [aH] at h ⊢; exact Ku q C (by simpa [cC] using hx) h x1.2
   | _=>simp [aH] at h
 | .ix _::_,_,_,_,_,hx,_,_=>by simp [cC] at hx
theorem zX:∀ (q:Path) (o:ax),cd o q=.mp→cC q=false
 | [],_,_=>rfl
 | .l::q,o,h=>by simp only [cC]; exact zX q o.l h
 | .r::q,o,h=>by simp only [cC]; exact zX q o.r h
 | .ix _::_,_,h=>by simp [cd] at h
theorem VD {env env':Env} {s:Nat} {p:Path} {T:Ty} {o:ax} {x x1:den T} (hs:look env s=.loc T o x) (hs':look env' s=.loc T o x1) (h:eP env s p=true):eP env' s p=true:=by
 simp only [eP,hs] at h
 simp only [eP,hs']
 split at h
 ·rename_i K V xs ha hg
  obtain ⟨y',hy⟩:=Ku p T (zX p o ha) hg x1
  rw [ha,hy]
 ·simp at h
def eL (w:World) (tm:Array Value) (env:Env) (w':World) (tm':Array Value) (env':Env) (s:Nat):Prop:=
 (∀ p v,(bc env s p).isSome=true→bj w tm env s p=some v→bj w' tm' env' s p=some v)∧
 (∀ p h,bc env s p=some h→∃ h',bc env' s p=some h'∧h'.T=h.T∧h'.xs.length=h.xs.length)∧
 (∀ T o x,look env s=.loc T o x→∃ o' x',look env' s=.loc T o' x'∧tm'.getD s undef=tm.getD s undef)∧
 (∀ p v,eP env s p=true→bj w tm env s p=some v→eP env' s p=true∧bj w' tm' env' s p=some v)
theorem Ky {env env':Env} {s:Nat} (h:look env' s=look env s) (p:Path):bc env' s p=bc env s p:=by simp [bc,h]
theorem eL.same {P:Program} {w w':World} {G:Nat→Nat→Prop} {B:Nat} {tm tm':Array Value} {env env':Env} {s:Nat} {ob:OB}
  (hl:look env' s=look env s) (ht:tm'.getD s undef=tm.getD s undef) (hr:bn P w G B tm env (look env s) (tm.getD s undef) ob) (hO:∀ g∈blocks ob,w'.heap[g]?=w.heap[g]?):
  eL w tm env w' tm' env' s:=by
 have key:∀ p v,bj w tm env s p=some v→bj w' tm' env' s p=some v:=by
  intro p v hv
  unfold bj at hv ⊢
  rw [hl,ht]
  cases he:look env s with
  | own wr e T o xs=>rw [he] at hv; exact hv
  | loc T o x=>
    rw [he] at hv hr
    obtain ⟨b,cur,e,ob',hp,_,hb,_,rfl⟩:=hr
    simp only [hp] at hv ⊢
    rw [World.cell?_of_block (w:=w) (hO b (by simp))]
    exact hv
  | dead=>simp [he] at hv
  | bJ=>simp [he] at hv
  | v=>simp [he] at hv
  | ref=>simp [he] at hv
  | ptr=>simp [he] at hv
  | cT=>simp [he] at hv
  | «at»=>simp [he] at hv
  | cI=>simp [he] at hv
  | cP=>simp [he] at hv
  | it=>simp [he] at hv
  | sb=>simp [he] at hv
  | nw=>simp [he] at hv
  | nm=>simp [he] at hv
 exact ⟨fun p v _ hv=>key p v hv,fun p h hh=>⟨h,by rw [Ky hl]; exact hh,rfl,rfl⟩,fun T o x hx=>⟨o,x,by rw [hl]; exact hx,ht⟩,fun p v hm hv=>⟨by unfold eP at hm ⊢; rw [hl]; exact hm,key p v hv⟩⟩
theorem Q1 {B:Nat} {w w':World} (hL:bV B w w') {b i:Nat} (h:b < B):w'.cell? ⟨b,i,none⟩=w.cell? ⟨b,i,none⟩:=World.cell?_of_block (w:=w) (hL.2 b h)
theorem jR.aj {w w':World} {B:Nat} {t e:TypeId} {s:List UInt8} {v:Value} {ob:OB} (hO:∀ g∈blocks ob,w'.heap[g]?=w.heap[g]?) (h:jR w B t e s v ob):jR w' B t e s v ob:=by
 obtain ⟨b,p,u,h1,h2,h3,h4,h5,h6,rfl⟩:=h
 refine ⟨b,p,u,h1,h2,by rw [hO b (by simp)]; exact h3,h4,⟨h5.1,h5.2.imp id fun k=>?_⟩,h6,rfl⟩
 obtain ⟨g,cap,cur,k1,k2,k3,k4⟩:=k
 exact ⟨g,cap,cur,k1,k2,by rw [hO g (by subst k1; simp [bN,Value.ownBlock])]; exact k3,k4⟩
theorem cD.aj {P:Program} {w w':World} {G G':Nat→Nat→Prop} {B:Nat} {tm tm':Array Value} {env env':Env} {e:E} {v:Value} {ob:OB}
  (hG:∀ b i,b < w.heap.size→G b i→G' b i∧w'.cell? ⟨b,i,none⟩=w.cell? ⟨b,i,none⟩) (hL:bV B w w') (hO:∀ g∈blocks ob,w'.heap[g]?=w.heap[g]?)
  (hH:∀ s,leads s e=true→eL w tm env w' tm' env' s) (h:cD P w G B tm env e v ob):cD P w' G' B tm' env' e v ob:=by
 cases e with
 | dead=>exact h
 | bJ=>exact h
 | v T x=>obtain ⟨h0,vs,h1,h2⟩:=h; exact ⟨h0,vs,Flat.mono P T hG hL (by simp) h1,h2⟩
 | own wr e T o xs=>exact Flat.mono P (.sl T) hG hL hO h
 | loc T o x=>
   obtain ⟨b,cur,e,ob',h1,h2,h3,h4,rfl⟩:=h
   exact ⟨b,cur,e,ob',h1,h2,by rw [hO b (by simp)]; exact h3,Flat.mono P T hG hL (fun g hg=>hO g (by simp [hg])) h4,rfl⟩
 | ref s p=>
   obtain ⟨h0,h1,h2⟩:=h
   have hs:=hH s (by simp [leads])
   rcases h2 with h2 | h2
   ·obtain ⟨q,hq⟩:=Option.isSome_iff_exists.1 h2
    obtain ⟨q',hq',_⟩:=hs.2.1 p q hq
    exact ⟨h0,hs.1 p v h2 h1,.inl (by rw [hq']; rfl)⟩
   ·exact ⟨h0,(hs.2.2.2 p v h2 h1).2,.inr (hs.2.2.2 p v h2 h1).1⟩
 | ptr s p=>
   obtain ⟨h0,T,o,x,b,h1,h2,h3,h4⟩:=h
   have hs:=hH s (by simp [leads])
   obtain ⟨o',x',h5,h6⟩:=hs.2.2.1 T o x h1
   exact ⟨h0,T,o',x',b,h5,by rw [h6]; exact h2,h3,h4⟩
 | cT s p i q=>
   obtain ⟨h0,hh,g,n,c,h1,h2,h3,h4,h5⟩:=h
   have hs:=hH s (by simp [leads])
   obtain ⟨h',h6,h7,h8⟩:=hs.2.1 p hh h1
   exact ⟨h0,h',g,n,c,h6,hs.1 p _ (by rw [h1]; rfl) h2,by rw [h8]; exact h3,by rw [h7]; exact h4,by rw [h7]; exact h5⟩
 | «at» T x=>
   obtain ⟨h0,b,off,vs,h1,h2,h3⟩:=h
   refine ⟨h0,b,off,vs,h1,Flat.mono P T hG hL (by simp) h2,fun j u hj=>?_⟩
   obtain ⟨h4,h5⟩:=h3 j u hj
   rcases h5 with h5 | h5
   ·exact ⟨(Q1 hL h5).trans h4,.inl h5⟩
   ·have hlt:b < w.heap.size:=World.block_lt_of_cell? w _ h4
    have:=hG b (off+j) hlt h5
    exact ⟨this.2.trans h4,.inr this.1⟩
 | cI=>exact h.elim
 | cP=>exact h.elim
 | nw T o x=>obtain ⟨h0,vs,h1,h2⟩:=h; exact ⟨h0,vs,Flat.mono P T hG hL (by simp) h1,h2⟩
 | nm T o x=>obtain ⟨vs,h1,h2⟩:=h; exact ⟨vs,Flat.mono P T hG hL hO h1,h2⟩
 | it s pos=>
   obtain ⟨b,h1,h2,h3,h4,rfl⟩:=h
   exact ⟨b,h1,h2,by rw [hO b (by simp)]; exact h3,h4,rfl⟩
 | sb t e s=>exact ⟨jR.aj hO h.1,h.2⟩
theorem dX.imp {R S:E→Value→OB→Prop}:∀ {es:List E} {vs:List Value} {ob:OB},(∀ e∈es,∀ v b,(∀ q∈b,q∈ob)→R e v b→S e v b)→dX R es vs ob→dX S es vs ob
 | [],_,_,_,h=>h
 | e::es,_,_,f,h=>by
   obtain ⟨v,r,b1,b2,rfl,rfl,h1,h2⟩:=h
   exact ⟨v,r,b1,b2,rfl,rfl,f e (List.mem_cons_self ..) v b1 (fun q hq=>gp _ hq) h1,dX.imp (fun e he v b hb=>f e (List.mem_cons_of_mem _ he) v b fun q hq=>iK _ (hb q hq)) h2⟩
theorem bn.aj {P:Program} {w w':World} {G G':Nat→Nat→Prop} {B:Nat} {tm tm':Array Value} {env env':Env} {e:E} {v:Value} {ob:OB}
  (hG:∀ b i,b < w.heap.size→G b i→G' b i∧w'.cell? ⟨b,i,none⟩=w.cell? ⟨b,i,none⟩) (hL:bV B w w') (hO:∀ g∈blocks ob,w'.heap[g]?=w.heap[g]?)
  (hH:∀ s,leads s e=true→eL w tm env w' tm' env' s) (h:bn P w G B tm env e v ob):bn P w' G' B tm' env' e v ob:=by
 cases e with
 | cI es=>
   obtain ⟨h0,vs,h1,h2⟩:=h
   refine ⟨h0,vs,h1,dX.imp (fun e he v b hb hr=>cD.aj hG hL (fun g hg=>?_) (fun s hs=>?_) hr) h2⟩
   ·obtain ⟨q,hq,rfl⟩:=dd.1 hg
    exact hO _ (dd.2 ⟨q,hb q hq,rfl⟩)
   ·rw [h0 e he s] at hs; exact absurd hs (by simp)
 | cP f A C caps=>
   obtain ⟨h0,cv,h1,h2⟩:=h
   refine ⟨h0,cv,h1,dX.imp (fun e he v b hb hr=>cD.aj hG hL (fun g hg=>?_) (fun s hs=>?_) hr) h2⟩
   ·obtain ⟨q,hq,rfl⟩:=dd.1 hg
    exact absurd (hb q hq) (by simp)
   ·refine hH s ?_
    simp only [leads,ug]
    refine ⟨e,he,?_⟩
    cases e<;>simp only [leads] at hs ⊢<;>first | exact hs | exact (hr:False).elim | exact absurd hs (by simp)
 | dead=>exact h
 | bJ=>exact h
 | v T x=>exact cD.aj (P:=P) (e:=.v T x) hG hL hO hH h
 | own wr e T o xs=>exact cD.aj (P:=P) (e:=.own wr e T o xs) hG hL hO hH h
 | loc T o x=>exact cD.aj (P:=P) (e:=.loc T o x) hG hL hO hH h
 | ref s p=>exact cD.aj (P:=P) (e:=.ref s p) hG hL hO hH h
 | ptr s p=>exact cD.aj (P:=P) (e:=.ptr s p) hG hL hO hH h
 | cT s p i q=>exact cD.aj (P:=P) (e:=.cT s p i q) hG hL hO hH h
 | «at» T x=>exact cD.aj (P:=P) (e:=.at T x) hG hL hO hH h
 | it s pos=>exact cD.aj (P:=P) (e:=.it s pos) hG hL hO hH h
 | sb t e s=>exact cD.aj (P:=P) (e:=.sb t e s) hG hL hO hH h
 | nw T o x=>exact cD.aj (P:=P) (e:=.nw T o x) hG hL hO hH h
 | nm T o x=>exact cD.aj (P:=P) (e:=.nm T o x) hG hL hO hH h
theorem bn.leads {P:Program} {w:World} {G:Nat→Nat→Prop} {B:Nat} {tm:Array Value} {env:Env} {e:E} {v:Value} {ob:OB} {s:Nat}
  (hs:leads s e=true) (h:bn P w G B tm env e v ob):(look env s).home=true∧ob=[]:=by
 have key:∀ {e:E} {v:Value} {ob:OB},Fw.leads s e=true→cD P w G B tm env e v ob→(look env s).home=true∧ob=[]:=by
  intro e v ob hs h
  cases e<;>simp only [Fw.leads] at hs<;>first | exact (h:False).elim | (exfalso; simp at hs; done) | skip
  ·simp only [beq_iff_eq] at hs; subst hs
   obtain ⟨h0,h1,_⟩:=h
   refine ⟨?_,h0⟩
   unfold bj at h1
   split at h1<;>first | (rename_i hq; rw [hq]; rfl) | exact absurd h1 (by simp)
  ·simp only [beq_iff_eq] at hs; subst hs
   obtain ⟨h0,T,o,x,b,h1,_⟩:=h
   exact ⟨by rw [h1]; rfl,h0⟩
  ·simp only [beq_iff_eq] at hs; subst hs
   obtain ⟨h0,hh,g,n,c,_,h2,_⟩:=h
   refine ⟨?_,h0⟩
   unfold bj at h2
   split at h2<;>first | (rename_i hq; rw [hq]; rfl) | exact absurd h2 (by simp)
 cases e with
 | cI=>exact absurd hs (by simp [Fw.leads])
 | cP f A C caps=>
   obtain ⟨h0,cv,h1,h2⟩:=h
   refine ⟨?_,h0⟩
   simp only [Fw.leads,ug] at hs
   obtain ⟨c,hc,hs⟩:=hs
   have find:∀ {es:List E} {vs:List Value} {ob:OB},dX (cD P w G B tm env) es vs ob→∀ c∈es,∃ v b,cD P w G B tm env c v b:=by
    intro es
    induction es with
    | nil=>intro vs ob _ c hc; exact absurd hc (by simp)
    | cons e es ih=>
      rintro vs ob ⟨v,r,b1,b2,rfl,rfl,h1,h2⟩ c hc
      rcases cS.1 hc with rfl | hc
      ·exact ⟨v,b1,h1⟩
      ·exact ih h2 c hc
   obtain ⟨v',b',hr⟩:=find h2 c hc
   refine (key (e:=c) ?_ hr).1
   cases c<;>simp only [Fw.leads] at hs ⊢<;>first | exact hs | exact (hr:False).elim | exact absurd hs (by simp)
 | dead=>exact absurd hs (by simp [Fw.leads])
 | bJ=>exact absurd hs (by simp [Fw.leads])
 | v=>exact absurd hs (by simp [Fw.leads])
 | own=>exact absurd hs (by simp [Fw.leads])
 | loc=>exact absurd hs (by simp [Fw.leads])
 | ref s p=>exact key (e:=.ref s p) hs h
 | ptr s p=>exact key (e:=.ptr s p) hs h
 | cT s p i q=>exact key (e:=.cT s p i q) hs h
 | «at»=>exact absurd hs (by simp [Fw.leads])
 | it=>exact absurd hs (by simp [Fw.leads])
 | sb=>exact absurd hs (by simp [Fw.leads])
 | nw=>exact absurd hs (by simp [Fw.leads])
 | nm=>exact absurd hs (by simp [Fw.leads])
section
variable {P:Program} {B:Nat} {G0:Nat→Nat→Prop} {W0:dc} {n:Nat} {env env':Env} {tm tm':Array Value} {w w':World} {ob ob':Nat→OB}
structure aO (w w':World):Prop where
 os:w'.os=w.os
 tape:w'.tape=w.tape
 output:w'.output=w.output
 size:w.heap.size≤w'.heap.size
 block:∀ k,k < w.heap.size→w'.heap[k]?=w.heap[k]?
 drawn:w.drawn≤w'.drawn
theorem aO.refl (w:World):aO w w:=⟨rfl,rfl,rfl,cE _,fun _ _=>rfl,cE _⟩
theorem aO.alloc (w:World) (o:Obj):aO w (w.alloc o):=⟨rfl,rfl,rfl,by simp,fun i hi=>heap_alloc_old w o hi,cE _⟩
theorem aO.drew (w:World):aO w w.drew:=⟨rfl,rfl,rfl,cE _,fun _ _=>rfl,Nat.le_succ _⟩
theorem aO.trans {a b c:World} (h:aO a b) (q:aO b c):aO a c:=
 ⟨q.os.trans h.os,q.tape.trans h.tape,q.output.trans h.output,ep h.size q.size,fun i hi=>(q.block i (dK hi h.size)).trans (h.block i hi),ep h.drawn q.drawn⟩
theorem aO.below {w w':World} (h:aO w w') {B:Nat} (hB:B≤w.heap.size):Below B w w':=⟨h.os,h.tape,h.output,h.size,fun k hk=>h.block k (dK hk hB),h.drawn⟩
theorem aO.cell {w w':World} (h:aO w w') {b i:Nat} (hb:b < w.heap.size):w'.cell? ⟨b,i,none⟩=w.cell? ⟨b,i,none⟩:=World.cell?_of_block (w:=w) (h.block b hb)
structure Steps (ob ob':Nat→OB) (w w':World):Prop where
 from_:∀ k b,b∈blocks (ob' k)→(∃ j,b∈blocks (ob j))∨w.heap.size≤b
 rest:∀ b,b < w.heap.size→(∀ k,b∉blocks (ob k))→w'.heap[b]?=w.heap[b]?
theorem Steps.grow {ob ob':Nat→OB} {w w':World} (hg:aO w w') (h:∀ k b,b∈blocks (ob' k)→(∃ j,b∈blocks (ob j))∨w.heap.size≤b):Steps ob ob' w w':=⟨h,fun b hb _=>hg.block b hb⟩
theorem Steps.less {ob ob':Nat→OB} {w w':World} (hg:aO w w') (h:∀ k b,b∈blocks (ob' k)→∃ j,b∈blocks (ob j)):Steps ob ob' w w':=.grow hg fun k b hb=>.inl (h k b hb)
theorem ah.step (hC:ah P B G0 W0 n env tm w ob) (hst:Steps ob ob' w w') (hbel:Below B w w')
  (hG:∀ b i,b < w.heap.size→Gd B G0 ob b i→Gd B G0 ob' b i∧w'.cell? ⟨b,i,none⟩=w.cell? ⟨b,i,none⟩)
  (hrep:∀ k,(look env' k=look env k∧tm'.getD k undef=tm.getD k undef∧ob' k=ob k∧(∀ g∈blocks (ob k),w'.heap[g]?=w.heap[g]?)∧
    (∀ s,leads s (look env k)=true→eL w tm env w' tm' env' s))∨
   bn P w' (Gd B G0 ob') B tm' env' (look env' k) (tm'.getD k undef) (ob' k))
  (hdist:∀ j k b,b∈blocks (ob' j)→b∈blocks (ob' k)→j=k) (hnodup:∀ k,(blocks (ob' k)).Nodup)
  (hlow:∀ k b,b∈blocks (ob' k)→B≤b∧b < w'.heap.size) (hsize:tm'.size=n) (hpin:∀ v,W0.pin=some v→tm'.getD 0 undef=tm.getD 0 undef):ah P B G0 W0 n env' tm' w' ob' where
 rep k:=by
  rcases hrep k with ⟨h1,h2,h3,h4,h5⟩ | h
  ·rw [h1,h2,h3]
   exact bn.aj hG ⟨hbel.size,hbel.block⟩ h4 h5 (hC.rep k)
  ·exact h
 dist:=hdist
 nodup:=hnodup
 low:=hlow
 below:=hC.below.trans hbel
 prot k b hb hx:=by
  rcases hst.from_ k b hb with ⟨j,h⟩ | h
  ·exact hC.prot j b h hx
  ·have:=hC.oldx b hx; omega
 same b hx:=(hst.rest b (hC.oldx b hx) fun k h=>hC.prot k b h hx).trans (hC.same b hx)
 oldx b hx:=dK (hC.oldx b hx) hbel.size
 free:=hC.free
 base:=ep hC.base hbel.size
 size:=hsize
 pinned v h:=(hpin v h).trans (hC.pinned v h)
 kept b i h:=by
  obtain ⟨h1,h2,h3⟩:=hC.kept b i h
  obtain ⟨h4,h5⟩:=hG b i h1 h2
  exact ⟨dK h1 hbel.size,h4,h5.trans h3⟩
 tab:=hC.tab
def fh (ob:Nat→OB) (k:Nat) (b:OB):Nat→OB:=fun j=>if j=k then b else ob j
theorem eJ (ob:Nat→OB) (k:Nat) (b:OB):fh ob k b k=b:=by simp [fh]
theorem eb (ob:Nat→OB) {k j:Nat} (b:OB) (h:j≠k):fh ob k b j=ob j:=by simp [fh,h]
theorem nk (tm:Array Value) (k:Nat) (v:Value) (h:k < tm.size):(tm.setIfInBounds k v).getD k undef=v:=by
 simp [Array.getD,h]
theorem gU (tm:Array Value) {k j:Nat} (v:Value) (h:j≠k):(tm.setIfInBounds k v).getD j undef=tm.getD j undef:=by
 have:(tm.setIfInBounds k v)[j]?=tm[j]?:=Array.getElem?_setIfInBounds_ne (bu h)
 simp only [Array.getD_eq_getD_getElem?,this]
theorem bl.aj {W0:dc} {n k:Nat} (hk:bl W0 n k) {v:Value} (h:W0.pin=some v) (tm:Array Value) (u:Value):(tm.setIfInBounds k u).getD 0 undef=tm.getD 0 undef:=
 gU tm u (bu (hk.2.resolve_left (by rw [h]; simp)))
theorem ah.put (hC:ah P B G0 W0 n env tm w ob) {k:Nat} {e:E} {v:Value} {bk:OB} (hk:bl W0 n k) (hfr:∀ b,b∈blocks bk→(∃ j,b∈blocks (ob j))∨w.heap.size≤b) (hrs:∀ b,b < w.heap.size→(∀ k,b∉blocks (ob k))→w'.heap[b]?=w.heap[b]?) (hbel:Below B w w')
  (hO:∀ j,j≠k→∀ g∈blocks (ob j),w'.heap[g]?=w.heap[g]?)
  (hG:∀ b i,b < w.heap.size→Gd B G0 ob b i→Gd B G0 (fh ob k bk) b i∧w'.cell? ⟨b,i,none⟩=w.cell? ⟨b,i,none⟩)
  (hnew:bn P w' (Gd B G0 (fh ob k bk)) B (tm.setIfInBounds k v) (Fw.put env k e) (if leads k e then .dead else e) v bk)
  (hdist:∀ j b,j≠k→b∈blocks (ob j)→b∉blocks bk) (hnodup:(blocks bk).Nodup) (hlow:∀ b,b∈blocks bk→B≤b∧b < w'.heap.size):
  ah P B G0 W0 n (Fw.put env k e) (tm.setIfInBounds k v) w' (fh ob k bk):=by
 have hkt:k < tm.size:=by rw [hC.size]; exact hk.1
 refine ah.step hC ⟨fun j b hb=>?_,hrs⟩ hbel hG (fun j=>?_) ?_ ?_ ?_ (by rw [rb]; exact hC.size) (fun _ h=>hk.aj h _ _)
 ·by_cases hj:j=k
  ·subst hj; rw [eJ] at hb; exact hfr b hb
  ·rw [eb _ _ hj] at hb; exact .inl ⟨j,hb⟩
 ·by_cases hj:j=k
  ·subst hj
   right
   rw [iZ,if_pos rfl,nk _ _ _ hkt,eJ]
   exact hnew
  ·rw [iZ,if_neg (bu hj),gU _ _ hj,eb _ _ hj]
   by_cases hd:(look env k).home=true∧leads k (look env j)=true
   ·right
    rw [if_pos hd]
    exact (bn.leads hd.2 (hC.rep j)).2
   ·left
    rw [if_neg hd]
    refine ⟨rfl,rfl,rfl,hO j hj,fun s hs=>?_⟩
    have hs2:=bn.leads hs (hC.rep j)
    have hsk:s≠k:=by rintro rfl; exact hd ⟨hs2.1,hs⟩
    refine eL.same (P:=P) ?_ (gU _ _ hsk) (hC.rep s) (hO s hsk)
    rw [iZ,if_neg (bu hsk),qE hs2.1]
    simp
 ·intro i j b hi hj
  by_cases h1:i=k
  ·by_cases h2:j=k
   ·rw [h1,h2]
   ·subst h1
    rw [eJ] at hi; rw [eb _ _ h2] at hj
    exact absurd hi (hdist j b h2 hj)
  ·by_cases h2:j=k
   ·subst h2
    rw [eJ] at hj; rw [eb _ _ h1] at hi
    exact absurd hj (hdist i b h1 hi)
   ·rw [eb _ _ h1] at hi; rw [eb _ _ h2] at hj
    exact hC.dist i j b hi hj
 ·intro j
  by_cases h:j=k
  ·subst h; rw [eJ]; exact hnodup
  ·rw [eb _ _ h]; exact hC.nodup j
 ·intro j b hb
  by_cases h:j=k
  ·subst h; rw [eJ] at hb; exact hlow b hb
  ·rw [eb _ _ h] at hb
   have:=hC.low j b hb
   exact ⟨this.1,dK this.2 hbel.size⟩
theorem rh {k:Nat} {bk:OB} {b i:Nat} (hb:∀ lim,(b,lim)∈bk→i < lim) (h:Gd B G0 ob b i):Gd B G0 (fh ob k bk) b i:=by
 rcases h with h | ⟨h1,h0,h2⟩
 ·exact .inl h
 ·refine .inr ⟨h1,h0,fun j lim hj=>?_⟩
  by_cases hjk:j=k
  ·subst hjk; rw [eJ] at hj; exact hb lim hj
  ·rw [eb _ _ hjk] at hj; exact h2 j lim hj
theorem ah.mF (hC:ah P B G0 W0 n env tm w ob) {k:Nat} {e:E} {v:Value} {bk:OB} (hk:bl W0 n k) (hg:aO w w')
  (hnew:bn P w' (Gd B G0 (fh ob k bk)) B (tm.setIfInBounds k v) (Fw.put env k e) (if leads k e then .dead else e) v bk)
  (hbk:∀ b∈blocks bk,w.heap.size≤b∧b < w'.heap.size) (hnodup:(blocks bk).Nodup):
  ah P B G0 W0 n (Fw.put env k e) (tm.setIfInBounds k v) w' (fh ob k bk):=by
 refine ah.put hC hk (fun b hb=>.inr (hbk b hb).1) (fun b hb _=>hg.block b hb) (hg.below hC.base) (fun j _ g hg'=>hg.block g (hC.low j g hg').2) (fun b i hb h=>⟨rh (fun lim hl=>?_) h,hg.cell hb⟩) hnew (fun j b _ hb hb'=>?_) hnodup (fun b hb=>?_)
 ·have:=(hbk b (dd.2 ⟨_,hl,rfl⟩)).1; omega
 ·have:=(hbk b hb').1; have:=(hC.low j b hb).2; omega
 ·have h1:=hbk b hb; have h2:=hC.base; exact ⟨by omega,h1.2⟩
theorem ah.ahN (hC:ah P B G0 W0 n env tm w ob) {k:Nat} {e:E} {v:Value} (hk:bl W0 n k) (hg:aO w w')
  (hr:bn P w (Gd B G0 ob) B tm env e v []):ah P B G0 W0 n (Fw.put env k e) (tm.setIfInBounds k v) w' (fh ob k []):=by
 refine ah.mF hC hk hg ?_ (by simp) (by simp)
 split
 ·exact rfl
 ·rename_i hl
  refine bn.aj (fun b i hb h=>⟨rh (by simp) h,hg.cell hb⟩) ⟨hg.size,fun b hb=>hg.block b (dK hb hC.base)⟩ (by simp) (fun s hs=>?_) hr
  have hsk:s≠k:=by rintro rfl; exact hl hs
  have hs2:=bn.leads hs hr
  refine eL.same (P:=P) ?_ (gU _ _ hsk) (hC.rep s) (fun g hg'=>hg.block g (hC.low s g hg').2)
  rw [iZ,if_neg (bu hsk),qE hs2.1]
  simp
theorem ah.aM (hC:ah P B G0 W0 n env tm w ob) {d:Option Nat} {e:E} {v:Value} (hk:∀ k,d=some k→bl W0 n k) (hg:aO w w')
  (hr:bn P w (Gd B G0 ob) B tm env e v []) (a:Act) (ha:a.tmps=tm):∃ ob',ah P B G0 W0 n (Fw.aM env d e) (a.put d v).tmps w' ob':=by
 cases d with
 | none=>
   refine ⟨ob,?_⟩
   subst ha
   refine ah.step hC (.less hg fun k b hb=>⟨k,hb⟩) (hg.below hC.base) (fun b i hb h=>⟨h,hg.cell hb⟩) (fun k=>.inl ⟨rfl,rfl,rfl,fun g hg'=>hg.block g (hC.low k g hg').2,fun s hs=>?_⟩) hC.dist hC.nodup (fun k b hb=>⟨(hC.low k b hb).1,dK (hC.low k b hb).2 hg.size⟩) hC.size (fun _ _=>rfl)
   exact eL.same (P:=P) rfl rfl (hC.rep s) (fun g hg'=>hg.block g (hC.low s g hg').2)
 | some k=>subst ha; exact ⟨_,ah.ahN hC (hk k rfl) hg hr⟩
theorem ah.relabel (hC:ah P B G0 W0 n env tm w ob) {s:Nat} {e:E} {bs:OB}
  (hbl:blocks bs=blocks (ob s)) (hlim:∀ b lim,(b,lim)∈bs→∃ lim',(b,lim')∈ob s∧lim'≤lim)
  (hhome:eL w tm env w tm ((s,e)::env) s) (hnew:bn P w (Gd B G0 (fh ob s bs)) B tm ((s,e)::env) e (tm.getD s undef) bs):
  ah P B G0 W0 n ((s,e)::env) tm w (fh ob s bs):=by
 have hfrom:∀ j b,b∈blocks (fh ob s bs j)→b∈blocks (ob j):=by
  intro j b hb
  by_cases h:j=s
  ·subst h; rw [eJ,hbl] at hb; exact hb
  ·rw [eb _ _ h] at hb; exact hb
 refine ah.step hC (.less (aO.refl _) fun j b hb=>⟨j,hfrom j b hb⟩) (Below.refl _ _) (fun b i hb h=>⟨?_,rfl⟩) (fun j=>?_) ?_ ?_ ?_ hC.size (fun _ _=>rfl)
 ·rcases h with h | ⟨h1,h0,h2⟩
  ·exact .inl h
  ·refine .inr ⟨h1,h0,fun j lim hj=>?_⟩
   by_cases hjk:j=s
   ·subst hjk; rw [eJ] at hj
    obtain ⟨lim',h3,h4⟩:=hlim b lim hj
    exact dK (h2 j lim' h3) h4
   ·rw [eb _ _ hjk] at hj; exact h2 j lim hj
 ·by_cases hj:j=s
  ·subst hj; right; rw [aP,if_pos rfl,eJ]; exact hnew
  ·left
   rw [aP,if_neg (bu hj),eb _ _ hj]
   refine ⟨rfl,rfl,rfl,fun _ _=>rfl,fun t ht=>?_⟩
   by_cases hts:t=s
   ·subst hts; exact hhome
   ·exact eL.same (P:=P) (by rw [aP,if_neg (bu hts)]) rfl (hC.rep t) (fun _ _=>rfl)
 ·intro i j b hi hj
  have key:∀ i,b∈blocks (fh ob s bs i)→b∈blocks (ob i):=by
   intro i hi
   by_cases h:i=s
   ·subst h; rw [eJ,hbl] at hi; exact hi
   ·rw [eb _ _ h] at hi; exact hi
  exact hC.dist i j b (key i hi) (key j hj)
 ·intro j
  by_cases h:j=s
  ·subst h; rw [eJ,hbl]; exact hC.nodup j
  ·rw [eb _ _ h]; exact hC.nodup j
 ·intro j b hb
  by_cases h:j=s
  ·subst h; rw [eJ,hbl] at hb; exact hC.low j b hb
  ·rw [eb _ _ h] at hb; exact hC.low j b hb
theorem ah.forget (hC:ah P B G0 W0 n env tm w ob) (h:∀ k,look env' k=look env k∨(look env' k=.dead∧(∀ j,leads k (look env' j)=true→False))):
  ∃ ob',ah P B G0 W0 n env' tm w ob':=by
 classical
 refine ⟨fun k=>if look env' k=look env k then ob k else [],?_⟩
 have hfrom:∀ j b,b∈blocks ((fun k=>if look env' k=look env k then ob k else []) j)→∃ i,b∈blocks (ob i):=by
  intro j b hb
  simp only at hb
  split at hb
  ·exact ⟨j,hb⟩
  ·exact absurd hb (by simp)
 refine ah.step hC (.less (aO.refl _) hfrom) (Below.refl _ _) (fun b i hb h=>⟨?_,rfl⟩) (fun j=>?_) ?_ ?_ ?_ hC.size (fun _ _=>rfl)
 ·rcases h with h | ⟨h1,h0,h2⟩
  ·exact .inl h
  ·refine .inr ⟨h1,h0,fun j lim hj=>h2 j lim ?_⟩
   simp only at hj
   split at hj
   ·exact hj
   ·exact absurd hj (by simp)
 ·by_cases hj:look env' j=look env j
  ·left
   refine ⟨hj,rfl,by simp [hj],fun _ _=>rfl,fun s hs=>?_⟩
   rcases h s with h1 | h1
   ·exact eL.same (P:=P) h1 rfl (hC.rep s) (fun _ _=>rfl)
   ·exact (h1.2 j (by rw [hj]; exact hs)).elim
  ·right
   simp only [hj,if_false]
   rcases h j with h1 | h1
   ·exact absurd h1 hj
   ·rw [h1.1]; exact rfl
 ·intro i j b hi hj
  split at hi<;>split at hj<;>first | exact hC.dist i j b hi hj | exact absurd hi (by simp) | exact absurd hj (by simp)
 ·intro j; split
  ·exact hC.nodup j
  ·simp
 ·intro j b hb
  split at hb
  ·exact hC.low j b hb
  ·exact absurd hb (by simp)
end
end Go.Fw
/- Soundness, part 4: the program's types; constants; reading and writing cells. -/
namespace Go.Fw
open Go Go.RowKit
def se:List UInt8→List UInt8→Bool
 | [],[]=>true
 | x::xs,y::ys=>Nat.beq x.toNat y.toNat&&se xs ys
 | _,_=>false
theorem RJ:∀ {xs ys:List UInt8},se xs ys=true→xs=ys
 | [],[],_=>rfl
 | x::xs,y::ys,h=>by
   simp only [se,au] at h
   rw [UInt8.toNat_inj.1 (Nat.eq_of_beq_eq_true h.1),RJ h.2]
 | [],_::_,h=>by simp [se] at h
 | _::_,[],h=>by simp [se] at h
def sd:Value→Value→Bool
 | .int k n,.int k' n'=>decide (k=k')&&decide (n=n')
 | .bool a,.bool b=>a==b
 | .string a,.string b=>se a.data.toList b.data.toList
 | .slice none 0 0,.slice none 0 0=>true
 | .map none,.map none=>true
 | _,_=>false
theorem pC {a b:Value} (h:sd a b=true):a=b:=by
 unfold sd at h
 split at h
 case h_3 a b=>
  have h1:=RJ h
  obtain ⟨⟨a⟩⟩:=a; obtain ⟨⟨b⟩⟩:=b
  exact congrArg (fun l=>Value.string ⟨⟨l⟩⟩) h1
 all_goals simp_all
def sf:List Value→List Value→Bool
 | [],[]=>true
 | a::r,b::s=>sd a b&&sf r s
 | _,_=>false
theorem RK:∀ {a b:List Value},sf a b=true→a=b
 | [],[],_=>rfl
 | a::r,b::s,h=>by
   simp only [sf,au] at h
   rw [pC h.1,RK h.2]
 | [],_::_,h=>by simp [sf] at h
 | _::_,[],h=>by simp [sf] at h
def Cj (T:Ty) (vs:List Value) (v:Value):Bool:=
 match cA T,v with
 | true,.agg cs=>sf vs cs.toList
 | false,v=>match vs with | [u]=>sd u v | _=>false
 | _,_=>false
theorem RM {T:Ty} {vs:List Value} {v:Value} (h:Cj T vs v=true):v=bh T vs:=by
 unfold Cj at h
 unfold bh
 split at h
 ·rename_i ht
  rw [if_pos ht,RK h]
 ·rename_i ht
  split at h
  ·rw [if_neg (by simp [ht]),pC h]; rfl
  ·exact absurd h (by simp)
 ·exact absurd h (by simp)
def Ub (k:IntKind) (n:Int):Bool:=decide (k.min≤n)&&decide (n≤k.max)
def oI (n:Nat) (l:List Value):List Value:=match n with | 0=> [] | n+1=>l++oI n l
def gF:(T:Ty)→den T→Option (List Value)
 | .int k,n=>if Ub k n then some [.int k n] else none
 | .bool,b=>some [.bool b]
 | .str,s=>if s.length≤1000000 then some [.string ⟨⟨s⟩⟩] else none
 | .unit,_=>some []
 | .sl _,xs=>match xs with | []=>some [.slice none 0 0] | _=>none
 | .pair A B,x=>match gF A x.1,gF B x.2 with
   | some a,some b=>some (a++b)
   | _,_=>none
 | .arr n T,xs=>if xs.length=n then (List.foldr (fun x acc=>match gF T x,acc with | some a,some b=>some (a++b) | _,_=>none) (some []) xs) else none
 | .fn _ _,_=>none
 | .map _ _,xs=>match xs with | []=>some [.map none] | _=>none
def iS:Ty→ax→Bool
 | .sl _,.hole=>false
 | .map _ _,.mp=>false
 | .pair A B,o=>iS A o.l&&iS B o.r
 | _,_=>true
theorem gw (P:Program):∀ (T:Ty) {x:den T} {vs:List Value} (w:World) (G:Nat→Nat→Prop) (B:Nat) (o:ax),iS T o=true→gF T x=some vs→Flat P T w G B o x vs []
 | .int k,x,vs,w,G,B,o,_,h=>by
   simp only [gF] at h
   split at h
   ·rename_i hr
    simp only [Ub,au,decide_eq_true_eq] at hr
    simp only [aw] at h
    unfold Flat; exact ⟨h.symm,hr,rfl⟩
   ·exact absurd h (by simp)
 | .bool,x,vs,w,G,B,o,_,h=>by simp only [gF,aw] at h; unfold Flat; exact ⟨h.symm,rfl⟩
 | .str,x,vs,w,G,B,o,_,h=>by
   simp only [gF] at h
   split at h
   ·rename_i hr
    simp only [aw] at h
    unfold Flat; exact ⟨h.symm,by unfold maxLen; omega,rfl⟩
   ·exact absurd h (by simp)
 | .unit,x,vs,w,G,B,o,_,h=>by simp only [gF,aw] at h; unfold Flat; exact ⟨h.symm,rfl⟩
 | .sl T,x,vs,w,G,B,o,ho,h=>by
   simp only [gF] at h
   split at h
   ·simp only [aw] at h
    subst h
    cases o with
    | no=>unfold Flat; exact ⟨rfl,none,0,rfl,by simp,by simp [maxLen],.inl rfl⟩
    | pair=>unfold Flat; exact ⟨rfl,none,0,rfl,by simp,by simp [maxLen],.inl rfl⟩
    | mp=>unfold Flat; exact ⟨rfl,none,0,rfl,by simp,by simp [maxLen],.inl rfl⟩
    | hole=>simp [iS] at ho
    | own wr e o=>unfold Flat; exact ⟨_,[],[],rfl,tN (World.ownsRow_nil _ _ _ _),⟨rfl,rfl⟩,rfl⟩
   ·exact absurd h (by simp)
 | .pair A C,x,vs,w,G,B,o,ho,h=>by
   simp only [iS,au] at ho
   simp only [gF] at h
   split at h
   ·rename_i a b ha hb
    simp only [aw] at h
    subst h
    unfold Flat
    exact ⟨a,b,[],[],rfl,rfl,gw P A w G B o.l ho.1 ha,gw P C w G B o.r ho.2 hb⟩
   ·exact absurd h (by simp)
 | .arr n T,x,vs,w,G,B,o,_,h=>by
   simp only [gF] at h
   split at h
   ·rename_i hn
    unfold Flat
    refine ⟨hn,?_⟩
    clear hn
    revert vs
    induction (x:List (den T)) with
    | nil=>intro vs h; simp only [List.foldr_nil,aw] at h; exact ⟨h.symm,rfl⟩
    | cons y ys ih=>
      intro vs h
      simp only [List.foldr_cons] at h
      split at h
      ·rename_i a b ha hb
       simp only [aw] at h
       have hy:Flat P T w G B .no y a []:=gw P T w G B .no (by cases T<;>simp [iS,ax.l,ax.r]<;>exact annOk_no' _ _) ha
       exact ⟨a,b,[],[],h.symm,rfl,hy,ih _ hb⟩
      ·exact absurd h (by simp)
   ·exact absurd h (by simp)
 | .fn _ _,x,vs,w,G,B,o,_,h=>by simp [gF] at h
 | .map _ _,x,vs,w,G,B,o,ho,h=>by
   simp only [gF] at h
   split at h
   ·simp only [aw] at h
    subst h
    cases o with
    | mp=>simp [iS] at ho
    | no | hole | pair | own=>unfold Flat; exact ⟨rfl,none,rfl⟩
   ·exact absurd h (by simp)
where
 annOk_no:∀ T,iS T .no=true
  | .int _=>rfl | .bool=>rfl | .str=>rfl | .unit=>rfl | .sl _=>rfl | .arr _ _=>rfl | .fn _ _=>rfl | .map _ _=>rfl
  | .pair A B=>by simp only [iS,au]; exact ⟨annOk_no A,annOk_no B⟩
 annOk_no':∀ A B,iS A .no=true∧iS B .no=true:=fun A B=>⟨annOk_no A,annOk_no B⟩
def oZ:TypeDesc→Bool
 | .struct _ | .array _ _=>true
 | _=>false
mutual
def c8 (P:Program):Nat→TypeId→Ty→Bool
 | 0,_,_=>false
 | n+1,t,T=>(match P.info? t with | some i=>i.size==ay T | none=>false)&&
   match P.underlying t with
   | some (.int k)=>(match T with | .int k'=>decide (k=k') | _=>false)
   | some .bool=>(match T with | .bool=>true | _=>false)
   | some .string=>(match T with | .str=>true | _=>false)
   | some (.slice e)=>(match T with | .sl T'=>c8 P n e T' | _=>false)
   | some (.array m e)=>(match T with | .arr m' T'=>m==m'&&c8 P n e T' | _=>false)
   | some (.struct fs)=>eu P n fs.toList T 0
   | some (.func _ _ _)=>(match T with | .fn _ _=>true | _=>false)
   | some (.map k e)=>(match T with | .map K V=>c8 P n k K&&c8 P n e V | _=>false)
   | _=>false
def eu (P:Program):Nat→List Field→Ty→Nat→Bool
 | 0,_,_,_=>false
 | _+1,[],T,_=>(match T with | .unit=>true | _=>false)
 | n+1,f::fs,T,off=>(match T with | .pair A B=>f.offset==off&&c8 P n f.type A&&eu P n fs B (off+ay A) | _=>false)
end
structure bH (P:Program) (t:TypeId) (T:Ty):Prop where
 ok:∃ n,c8 P n t T=true
theorem bH.size {P:Program} {t:TypeId} {T:Ty} (h:bH P t T):∃ i,P.info? t=some i∧i.size=ay T:=by
 obtain ⟨⟨n,h⟩⟩:=h
 cases n with
 | zero=>simp [c8] at h
 | succ n=>
   simp only [c8,au] at h
   cases hi:P.info? t with
   | none=>simp [hi] at h
   | some i=>exact ⟨i,rfl,by simpa [hi] using h.1⟩
theorem bH.agg {P:Program} {t:TypeId} {T:Ty} (h:bH P t T):∃ d,P.underlying t=some d∧oZ d=cA T:=by
 obtain ⟨⟨n,h⟩⟩:=h
 cases n with
 | zero=>simp [c8] at h
 | succ n=>
   simp only [c8,au] at h
   have h2:=h.2
   cases hu:P.underlying t with
   | none=>simp [hu] at h2
   | some d=>
     refine ⟨d,rfl,?_⟩
     cases d with
     | struct fs=>
       simp only [hu] at h2
       cases n with
       | zero=>simp [eu] at h2
       | succ n=>
         cases hfs:fs.toList with
         | nil=>rw [hfs] at h2; cases T<;>first | rfl | (simp [eu] at h2; done)
         | cons f fs=>rw [hfs] at h2; cases T<;>first | rfl | (simp [eu] at h2; done)
     | _=>cases T<;>first | rfl | (simp [hu] at h2; done)
theorem bH.cases {P:Program} {t:TypeId} {T:Ty} (h:bH P t T) (hT:∀ A B,T≠.pair A B) (hT':T≠.unit):∃ n d,P.underlying t=some d∧(∀ fs,d≠.struct fs)∧
  (match d with
  | .int k=>(match T with | .int k'=>decide (k=k') | _=>false)
  | .bool=>(match T with | .bool=>true | _=>false)
  | .string=>(match T with | .str=>true | _=>false)
  | .slice e=>(match T with | .sl T'=>c8 P n e T' | _=>false)
  | .array m e=>(match T with | .arr m' T'=>m==m'&&c8 P n e T' | _=>false)
  | .func _ _ _=>(match T with | .fn _ _=>true | _=>false)
  | .map k e=>(match T with | .map K V=>c8 P n k K&&c8 P n e V | _=>false)
  | _=>false)=true:=by
 obtain ⟨⟨n,h⟩⟩:=h
 cases n with
 | zero=>simp [c8] at h
 | succ n=>
   simp only [c8,au] at h
   have h2:=h.2
   cases hu:P.underlying t with
   | none=>simp [hu] at h2
   | some d=>
     refine ⟨n,d,rfl,?_,?_⟩
     ·rintro fs rfl
      simp only [hu] at h2
      cases n with
      | zero=>simp [eu] at h2
      | succ n=>
        cases hfs:fs.toList with
        | nil=>rw [hfs] at h2; cases T<;>first | exact hT' rfl | (simp [eu] at h2; done)
        | cons f fs=>rw [hfs] at h2; cases T<;>first | exact hT _ _ rfl | (simp [eu] at h2; done)
     ·rw [hu] at h2
      cases d with
      | struct fs=>
        exfalso
        cases n with
        | zero=>simp [eu] at h2
        | succ n=>
          cases hfs:fs.toList with
          | nil=>simp only [hfs] at h2; cases T<;>first | exact hT' rfl | (simp [eu] at h2; done)
          | cons f fs=>simp only [hfs] at h2; cases T<;>first | exact hT _ _ rfl | (simp [eu] at h2; done)
      | _=>cases T<;>first | exact h2 | (simp at h2; done)
theorem bH.slice {P:Program} {t:TypeId} {T:Ty} (h:bH P t (.sl T)):∃ e,P.underlying t=some (.slice e)∧bH P e T:=by
 obtain ⟨n,d,hu,_,h2⟩:=h.cases (by simp) (by simp)
 cases d<;>first | (simp at h2; done) | exact ⟨_,hu,⟨n,h2⟩⟩
theorem bH.map {P:Program} {t:TypeId} {K V:Ty} (h:bH P t (.map K V)):∃ k e,P.underlying t=some (.map k e)∧bH P k K∧bH P e V:=by
 obtain ⟨n,d,hu,_,h2⟩:=h.cases (by simp) (by simp)
 cases d<;>first | (simp at h2; done) | (simp only [au] at h2; exact ⟨_,_,hu,⟨n,h2.1⟩,⟨n,h2.2⟩⟩)
theorem bH.int {P:Program} {t:TypeId} {k:IntKind} (h:bH P t (.int k)):P.underlying t=some (.int k):=by
 obtain ⟨n,d,hu,_,h2⟩:=h.cases (by simp) (by simp)
 cases d<;>first | (simp at h2; done) | (rw [hu,of_decide_eq_true h2])
theorem bH.bool {P:Program} {t:TypeId} (h:bH P t .bool):P.underlying t=some .bool:=by
 obtain ⟨n,d,hu,_,h2⟩:=h.cases (by simp) (by simp)
 cases d<;>first | (simp at h2; done) | exact hu
theorem bH.str {P:Program} {t:TypeId} (h:bH P t .str):P.underlying t=some .string:=by
 obtain ⟨n,d,hu,_,h2⟩:=h.cases (by simp) (by simp)
 cases d<;>first | (simp at h2; done) | exact hu
theorem bH.array {P:Program} {t:TypeId} {m:Nat} {T:Ty} (h:bH P t (.arr m T)):∃ e,P.underlying t=some (.array m e)∧bH P e T:=by
 obtain ⟨n,d,hu,_,h2⟩:=h.cases (by simp) (by simp)
 cases d<;>first | (simp at h2; done) | skip
 simp only [au,beq_iff_eq] at h2
 exact ⟨_,by rw [hu,h2.1],⟨n,h2.2⟩⟩
def eX:Nat→Path
 | 0=> [.l]
 | f+1=>.r::eX f
theorem RU (P:Program):∀ (fs:List Field) (n:Nat) (T:Ty) (off f:Nat) (fd:Field),eu P n fs T off=true→fs[f]?=some fd→∃ A,cR T (eX f)=some A∧bH P fd.type A∧off+a8 T (eX f)=fd.offset
 | [],n,T,off,f,fd,_,h=>by simp at h
 | g::fs,n,T,off,f,fd,h,hf=>by
   cases n with
   | zero=>simp [eu] at h
   | succ n=>
     simp only [eu] at h
     split at h
     ·rename_i A C
      simp only [au,beq_iff_eq] at h
      cases f with
      | zero=>
        simp only [iI,aw] at hf
        subst hf
        refine ⟨A,?_,⟨n,h.1.2⟩,?_⟩
        ·cases A<;>rfl
        ·have:a8 A []=0:=by cases A<;>rfl
         simp only [eX,a8,this]; omega
      | succ f=>
        simp only [ui] at hf
        obtain ⟨D,h1,h2,h3⟩:=RU P fs n C (off+ay A) f fd h.2 hf
        exact ⟨D,by simp only [eX,cR]; exact h1,h2,by simp only [eX,a8]; omega⟩
     ·exact absurd h (by simp)
theorem bH.struct {P:Program} {t:TypeId} {T:Ty} {fs:Array Field} (h:bH P t T) (hu:P.underlying t=some (.struct fs)) {f:Nat} {fd:Field} (hf:fs[f]?=some fd):
  ∃ A,cR T (eX f)=some A∧bH P fd.type A∧a8 T (eX f)=fd.offset:=by
 obtain ⟨⟨n,h⟩⟩:=h
 cases n with
 | zero=>simp [c8] at h
 | succ n=>
   simp only [c8,au,hu] at h
   obtain ⟨A,h1,h2,h3⟩:=RU P fs.toList n T 0 f fd h.2 (by simpa using hf)
   exact ⟨A,h1,h2,by omega⟩
theorem lr (b off j:Nat):(⟨b,off,none⟩:Addr).add j=⟨b,off+j,none⟩:=by unfold Addr.add; split<;>simp_all
section
variable {P:Program}
theorem nt {t:TypeId} {T:Ty} (h:bH P t T) (w:World):(sizeOf t).run P w=.ok (ay T) w:=by
 obtain ⟨i,hi,hs⟩:=h.size
 simp [sizeOf,typeInfo,hi,hs]
theorem Wh {t:TypeId} {T:Ty} (h:bH P t T) (w:World):(isAgg t).run P w=.ok (cA T) w:=by
 obtain ⟨d,hd,ha⟩:=h.agg
 simp only [isAgg,Sem.run_bind,run_underlying hd,Result.andThen_ok]
 rw [←ha]
 cases d<;>rfl
theorem Wj {t:TypeId} {T:Ty} (h:bH P t T) (w:World) {b off:Nat} {vs:List Value} (hl:vs.length=ay T) (hc:∀ j u,vs[j]?=some u→w.cell? ⟨b,off+j,none⟩=some u):
  (loadVar t ⟨b,off,none⟩).run P w=.ok (bh T vs) w:=by
 unfold loadVar
 simp only [Sem.run_bind,Wh h,Result.andThen_ok]
 unfold bh
 by_cases ha:cA T=true
 ·rw [if_pos ha,if_pos ha]
  have:=run_loadCells_list (P:=P) w ⟨b,off,none⟩ vs (fun j v hj=>by rw [lr]; exact hc j v hj)
  simp only [Sem.run_bind,nt h,Result.andThen_ok,←hl,this]
  rfl
 ·rw [if_neg ha,if_neg ha]
  have h1:vs.length=1:=by rw [hl]; cases T<;>simp_all [cA,ay]
  obtain ⟨u,rfl⟩:=oR.1 h1
  have:=hc 0 u rfl
  simp only [kL] at this
  simp [run_load,this]
theorem kj {T:Ty} {vs:List Value} (hl:vs.length=ay T) (h1:∀ u∈vs,u.oneCell'=true):(bh T vs).cells=vs.toArray:=by
 unfold bh
 by_cases ha:cA T=true
 ·rw [if_pos ha]; rfl
 ·rw [if_neg ha]
  have h1':vs.length=1:=by rw [hl]; cases T<;>simp_all [cA,ay]
  obtain ⟨u,rfl⟩:=oR.1 h1'
  have:=h1 u (by simp)
  cases u<;>simp_all [Value.oneCell',Value.cells]
theorem Wl (P:Program) (g o:Nat) (t:TypeId) (fz:Nat×Nat):∀ (vs:List Value) (i:Nat) (cur:Array Value) (w:World),w.heap[g]?=some (.cells cur t fz)→pF fz cur.size→o+i+vs.length≤cur.size→(∀ v∈vs,v.oneCell'=true)→
  (storeCells ⟨g,o,none⟩ vs i).run P w=.ok () (w.setRow g (cur.toList.take (o+i)++vs++cur.toList.drop (o+i+vs.length)).toArray)
 | [],i,cur,w,hg,_,_,_=>by
   simp only [storeCells,List.append_nil,List.length_nil,kL,List.take_append_drop,Array.toArray_toList]
   rw [setRow_self w g cur t fz hg]
   rfl
 | v::rest,i,cur,w,hg,hfz,hl,h1=>by
   have hi:o+i < cur.size:=by simp at hl; omega
   have hadd:(⟨g,o,none⟩:Addr).add i=⟨g,o+i,none⟩:=by unfold Addr.add; split<;>simp_all
   have hcell:w.cell? ⟨g,o+i,none⟩=some cur[o+i]:=by simp [World.cell?,hg,hi]
   have hfro:w.frozen? ⟨g,o+i,none⟩=false:=by
    obtain ⟨lo,hi'⟩:=fz
    simp only [World.frozen?,hg,Bool.and_eq_false_iff,decide_eq_false_iff_not]
    rcases hfz with hfz | hfz
    ·simp only [eN] at hfz; right; omega
    ·simp only at hfz; left; omega
   have hst:(store ((⟨g,o,none⟩:Addr).add i) v).run P w=.ok () (w.setRow g (cur.setIfInBounds (o+i) v)):=by
    rw [hadd,run_store P w _ v _ (h1 v (by simp)),hcell]
    simp [hfro,setCell_eq_setRow w g (o+i) cur t fz v hg]
   have ih:=Wl P g o t fz rest (i+1) (cur.setIfInBounds (o+i) v) (w.setRow g (cur.setIfInBounds (o+i) v)) (setRow_heap w g cur _ t _ hg) (by simpa using hfz) (by simp at hl ⊢; omega) (fun x hx=>h1 x (by simp [hx]))
   simp only [storeCells,Sem.run_bind,hst,Result.andThen_ok,ih,setRow_setRow]
   congr 3
   have e:=list_seg_step cur.toList (o+i) v rest (by simp at hl ⊢; omega)
   simpa [Array.toList_setIfInBounds,ll] using e
theorem akE {t:TypeId} {T:Ty} (h:bH P t T) (w:World) {g off:Nat} {e:TypeId} {fz:Nat×Nat} {cur:Array Value} {vs:List Value} (hg:w.heap[g]?=some (.cells cur e fz)) (hfz:pF fz cur.size) (hl:vs.length=ay T)
  (h1:∀ u∈vs,u.oneCell'=true) (hfit:off+vs.length≤cur.size):
  (storeVar t ⟨g,off,none⟩ (bh T vs)).run P w=.ok () (w.setRow g (cur.toList.take off++vs++cur.toList.drop (off+vs.length)).toArray):=by
 have:=Wl P g off e fz vs 0 cur w hg hfz (by simpa using hfit) h1
 simp only [kL] at this
 simp [storeVar,nt h,kj hl h1,hl,this]
end
end Go.Fw
/- Soundness, part 5: operands; copies and assignments. -/
namespace Go.Fw
open Go Go.RowKit
def aF:Operand→Od→Bool
 | .tmp k,.t k'=>k==k'
 | .const v,.c T x=>(match gF T x with | some vs=>Cj T vs v | none=>false)
 | .const v,.nil _ _=>sd v (.slice none 0 0)
 | .func f,.fn g _ _=>f==g
 | _,_=>false
def qK (ob:Nat→OB):Od→OB | .t k=>ob k | _=> []
section
variable {P:Program} {B:Nat} {G0:Nat→Nat→Prop} {W0:dc} {n:Nat} {env:Env} {a:Act} {w:World} {ob:Nat→OB}
theorem fr {x:Operand} {y:Od} (hC:ah P B G0 W0 n env a.tmps w ob) (h:aF x y=true):bn P w (Gd B G0 ob) B a.tmps env (av env y) (a.eval x) (qK ob y):=by
 unfold aF at h
 split at h
 ·rename_i k k'
  rw [beq_iff_eq] at h; subst h
  exact hC.rep k
 ·rename_i v T x
  split at h
  ·rename_i vs hvs
   exact ⟨rfl,vs,gw P T w _ B .no (gw.annOk_no T) hvs,RM h⟩
  ·exact absurd h (by simp)
 ·rename_i v e T
  have:=pC h
  subst this
  show Flat P (.sl T) w _ B (.own true e .no) [] [_] _
  unfold Flat
  exact ⟨_,[],[],rfl,tN (World.ownsRow_nil _ _ _ _),⟨rfl,rfl⟩,rfl⟩
 ·rename_i f g A C
  rw [beq_iff_eq] at h; subst h
  exact ⟨rfl,#[],rfl,rfl,rfl⟩
 ·exact absurd h (by simp)
theorem HS {x:Operand} {y:Od} (hC:ah P B G0 W0 n env a.tmps w ob) (h:aF x y=true):bn P w (Gd B G0 ob) B a.tmps env (fB y (av env y)) (a.eval x) []∨(∃ v e T o xs,fB y (av env y)=.own v e T o xs∧qK ob y=[]∧xs=[]∧a.eval x=.slice none 0 0):=by
 have hr:=fr hC h
 cases y with
 | t k=>
   left
   simp only [av,qK] at hr ⊢
   have hx:a.eval x=a.tmps.getD k undef:=by
    unfold aF at h
    split at h<;>first | (rename_i k1 k2 _ hh; cases hh; rw [beq_iff_eq] at h; subst h; rfl) | skip
    all_goals first | (rename_i hh; cases hh; done) | (exact absurd h (by simp)) | skip
   cases he:look env k with
   | dead=>rw [he] at hr; exact rfl
   | bJ=>rw [he] at hr; exact ⟨hr.1,rfl⟩
   | v T x=>rw [he] at hr; exact ⟨rfl,hr.2⟩
   | own wr e T o xs=>
     refine ⟨rfl,?_,?_⟩
     ·simp only [bj,he]; rw [hx]
     ·exact .inl (by simp [bc,he])
   | loc T o x=>
     rw [he] at hr
     obtain ⟨b,cur,e,ob',h1,_⟩:=hr
     refine ⟨rfl,T,o,x,b,he,by rw [←hx]; exact h1,?_,?_⟩
     ·cases T<;>rfl
     ·rw [h1]; cases T<;>rfl
   | ref s p=>rw [he] at hr; exact ⟨rfl,hr.2⟩
   | ptr s p=>rw [he] at hr; exact ⟨rfl,hr.2⟩
   | cT s p i q=>rw [he] at hr; exact ⟨rfl,hr.2⟩
   | «at» T x=>rw [he] at hr; exact ⟨rfl,hr.2⟩
   | cI es=>exact rfl
   | it s pos=>exact rfl
   | sb t e s=>exact rfl
   | nw T o x=>rw [he] at hr; exact ⟨rfl,hr.2⟩
   | nm T o x=>exact rfl
   | cP f A C caps=>rw [he] at hr; exact ⟨rfl,hr.2⟩
 | c T x=>left; exact hr
 | nil e T=>
   right
   refine ⟨true,e,T,.no,[],rfl,rfl,rfl,?_⟩
   unfold aF at h
   split at h<;>first | (rename_i hh; cases hh; exact pC h) | (rename_i hh; cases hh; done) | (exact absurd h (by simp)) | skip
 | fn f A C=>left; exact hr
def bE (P:Program) (B:Nat) (G0:Nat→Nat→Prop) (W0:dc) (n:Nat) (a:Act) {R:Type} (K:cM R) (r:R) (next:Act→World→Prop):Prop:=
 ∀ env' tm' w' ob',ah P B G0 W0 n env' tm' w' ob'→K env'=some r→next {a with tmps:=tm'} w'
theorem Wb (a:Act) (d:Option Tmp) (v:Value):({a with tmps:=(a.put d v).tmps}:Act)=a.put d v:=by cases d<;>rfl
theorem bp {o:Oper} {next:Act→World→Prop} {Q:Exit→Act→World→Prop} {v:Value} {w':World} (hrun:(execOp a.eval o).run P w=.ok (.value v) w') (h:next (a.put o.dst v) w'):o.wp P a w next Q:=by
 unfold Oper.wp; rw [hrun]; exact h
theorem asL {o:Oper} {next:Act→World→Prop} {Q:Exit→Act→World→Prop} {w':World} (hrun:(execOp a.eval o).run P w=.ok .skip w') (h:next (a.put o.dst undef) w'):o.wp P a w next Q:=by
 unfold Oper.wp; rw [hrun]; exact h
variable {R:Type} {K:cM R} {r:R} {next:Act→World→Prop}
theorem bz (hC:ah P B G0 W0 n env a.tmps w ob) (hK:bE P B G0 W0 n a K r next) {d:Option Nat} {e:E} {v:Value} {w':World} (hd:∀ k,d=some k→bl W0 n k) (hg:aO w w')
  (hr:bn P w (Gd B G0 ob) B a.tmps env e v []) (hk:K (aM env d e)=some r):next (a.put d v) w':=by
 obtain ⟨ob',h⟩:=ah.aM hC hd hg hr a rfl
 have:=hK _ _ _ _ h hk
 rwa [Wb] at this
theorem Jf (hC:ah P B G0 W0 n env a.tmps w ob) (hK:bE P B G0 W0 n a K r next) {d:Option Nat} {wr:Bool} {e:TypeId} {T:Ty} {o:ax} (hd:∀ k,d=some k→bl W0 n k)
  (hk:K (aM env d (.own wr e T o []))=some r):next (a.put d (.slice none 0 0)) w:=by
 cases d with
 | none=>
   have:=hK _ _ _ _ hC hk
   exact this
 | some k=>
   have h:=ah.mF (e:=.own wr e T o []) (v:=.slice none 0 0) (bk:=[]) hC (hd k rfl) (aO.refl w) ?_ (by simp) (by simp)
   ·have:=hK _ _ _ _ h hk
    exact this
   ·rw [if_neg (by simp [leads])]
    show Flat P (.sl T) w _ B (.own wr e o) [] [_] _
    unfold Flat
    exact ⟨_,[],[],rfl,tN (World.ownsRow_nil _ _ _ _),⟨rfl,rfl⟩,rfl⟩
theorem vu (hC:ah P B G0 W0 n env a.tmps w ob) (hK:bE P B G0 W0 n a K r next) {d:Option Nat} {x:Operand} {y:Od} (hx:aF x y=true) (hd:∀ k,d=some k→bl W0 n k)
  (hk:K (aM env d (fB y (av env y)))=some r):next (a.put d (a.eval x)) w:=by
 rcases HS hC hx with h | ⟨wr,e,T,o,xs,h1,_,rfl,h4⟩
 ·exact bz hC hK hd (aO.refl w) h hk
 ·rw [h1] at hk
  rw [h4]
  exact Jf hC hK hd hk
end
end Go.Fw
/- Soundness, part 6: what is held goes over; what is held is shared. -/
namespace Go.Fw
open Go Go.RowKit
section
variable {P:Program} {B:Nat} {G0:Nat→Nat→Prop} {W0:dc} {n:Nat} {env:Env} {tm:Array Value} {a:Act} {w:World} {ob:Nat→OB}
theorem oP {ob':Nat→OB} (h:∀ j b lim,(b,lim)∈ob' j→∃ j' lim',(b,lim')∈ob j'∧lim'≤lim) {b i:Nat} (hg:Gd B G0 ob b i):Gd B G0 ob' b i:=by
 rcases hg with hg | ⟨h1,h0,h2⟩
 ·exact .inl hg
 ·refine .inr ⟨h1,h0,fun j lim hj=>?_⟩
  obtain ⟨j',lim',h3,h4⟩:=h j b lim hj
  exact dK (h2 j' lim' h3) h4
def jK (ob:Nat→OB) (k d:Nat):Nat→OB:=fh (fh ob k []) d (ob k)
theorem Dr (k d:Nat):jK ob k d d=ob k:=eJ _ _ _
theorem Ds {k d:Nat} (h:k≠d):jK ob k d k=[]:=by unfold jK; rw [eb _ _ h,eJ]
theorem Dt {k d j:Nat} (h1:j≠k) (h2:j≠d):jK ob k d j=ob j:=by unfold jK; rw [eb _ _ h2,eb _ _ h1]
theorem zh {k d:Nat} {j:Nat} {q:Nat×Nat} (h:q∈jK ob k d j):(j=d∧q∈ob k)∨(j≠d∧j≠k∧q∈ob j):=by
 by_cases hd:j=d
 ·subst hd; rw [Dr] at h; exact .inl ⟨rfl,h⟩
 ·by_cases hk:j=k
  ·subst hk; rw [Ds hd] at h; exact absurd h (by simp)
  ·rw [Dt hk hd] at h; exact .inr ⟨hd,hk,h⟩
theorem aE {b:Nat} {l:OB}:b∈blocks l↔∃ lim,(b,lim)∈l:=by
 unfold blocks
 rw [dd]
 constructor
 ·rintro ⟨⟨x,y⟩,h,rfl⟩; exact ⟨y,h⟩
 ·rintro ⟨y,h⟩; exact ⟨(b,y),h,rfl⟩
theorem Ws (hC:ah P B G0 W0 n env tm w ob) {k d:Nat} (i j b:Nat) (hi:b∈blocks (jK ob k d i)) (hj:b∈blocks (jK ob k d j)):i=j:=by
 obtain ⟨l1,hi⟩:=aE.1 hi
 obtain ⟨l2,hj⟩:=aE.1 hj
 rcases zh hi with ⟨e1,q1⟩ | ⟨h1,h2,q1⟩<;>rcases zh hj with ⟨e2,q2⟩ | ⟨h3,h4,q2⟩
 ·rw [e1,e2]
 ·exact absurd (hC.dist _ _ b (aE.2 ⟨_,q2⟩) (aE.2 ⟨_,q1⟩)) h4
 ·exact absurd (hC.dist _ _ b (aE.2 ⟨_,q1⟩) (aE.2 ⟨_,q2⟩)) h2
 ·exact hC.dist _ _ b (aE.2 ⟨_,q1⟩) (aE.2 ⟨_,q2⟩)
theorem Wu (hC:ah P B G0 W0 n env tm w ob) {k d:Nat} (j:Nat):(blocks (jK ob k d j)).Nodup:=by
 by_cases hd:j=d
 ·subst hd; rw [Dr]; exact hC.nodup k
 ·by_cases hk:j=k
  ·subst hk; rw [Ds hd]; simp
  ·rw [Dt hk hd]; exact hC.nodup j
theorem Wt (hC:ah P B G0 W0 n env tm w ob) {k d:Nat} (j b:Nat) (h:b∈blocks (jK ob k d j)):B≤b∧b < w.heap.size:=by
 obtain ⟨l,h⟩:=aE.1 h
 rcases zh h with ⟨_,h⟩ | ⟨_,_,h⟩<;>exact hC.low _ b (aE.2 ⟨_,h⟩)
theorem Wv {k d:Nat} (j b:Nat) (h:b∈blocks (jK ob k d j)):∃ i,b∈blocks (ob i):=by
 obtain ⟨l,h⟩:=aE.1 h
 rcases zh h with ⟨_,h⟩ | ⟨_,_,h⟩<;>exact ⟨_,aE.2 ⟨_,h⟩⟩
theorem Dq {k d b i:Nat} (h:Gd B G0 ob b i):Gd B G0 (jK ob k d) b i:=
 oP (fun j b lim hj=>by rcases zh hj with ⟨_,h⟩ | ⟨_,_,h⟩<;>exact ⟨_,lim,h,cE _⟩) h
theorem Vv (env:Env) (d j:Nat):look (if (look env d).home=true then kill d env else env) j=if (look env d).home=true∧leads d (look env j)=true then .dead else look env j:=by
 by_cases h:(look env d).home=true
 ·simp only [h,if_true,true_and,oA]
 ·simp [h]
theorem af6 {k d:Nat} {e:E} (h:e.home=true):jE k d e=e:=by
 cases e<;>first | rfl | (exfalso; simp [E.home] at h; done)
theorem af7 {k d:Nat} {e:E} (h:¬ leads k e=true):jE k d e=e:=by
 cases e with
 | ref s p=>simp only [leads] at h; simp only [jE]; rw [if_neg h]
 | cT s p i q=>simp only [leads] at h; simp only [jE]; rw [if_neg h]
 | cP f A C caps=>simp only [jE]; rw [if_neg h]
 | _=>rfl
theorem XB (hC:ah P B G0 W0 n env tm w ob) {k d:Nat} (hkd:k≠d) (hd:bl W0 n d) {wr:Bool} {e:TypeId} {T:Ty} {o:ax} {xs:List (den T)} (hk:look env k=.own wr e T o xs):
  ah P B G0 W0 n ((d,.own wr e T o xs)::(k,.ref d [])::tG k d (if (look env d).home=true then kill d env else env)) (tm.setIfInBounds d (tm.getD k undef)) w (jK ob k d):=by
 have hdt:d < tm.size:=by rw [hC.size]; exact hd.1
 have hrk:=hC.rep k
 rw [hk] at hrk
 have hlook:∀ j,look ((d,E.own wr e T o xs)::(k,.ref d [])::tG k d (if (look env d).home=true then kill d env else env)) j=
   if d=j then .own wr e T o xs else if k=j then .ref d [] else jE k d (if (look env d).home=true∧leads d (look env j)=true then .dead else look env j):=by
  intro j
  rw [aP,aP,aeX,Vv]
 refine ah.step hC (.less (aO.refl _) fun j b=>Wv j b) (Below.refl _ _) (fun b i _ h=>⟨Dq h,rfl⟩) (fun j=>?_) (fun i j b=>Ws hC i j b) (fun j=>Wu hC j) (fun j b=>Wt hC j b) (by rw [rb]; exact hC.size) (fun _ h=>hd.aj h _ _)
 by_cases hjd:j=d
 ·subst hjd
  right
  rw [hlook,if_pos rfl,nk _ _ _ hdt,Dr]
  exact Flat.mono P (.sl T) (fun b i _ h=>⟨Dq h,rfl⟩) (bV.refl _ _) (fun _ _=>rfl) hrk
 ·by_cases hjk:j=k
  ·subst hjk
   right
   rw [hlook,if_neg (bu hjd),if_pos rfl,gU _ _ hjd,Ds hkd]
   refine ⟨rfl,?_,?_⟩
   ·simp only [bj]; rw [hlook,if_pos rfl]; simp only; rw [nk _ _ _ hdt]
   ·left; simp only [bc]; rw [hlook,if_pos rfl]; rfl
  ·rw [hlook,if_neg (bu hjd),if_neg (bu hjk),gU _ _ hjd,Dt hjk hjd]
   by_cases hkill:(look env d).home=true∧leads d (look env j)=true
   ·right
    rw [if_pos hkill]
    exact (bn.leads hkill.2 (hC.rep j)).2
   ·rw [if_neg hkill]
    by_cases hl:leads k (look env j)=true
    ·right
     have hrj:=hC.rep j
     cases hej:look env j with
     | ref s p=>
       rw [hej] at hl hrj
       simp only [leads,beq_iff_eq] at hl; subst hl
       obtain ⟨h0,h1,h2⟩:=hrj
       simp only [bj,hk] at h1
       cases p with
       | cons=>exact absurd h1 (by simp)
       | nil=>
         simp only [aw] at h1
         simp only [jE,beq_self_eq_true,if_true]
         refine ⟨h0,?_,?_⟩
         ·simp only [bj]; rw [hlook,if_pos rfl]; simp only; rw [nk _ _ _ hdt,h1]
         ·left; simp only [bc]; rw [hlook,if_pos rfl]; rfl
     | cT s p i q=>
       rw [hej] at hl hrj
       simp only [leads,beq_iff_eq] at hl; subst hl
       obtain ⟨h0,hh,g,m,c,h1,h2,h3,h4,h5⟩:=hrj
       simp only [bj,hk] at h2
       simp only [bc,hk] at h1
       cases p with
       | cons=>exact absurd h2 (by simp)
       | nil=>
         simp only [aw] at h1 h2
         simp only [jE,beq_self_eq_true,if_true]
         refine ⟨h0,hh,g,m,c,?_,?_,h3,h4,h5⟩
         ·simp only [bc]; rw [hlook,if_pos rfl]; simp only; rw [h1]
         ·simp only [bj]; rw [hlook,if_pos rfl]; simp only; rw [nk _ _ _ hdt,h2]
     | cP f A C caps=>
       rw [hej] at hl hrj
       simp only [jE,hl,if_true]
       exact hrj.1
     | ptr s p=>
       rw [hej] at hl hrj
       simp only [leads,beq_iff_eq] at hl; subst hl
       obtain ⟨_,_,_,_,_,h1,_⟩:=hrj
       rw [hk] at h1; exact absurd h1 (by simp)
     | _=>rw [hej] at hl; exact absurd hl (by simp [leads])
    ·left
     have hmv:jE k d (look env j)=look env j:=af7 hl
     rw [hmv]
     refine ⟨rfl,rfl,rfl,fun _ _=>rfl,fun s hs=>?_⟩
     have hsh:=bn.leads hs (hC.rep j)
     have hsk:s≠k:=by rintro rfl; exact hl hs
     have hsd:s≠d:=by rintro rfl; exact hkill ⟨hsh.1,hs⟩
     refine eL.same (P:=P) ?_ (gU _ _ hsd) (hC.rep s) (fun _ _=>rfl)
     rw [hlook,if_neg (bu hsd),if_neg (bu hsk),qE hsh.1]
     simp only [eo,and_false,if_false]
     exact af6 hsh.1
theorem af5 (hC:ah P B G0 W0 n env tm w ob) {k d:Nat} (hkd:k≠d) (hd:bl W0 n d) {es:List E} (hk:look env k=.cI es):
  ah P B G0 W0 n ((d,.cI es)::(k,.dead)::(if (look env d).home=true then kill d env else env)) (tm.setIfInBounds d (tm.getD k undef)) w (jK ob k d):=by
 have hdt:d < tm.size:=by rw [hC.size]; exact hd.1
 have hrk:=hC.rep k
 rw [hk] at hrk
 have hlook:∀ j,look ((d,E.cI es)::(k,.dead)::(if (look env d).home=true then kill d env else env)) j=
   if d=j then .cI es else if k=j then .dead else (if (look env d).home=true∧leads d (look env j)=true then .dead else look env j):=by
  intro j
  rw [aP,aP,Vv]
 refine ah.step hC (.less (aO.refl _) fun j b=>Wv j b) (Below.refl _ _) (fun b i _ h=>⟨Dq h,rfl⟩) (fun j=>?_) (fun i j b=>Ws hC i j b) (fun j=>Wu hC j) (fun j b=>Wt hC j b) (by rw [rb]; exact hC.size) (fun _ h=>hd.aj h _ _)
 by_cases hjd:j=d
 ·subst hjd
  right
  rw [hlook,if_pos rfl,nk _ _ _ hdt,Dr]
  exact bn.aj (e:=.cI es) (fun b i _ h=>⟨Dq h,rfl⟩) (bV.refl _ _) (fun _ _=>rfl) (fun s hs=>by simp [leads] at hs) hrk
 ·by_cases hjk:j=k
  ·subst hjk
   right
   rw [hlook,if_neg (bu hjd),if_pos rfl,Ds hkd]
   exact rfl
  ·rw [hlook,if_neg (bu hjd),if_neg (bu hjk),gU _ _ hjd,Dt hjk hjd]
   by_cases hkill:(look env d).home=true∧leads d (look env j)=true
   ·right
    rw [if_pos hkill]
    exact (bn.leads hkill.2 (hC.rep j)).2
   ·rw [if_neg hkill]
    left
    refine ⟨rfl,rfl,rfl,fun _ _=>rfl,fun s hs=>?_⟩
    have hsh:=bn.leads hs (hC.rep j)
    have hsk:s≠k:=by rintro rfl; rw [hk] at hsh; exact absurd hsh.1 (by simp [E.home])
    have hsd:s≠d:=by rintro rfl; exact hkill ⟨hsh.1,hs⟩
    refine eL.same (P:=P) ?_ (gU _ _ hsd) (hC.rep s) (fun _ _=>rfl)
    rw [hlook,if_neg (bu hsd),if_neg (bu hsk),qE hsh.1]
    simp
variable {R:Type} {K:cM R} {r:R} {next:Act→World→Prop}
theorem jH {x:Operand} {k:Nat} (h:aF x (.t k)=true) (a:Act):a.eval x=a.tmps.getD k undef:=by
 unfold aF at h
 split at h<;>first | (rename_i k1 k2 _ hh; cases hh; rw [beq_iff_eq] at h; subst h; rfl) | (rename_i hh; cases hh; done) | (exact absurd h (by simp))
theorem Wq (tm:Array Value) (k:Nat):tm.setIfInBounds k (tm.getD k undef)=tm:=by
 apply Array.ext
 ·simp
 ·intro i h1 h2
  rw [Array.getElem_setIfInBounds]
  split
  ·rename_i h; subst h; simp [Array.getD,h2]
  ·rfl
theorem X5 (hC:ah P B G0 W0 n env a.tmps w ob) (hK:bE P B G0 W0 n a K r next) {d:Option Nat} {x:Operand} {y:Od} (hx:aF x y=true) (hd:∀ k,d=some k→bl W0 n k)
  (hk:K (oB env d y)=some r):next (a.put d (a.eval x)) w:=by
 unfold oB at hk
 split at hk
 ·rename_i es he
  split at hk
  ·rename_i k d'
   simp only [av] at he
   have hev:=jH hx a
   by_cases hkd:k=d'
   ·subst hkd
    rw [if_pos (by simp)] at hk
    have:=hK _ _ _ _ hC hk
    rw [hev]
    simpa only [Act.put,Wq] using this
   ·rw [if_neg (by simpa using hkd)] at hk
    have:=hK _ _ _ _ (af5 hC hkd (hd d' rfl) he) hk
    rw [hev]
    exact this
  ·exact bz hC hK hd (aO.refl w) (e:=.dead) rfl hk
 ·exact vu hC hK hx hd hk
theorem X4 (hC:ah P B G0 W0 n env a.tmps w ob) (hK:bE P B G0 W0 n a K r next) {d:Nat} {x:Operand} {y:Od} (hx:aF x y=true) (hd:bl W0 n d)
  (hk:K (assign env d y)=some r):next (a.put (some d) (a.eval x)) w:=by
 unfold assign at hk
 split at hk
 ·rename_i wr e T o xs he
  split at hk
  ·rename_i k
   simp only [av] at he
   have hev:=jH hx a
   by_cases hkd:k=d
   ·subst hkd
    rw [if_pos (by simp)] at hk
    have:=hK _ _ _ _ hC hk
    rw [hev]
    simpa only [Act.put,Wq] using this
   ·rw [if_neg (by simpa using hkd)] at hk
    have:=hK _ _ _ _ (XB hC hkd hd he) hk
    rw [hev]
    exact this
  ·rename_i hnt
   cases y with
   | t k=>exact absurd rfl (hnt k)
   | c T x=>simp [av] at he
   | fn f A C=>simp [av] at he
   | nil e' T'=>
     have hr:=HS hC hx
     rcases hr with h | ⟨wr',e2,T2,o2,xs2,h1,_,h3,h4⟩
     ·have:fB (.nil e' T') (av env (.nil e' T'))=.own true e' T' .no []:=rfl
      simp only [av] at he
      cases he
      have hr2:=fr hC hx
      have hv:a.eval x=.slice none 0 0:=by
       unfold aF at hx
       split at hx<;>first | (rename_i hh; cases hh; exact pC hx) | (rename_i hh; cases hh; done) | (exact absurd hx (by simp))
      rw [hv]
      exact Jf hC hK (d:=some d) (fun k hk=>by cases hk; exact hd) hk
     ·simp only [av] at he
      cases he
      rw [h4]
      exact Jf hC hK (d:=some d) (fun k hk=>by cases hk; exact hd) hk
 ·refine vu hC hK (d:=some d) hx (fun k hk=>by cases hk; exact hd) hk
end
end Go.Fw
/- Soundness, part 7: what is held, shown as nobody's own. -/
namespace Go.Fw
open Go Go.RowKit
section
variable {P:Program} {B:Nat} {G0:Nat→Nat→Prop} {W0:dc} {n:Nat} {env:Env} {tm:Array Value} {a:Act} {w:World} {ob:Nat→OB}
theorem Jl (o:ax):o.bo.l=o.l.bo:=by cases o<;>rfl
theorem Jm (o:ax):o.bo.r=o.r.bo:=by cases o<;>rfl
theorem vz {o:ax}:o.bo.pure=o.pure:=by
 induction o with
 | no=>rfl
 | hole=>rfl
 | own=>rfl
 | mp=>rfl
 | pair a b iha ihb=>simp [ax.bo,ax.pure,iha,ihb]
theorem R1 {o:ax}:o.bo.whole=o.whole:=by
 induction o with
 | no=>rfl
 | hole=>rfl
 | own wr e o ih=>simp [ax.bo,ax.whole,ih]
 | mp=>rfl
 | pair a b iha ihb=>simp [ax.bo,ax.whole,iha,ihb]
theorem mW:∀ (p:Path) (o:ax),cd o.bo p=(cd o p).bo
 | [],_=>rfl
 | .l::p,o=>by simp only [cd,Jl]; exact mW p o.l
 | .r::p,o=>by simp only [cd,Jm]; exact mW p o.r
 | .ix _::_,_=>rfl
def cN (ob2 ob:OB):Prop:=blocks ob2=blocks ob∧∀ b lim,(b,lim)∈ob2→∃ lim',(b,lim')∈ob∧lim'≤lim
theorem cN.refl (ob:OB):cN ob ob:=⟨rfl,fun b lim h=>⟨lim,h,cE _⟩⟩
theorem cN.append {a b c d:OB} (h:cN a c) (k:cN b d):cN (a++b) (c++d):=by
 refine ⟨by rw [eW,eW,h.1,k.1],fun x lim hx=>?_⟩
 rcases dD.1 hx with hx | hx
 ·obtain ⟨l,h1,h2⟩:=h.2 x lim hx; exact ⟨l,gp _ h1,h2⟩
 ·obtain ⟨l,h1,h2⟩:=k.2 x lim hx; exact ⟨l,iK _ h1,h2⟩
theorem cN.bN (v:Value) {l l':Nat} (h:l≤l'):cN (bN v l') (bN v l):=by
 unfold Fw.bN
 cases v.ownBlock with
 | none=>exact cN.refl _
 | some g=>exact ⟨rfl,fun b lim hb=>by simp at hb; exact ⟨l,by simp [hb.1],by omega⟩⟩
theorem Flat.bo (P:Program):∀ (T:Ty) {w:World} {G:Nat→Nat→Prop} {B:Nat} {o:ax} {x:den T} {vs:List Value} {ob:OB},Flat P T w G B o x vs ob→∃ ob2,Flat P T w G B o.bo x vs ob2∧cN ob2 ob
 | .int k,_,_,_,_,_,_,_,h=>⟨_,by unfold Flat at h ⊢; exact h,cN.refl _⟩
 | .bool,_,_,_,_,_,_,_,h=>⟨_,by unfold Flat at h ⊢; exact h,cN.refl _⟩
 | .str,_,_,_,_,_,_,_,h=>⟨_,by unfold Flat at h ⊢; exact h,cN.refl _⟩
 | .unit,_,_,_,_,_,_,_,h=>⟨_,by unfold Flat at h ⊢; exact h,cN.refl _⟩
 | .pair A C,_,_,_,_,_,_,_,h=>by
   unfold Flat at h
   obtain ⟨v1,v2,b1,b2,rfl,rfl,h1,h2⟩:=h
   obtain ⟨c1,k1,l1⟩:=Flat.bo P A h1
   obtain ⟨c2,k2,l2⟩:=Flat.bo P C h2
   exact ⟨c1++c2,by unfold Flat; exact ⟨v1,v2,c1,c2,rfl,rfl,by rw [Jl]; exact k1,by rw [Jm]; exact k2⟩,cN.append l1 l2⟩
 | .arr n T,_,_,_,_,_,_,_,h=>⟨_,by unfold Flat at h ⊢; exact h,cN.refl _⟩
 | .fn A C,_,_,_,_,_,_,_,h=>⟨_,by unfold Flat at h ⊢; exact h,cN.refl _⟩
 | .map K V,_,_,_,o,_,_,_,h=>by
   cases o with
   | mp | no | hole=>exact ⟨_,h,cN.refl _⟩
   | pair | own=>exact ⟨_,by unfold Flat at h; simp only [ax.bo]; unfold Flat; exact h,cN.refl _⟩
 | .sl T,w,G,B,o,xs,vs,ob,h=>by
   cases o with
   | no=>exact ⟨_,h,cN.refl _⟩
   | hole=>exact ⟨_,h,cN.refl _⟩
   | pair a b=>exact ⟨_,by unfold Flat at h; simp only [ax.bo]; unfold Flat; exact h,cN.refl _⟩
   | mp=>exact ⟨_,h,cN.refl _⟩
   | own wr e o=>
     unfold Flat at h
     obtain ⟨v,cells,ob',rfl,h2,h3,rfl⟩:=h
     have key:∀ {xs:List (den T)} {vs:List Value} {ob:OB},aL (Flat P T w G B o) xs vs ob→∃ ob2,aL (Flat P T w G B o.bo) xs vs ob2∧cN ob2 ob:=by
      intro xs
      induction xs with
      | nil=>rintro vs ob ⟨rfl,rfl⟩; exact ⟨[],⟨rfl,rfl⟩,cN.refl _⟩
      | cons x xs ih=>
        rintro vs ob ⟨u1,u2,c1,c2,rfl,rfl,hr,ht⟩
        obtain ⟨d1,k1,l1⟩:=Flat.bo P T hr
        obtain ⟨d2,k2,l2⟩:=ih ht
        exact ⟨d1++d2,⟨u1,u2,d1,d2,rfl,rfl,k1,k2⟩,cN.append l1 l2⟩
     obtain ⟨d,k,l⟩:=key h3
     refine ⟨bN v (if false=true then 0 else xs.length * ay T)++d,?_,cN.append (cN.bN v (by split<;>simp)) l⟩
     simp only [ax.bo]
     unfold Flat
     exact ⟨v,cells,d,rfl,h2,k,rfl⟩
theorem qP {T:Ty} {G G':Nat→Nat→Prop} {wr:Bool} {e:TypeId} {o:ax} {xs:List (den T)} {v:Value} {b:OB} (h:Flat P (.sl T) w G B (.own wr e o) xs [v] b) (ho:o.pure=true)
  (hG:∀ b i,b < w.heap.size→G b i→G' b i) (hgood:∀ g i,v.ownBlock=some g→B≤g→i < xs.length * ay T→G' g i):Flat P (.sl T) w G' B .no xs [v] []:=by
 unfold Flat at h
 obtain ⟨v',cells,ob',h1,h2,h3,rfl⟩:=h
 simp only [gC,and_true] at h1
 subst h1
 obtain ⟨_,h4⟩:=aL.pure P (o':=.no) ho rfl h3
 unfold Flat
 refine ⟨rfl,?_⟩
 have h2':=h2
 rcases h2.2 with ⟨rfl,hn⟩ | ⟨g,cap,cur,e',fz,rfl,hBg,hg,hnc,hcm,hcs,htake,_,_⟩
 ·refine ⟨none,0,by rw [hn],by omega,by unfold maxLen; omega,.inl (lh hn)⟩
 ·refine ⟨some ⟨g,0,none⟩,cap,rfl,hnc,hcm,.inr ⟨g,0,cells,rfl,aL.imp (fun x v b hb hx=>Flat.mono P T (fun b i hb h=>⟨hG b i hb h,rfl⟩) (bV.refl _ _) (fun _ _=>rfl) hx) h4,fun j u hj=>?_⟩⟩
  have hc:=h2'.cells (g:=g) rfl j u hj
  rw [lr] at hc
  refine ⟨hc,hgood g (0+j) rfl hBg ?_⟩
  have:=(kc.1 hj).1
  rw [h2.1] at this; omega
theorem af8 {l:OB} (h:(blocks l).Nodup) {b x y:Nat} (hx:(b,x)∈l) (hy:(b,y)∈l):x=y:=by
 induction l with
 | nil=>exact absurd hx (by simp)
 | cons q r ih=>
   rw [jU,List.nodup_cons] at h
   rcases cS.1 hx with e1 | hx'<;>rcases cS.1 hy with e2 | hy'
   ·rw [←e1] at e2; exact (Prod.mk.inj e2).2.symm
   ·exact absurd (aE.2 ⟨y,hy'⟩) (by rw [←e1] at h; exact h.1)
   ·exact absurd (aE.2 ⟨x,hx'⟩) (by rw [←e2] at h; exact h.1)
   ·exact ih h.2 hx' hy'
theorem ue (hC:ah P B G0 W0 n env tm w ob) {s g lim:Nat} (h:(g,lim)∈ob s) {i:Nat} (hi:i < lim) (hB:B≤g):Gd B G0 ob g i:=by
 refine .inr ⟨hB,hC.free _ _ hB (hC.prot s g (aE.2 ⟨_,h⟩)),fun k lim' hk=>?_⟩
 have:=hC.dist s k g (aE.2 ⟨_,h⟩) (aE.2 ⟨_,hk⟩)
 subst this
 rw [←af8 (hC.nodup s) h hk]; exact hi
theorem R0 (hC:ah P B G0 W0 n env tm w ob) {s:Nat} {wr:Bool} {e:TypeId} {T:Ty} {o:ax} {xs:List (den T)} (hs:look env s=.own wr e T o xs):
  ∃ bs,cN bs (ob s)∧ah P B G0 W0 n ((s,.own false e T o.bo xs)::env) tm w (fh ob s bs):=by
 have hr:=hC.rep s
 rw [hs] at hr
 obtain ⟨bs,h1,h2⟩:=Flat.bo P (.sl T) (o:=.own wr e o) hr
 refine ⟨bs,h2,ah.relabel hC h2.1 h2.2 ?_ ?_⟩
 ·refine ⟨fun p v _ hv=>?_,fun p h hh=>?_,fun T' o' x' hx=>?_,fun p v hm _=>by simp [eP,hs] at hm⟩
  ·simp only [bj,hs] at hv
   simp only [bj]; rw [aP,if_pos rfl]; exact hv
  ·simp only [bc,hs] at hh
   simp only [bc]; rw [aP,if_pos rfl]
   cases p with
   | nil=>simp only [aw] at hh; subst hh; exact ⟨_,rfl,rfl,rfl⟩
   | cons=>exact absurd hh (by simp)
  ·rw [hs] at hx; exact absurd hx (by simp)
 ·refine Flat.mono P (.sl T) (fun b i _ h=>⟨?_,rfl⟩) (bV.refl _ _) (fun _ _=>rfl) h1
  refine oP (fun j b lim hj=>?_) h
  by_cases hjs:j=s
  ·subst hjs; rw [eJ] at hj; obtain ⟨l,h3,h4⟩:=h2.2 b lim hj; exact ⟨j,l,h3,h4⟩
  ·rw [eb _ _ hjs] at hj; exact ⟨j,lim,hj,cE _⟩
theorem Kx {T:Ty} {o:ax} {x:den T} {env:Env} {s:Nat} (hs:look env s=.loc T o x) (p:Path) {h:ka} (hh:bc env s p=some h):
  bc ((s,.loc T o.bo x)::env) s p=some ⟨false,h.e,h.T,h.o.bo,h.xs⟩:=by
 simp only [bc,hs] at hh
 simp only [bc]; rw [aP,if_pos rfl]
 simp only [mW]
 split at hh
 ·rename_i wr e o' T' xs he hg
  simp only [aw] at hh
  subst hh
  rw [he,hg]; rfl
 ·exact absurd hh (by simp)
theorem af3 {T:Ty} {o:ax} {x:den T} {env:Env} {s:Nat} (hs:look env s=.loc T o x) (p:Path) (hh:eP env s p=true):eP ((s,.loc T o.bo x)::env) s p=true:=by
 simp only [eP,hs] at hh
 simp only [eP]; rw [aP,if_pos rfl]
 simp only [mW]
 split at hh
 ·rename_i K V xs he hg
  rw [he,hg]; rfl
 ·exact absurd hh (by simp)
theorem X8 (hC:ah P B G0 W0 n env tm w ob) {s:Nat} {T:Ty} {o:ax} {x:den T} (hs:look env s=.loc T o x):
  ∃ bs,cN bs (ob s)∧ah P B G0 W0 n ((s,.loc T o.bo x)::env) tm w (fh ob s bs):=by
 have hr:=hC.rep s
 rw [hs] at hr
 obtain ⟨b,cur,e,ob',h1,h2,h3,h4,h5⟩:=hr
 obtain ⟨bs,h6,h7⟩:=Flat.bo P T h4
 have hL:cN ((b,0)::bs) (ob s):=by rw [h5]; exact cN.append (cN.refl [(b,0)]) h7
 refine ⟨(b,0)::bs,hL,ah.relabel hC hL.1 hL.2 ?_ ?_⟩
 ·refine ⟨fun p v _ hv=>?_,fun p h hh=>⟨_,Kx hs p hh,rfl,rfl⟩,fun T' o' x' hx=>?_,fun p v hm hv=>⟨af3 hs p hm,?_⟩⟩
  ·simp only [bj,hs] at hv
   simp only [bj]; rw [aP,if_pos rfl]; exact hv
  ·rw [hs] at hx
   cases hx
   exact ⟨_,_,by rw [aP,if_pos rfl],rfl⟩
  ·simp only [bj,hs] at hv
   simp only [bj]; rw [aP,if_pos rfl]; exact hv
 ·refine ⟨b,cur,e,bs,h1,h2,h3,Flat.mono P T (fun b i _ h=>⟨?_,rfl⟩) (bV.refl _ _) (fun _ _=>rfl) h6,rfl⟩
  refine oP (fun j b lim hj=>?_) h
  by_cases hjs:j=s
  ·subst hjs; rw [eJ] at hj; obtain ⟨l,h8,h9⟩:=hL.2 b lim hj; exact ⟨j,l,h8,h9⟩
  ·rw [eb _ _ hjs] at hj; exact ⟨j,lim,hj,cE _⟩
structure eT (ob ob':Nat→OB):Prop where
 less:∀ j,cN (ob' j) (ob j)
theorem eT.refl (ob:Nat→OB):eT ob ob:=⟨fun _=>cN.refl _⟩
theorem eT.WU {s:Nat} {bs:OB} (h:cN bs (ob s)):eT ob (fh ob s bs):=⟨fun j=>by
 by_cases hj:j=s
 ·subst hj; rw [eJ]; exact h
 ·rw [eb _ _ hj]; exact cN.refl _⟩
theorem eT.Gd {ob':Nat→OB} (h:eT ob ob') {b i:Nat} (hg:Gd B G0 ob b i):Fw.Gd B G0 ob' b i:=
 oP (fun j b lim hj=>by obtain ⟨l,h1,h2⟩:=(h.less j).2 b lim hj; exact ⟨j,l,h1,h2⟩) hg
theorem Cm (hC:ah P B G0 W0 n env tm w ob) (s:Nat):∃ ob',eT ob ob'∧ah P B G0 W0 n (freeze env s) tm w ob':=by
 unfold freeze
 split
 ·rename_i hs; obtain ⟨bs,h1,h2⟩:=R0 hC hs; exact ⟨_,eT.WU h1,h2⟩
 ·rename_i hs
  split
  ·exact ⟨ob,eT.refl _,hC⟩
  ·obtain ⟨bs,h1,h2⟩:=X8 hC hs; exact ⟨_,eT.WU h1,h2⟩
 ·exact ⟨ob,eT.refl _,hC⟩
theorem CX (hC:ah P B G0 W0 n env tm w ob) {s:Nat} {p:Path} {h:ka} {v:Value} {G':Nat→Nat→Prop} (hh:bc env s p=some h) (hv:bj w tm env s p=some v) (ho:h.o.pure=true)
  (hG:∀ b i,b < w.heap.size→Gd B G0 ob b i→G' b i) (hw:h.wr=false∨∀ b i,G' b i):Flat P (.sl h.T) w G' B .no h.xs [v] []:=by
 have hr:=hC.rep s
 simp only [bc] at hh
 simp only [bj] at hv
 have good:∀ {wr e} {T:Ty} {o:ax} {xs:List (den T)} {v:Value} {b:OB},(wr=false∨∀ b i,G' b i)→Flat P (.sl T) w (Gd B G0 ob) B (.own wr e o) xs [v] b→(∀ q∈b,q∈ob s)→∀ g i,v.ownBlock=some g→B≤g→i < xs.length * ay T→G' g i:=by
  intro wr e T o xs v b hw hF hsub g i hg hB hi
  rcases hw with hw | hw
  ·subst hw
   have hF':=hF
   unfold Flat at hF
   obtain ⟨v',cells,ob',e1,h2,h3,rfl⟩:=hF
   simp only [gC,and_true] at e1
   subst e1
   have hrec:(g,xs.length * ay T)∈ob s:=hsub _ (gp _ (by simp [bN,hg]))
   exact hG g i (hC.low s g (aE.2 ⟨_,hrec⟩)).2 (ue hC hrec hi hB)
  ·exact hw g i
 split at hh
 ·rename_i wr e T o xs hs
  rw [hs] at hr hv
  split at hh
  ·simp only [aw] at hh
   subst hh
   simp only [aw] at hv
   subst hv
   exact qP hr ho hG (good hw hr (fun q hq=>hq))
  ·exact absurd hh (by simp)
 ·rename_i T o x hs
  rw [hs] at hr hv
  obtain ⟨b,cur,e,ob',h1,h2,h3,h4,h5⟩:=hr
  split at hh
  ·rename_i wr e' o' T' xs he hg
   simp only [aw] at hh
   subst hh
   obtain ⟨v1,v2,v3,b1,b2,b3,hvs,hob,hl,hF,_⟩:=Flat.lens P p T h4 hg
   rw [he] at hF
   have hv2:v2.length=1:=Flat.len P (.sl T') hF
   obtain ⟨u,rfl⟩:=oR.1 hv2
   have hcell:w.cell? ⟨b,a8 T p,none⟩=some u:=by
    rw [cell_of_row w b _ cur e (0,0) h3,←jd,hvs,←hl]
    simp
   simp only [h1] at hv
   rw [hcell] at hv
   simp only [aw] at hv
   subst hv
   exact qP hF ho hG (good hw hF (fun q hq=>by rw [h5,hob]; simp [hq]))
  ·exact absurd hh (by simp)
 ·exact absurd hh (by simp)
theorem z8 (T:Ty) (v:Value):bh (.sl T) [v]=v:=rfl
theorem mu {x:Operand} {y:Od} (hC:ah P B G0 W0 n env a.tmps w ob) (hx:aF x y=true) {z:TV} (hi:cZ env (av env y)=some z):
  ∃ vs,a.eval x=bh z.1 vs∧Flat P z.1 w (fun _ _=>True) B .no z.2 vs []:=by
 have hr:=fr hC hx
 unfold cZ at hi
 split at hi
 ·rename_i T x he
  simp only [aw] at hi; subst hi
  rw [he] at hr
  obtain ⟨_,vs,h1,h2⟩:=hr
  exact ⟨vs,h2,Flat.mono P T (fun _ _ _ _=>⟨trivial,rfl⟩) (bV.refl _ _) (by simp) h1⟩
 ·rename_i wr e T o xs he
  split at hi
  ·rename_i ho
   simp only [aw] at hi; subst hi
   rw [he] at hr
   exact ⟨[a.eval x],rfl,qP hr ho (fun _ _ _ _=>trivial) (fun _ _ _ _ _=>trivial)⟩
  ·exact absurd hi (by simp)
 ·rename_i s p he
  rw [he] at hr
  obtain ⟨_,h1,_⟩:=hr
  simp only [aq] at hi
  obtain ⟨h,hh,hi⟩:=hi
  split at hi
  ·rename_i ho
   simp only [aw] at hi; subst hi
   exact ⟨[a.eval x],rfl,CX hC hh h1 ho (fun _ _ _ _=>trivial) (.inr fun _ _=>trivial)⟩
  ·exact absurd hi (by simp)
 ·exact absurd hi (by simp)
theorem aeU (env:Env) (s:Nat):(look (freeze env s) s=look env s)∨(∃ wr e T o xs,look env s=.own wr e T o xs∧look (freeze env s) s=.own false e T o.bo xs)∨(∃ T o x,look env s=.loc T o x∧look (freeze env s) s=.loc T o.bo x):=by
 unfold freeze
 split
 ·rename_i hs; exact .inr (.inl ⟨_,_,_,_,_,hs,by rw [aP,if_pos rfl]⟩)
 ·rename_i hs
  split
  ·exact .inl rfl
  ·exact .inr (.inr ⟨_,_,_,hs,by rw [aP,if_pos rfl]⟩)
 ·exact .inl rfl
theorem TL {env:Env} {s:Nat} {p:Path} {h:ka} (hh:bc env s p=some h):bc (freeze env s) s p=some ⟨false,h.e,h.T,h.o.bo,h.xs⟩:=by
 unfold freeze
 cases hs:look env s with
 | own wr e T o xs=>
   simp only [bc,hs] at hh
   simp only [bc]; rw [aP,if_pos rfl]
   cases p with
   | nil=>simp only [aw] at hh; subst hh; rfl
   | cons=>exact absurd hh (by simp)
 | loc T o x=>
   have h1:=Kx hs p hh
   simp only
   split
   ·rename_i hst
    rw [ax.tU hst] at h1
    simp only [bc] at h1 ⊢
    rw [aP,if_pos rfl] at h1
    rw [hs]; exact h1
   ·exact h1
 | _=>simp [bc,hs] at hh
theorem TK (w:World) (tm:Array Value) (env:Env) (s:Nat) (p:Path):bj w tm (freeze env s) s p=bj w tm env s p:=by
 unfold freeze
 cases hs:look env s
 case loc T o x=>cases ho:o.stays<;>simp only [ho,bj,aP,if_true,hs]
 all_goals simp only [bj,aP,if_true,hs]
theorem la {x:Operand} {y:Od} (hC:ah P B G0 W0 n env a.tmps w ob) (hx:aF x y=true) {env':Env} {z:TV} (hi:dZ env y=some (env',z)):
  ∃ ob',eT ob ob'∧ah P B G0 W0 n env' a.tmps w ob'∧∃ vs,a.eval x=bh z.1 vs∧Flat P z.1 w (Gd B G0 ob') B .no z.2 vs []:=by
 have hr:=fr hC hx
 unfold dZ at hi
 simp only [aq,aw,eN] at hi
 obtain ⟨z',hi,henv,rfl⟩:=hi
 unfold cZ at hi
 split at hi
 ·rename_i T x he
  simp only [aw] at hi; subst hi
  rw [he] at hr henv
  simp only [fD] at henv; subst henv
  obtain ⟨_,vs,h1,h2⟩:=hr
  exact ⟨ob,eT.refl _,hC,vs,h2,h1⟩
 ·rename_i wr e T o xs he
  split at hi
  ·rename_i ho
   simp only [aw] at hi; subst hi
   rw [he] at hr henv
   cases y with
   | t k=>
     simp only [fD] at henv; subst henv
     simp only [av] at he
     obtain ⟨ob',hf,hC'⟩:=Cm hC k
     refine ⟨ob',hf,hC',[a.eval x],rfl,?_⟩
     have hh:bc env k []=some ⟨wr,e,T,o,xs⟩:=by simp [bc,he]
     have:=CX (G':=Gd B G0 ob') hC' (TL hh) (v:=a.tmps.getD k undef) (by rw [TK]; simp [bj,he]) (by simpa only [vz] using ho) (fun _ _ _ h=>h) (.inl rfl)
     rw [jH hx a]
     exact this
   | nil e' T'=>
     simp only [fD] at henv; subst henv
     simp only [av] at he; cases he
     exact ⟨ob,eT.refl _,hC,[a.eval x],rfl,qP hr ho (fun _ _ _ h=>h) (fun g i hg _ hi=>absurd hi (by simp))⟩
   | c T x=>simp [av] at he
   | fn f A C=>simp [av] at he
  ·exact absurd hi (by simp)
 ·rename_i s p he
  rw [he] at hr henv
  simp only [fD] at henv; subst henv
  obtain ⟨_,h1,_⟩:=hr
  simp only [aq] at hi
  obtain ⟨h,hh,hi⟩:=hi
  split at hi
  ·rename_i ho
   simp only [aw] at hi; subst hi
   obtain ⟨ob',hf,hC'⟩:=Cm hC s
   exact ⟨ob',hf,hC',[a.eval x],rfl,CX (h:=⟨false,h.e,h.T,h.o.bo,h.xs⟩) (G':=Gd B G0 ob') hC' (TL hh) (by rw [TK]; exact h1) (by simpa only [vz] using ho) (fun _ _ _ h=>h) (.inl rfl)⟩
  ·exact absurd hi (by simp)
 ·exact absurd hi (by simp)
end
end Go.Fw
/- Soundness, part 8: operations without calls, first part. -/
namespace Go.Fw
open Go Go.RowKit
def asN:Nat:=40
section
variable {ks:IntKind} {P:Program} {B:Nat} {G0:Nat→Nat→Prop} {W0:dc} {n:Nat} {env:Env} {a:Act} {w:World} {ob:Nat→OB}
theorem Ea {x:Operand} {y:Od} {b:Bool} (hC:ah P B G0 W0 n env a.tmps w ob) (hx:aF x y=true) (h:mY (av env y)=some b):a.eval x=.bool b:=by
 have hr:=fr hC hx
 unfold mY at h
 split at h
 ·rename_i b' he
  simp only [aw] at h; subst h
  rw [he] at hr
  obtain ⟨_,vs,h1,h2⟩:=hr
  unfold Flat at h1
  rw [h2,h1.1]; rfl
 ·exact absurd h (by simp)
theorem my {x:Operand} {y:Od} {k:IntKind} {m:Int} (hC:ah P B G0 W0 n env a.tmps w ob) (hx:aF x y=true) (he:av env y=.v (.int k) m):a.eval x=.int k m∧fT k m:=by
 have hr:=fr hC hx
 rw [he] at hr
 obtain ⟨_,vs,h1,h2⟩:=hr
 unfold Flat at h1
 rw [h2,h1.1]; exact ⟨rfl,h1.2.1⟩
theorem s9 {x:Operand} {y:Od} {q:IntKind×Int} (hC:ah P B G0 W0 n env a.tmps w ob) (hx:aF x y=true) (h:ky (av env y)=some q):a.eval x=.int q.1 q.2∧fT q.1 q.2:=by
 unfold ky at h
 split at h
 ·rename_i k m he
  simp only [aw] at h; subst h
  exact my hC hx he
 ·exact absurd h (by simp)
theorem Lq {x:Operand} {y:Od} {s:List UInt8} (hC:ah P B G0 W0 n env a.tmps w ob) (hx:aF x y=true) (he:av env y=.v .str s):a.eval x=.string ⟨⟨s⟩⟩∧s.length≤maxLen:=by
 have hr:=fr hC hx
 rw [he] at hr
 obtain ⟨_,vs,h1,h2⟩:=hr
 unfold Flat at h1
 rw [h2,h1.1]; exact ⟨rfl,h1.2.1⟩
theorem tV {x:Operand} {y:Od} {s:List UInt8} (hC:ah P B G0 W0 n env a.tmps w ob) (hx:aF x y=true) (h:mK (av env y)=some s):a.eval x=.string ⟨⟨s⟩⟩∧s.length≤maxLen:=by
 unfold mK at h
 split at h
 ·rename_i s' he
  simp only [aw] at h; subst h
  exact Lq hC hx he
 ·exact absurd h (by simp)
theorem lf (G:Nat→Nat→Prop) (tm:Array Value) (b:Bool):bn P w G B tm env (.v .bool b) (.bool b) []:=⟨rfl,[.bool b],by unfold Flat; exact ⟨rfl,rfl⟩,rfl⟩
theorem kG (G:Nat→Nat→Prop) (tm:Array Value) {k:IntKind} {m:Int} (h:fT k m):bn P w G B tm env (.v (.int k) m) (.int k m) []:=⟨rfl,[.int k m],by unfold Flat; exact ⟨rfl,h,rfl⟩,rfl⟩
theorem W1 (G:Nat→Nat→Prop) (tm:Array Value) {s:List UInt8} (h:s.length≤maxLen):bn P w G B tm env (.v .str s) (.string ⟨⟨s⟩⟩) []:=⟨rfl,[.string ⟨⟨s⟩⟩],by unfold Flat; exact ⟨rfl,h,rfl⟩,rfl⟩
theorem ar1 (k:IntKind) (m q:Int) (h:fT k m):fT k (m.tmod q):=by
 have h1:m.tmod q=m - q * m.tdiv q:=Int.tmod_def m q
 have h0:k.min≤0∧0≤k.max:=by cases k<;>decide
 have hn:(m.tmod q).natAbs≤m.natAbs:=by rw [Int.natAbs_tmod]; exact Nat.mod_le _ _
 rcases Int.le_total 0 m with hm | hm
 ·have:=Int.tmod_nonneg q hm
  exact ⟨by omega,by have:=h.2; omega⟩
 ·have h2:m.tmod q≤0:=by
   have:=Int.tmod_nonneg q (show 0≤ -m by omega)
   rw [Int.neg_tmod] at this; omega
  exact ⟨by have:=h.1; omega,by omega⟩
theorem toList_mk (s:List UInt8):(⟨⟨s⟩⟩:ByteArray).toList=s:=ByteArray.toList_mk s
theorem Xy (s t:List UInt8):(⟨⟨s⟩⟩:ByteArray)++⟨⟨t⟩⟩=⟨⟨s++t⟩⟩:=by
 have:((⟨⟨s⟩⟩:ByteArray)++⟨⟨t⟩⟩).data=⟨s++t⟩:=by
  rw [ByteArray.data_append]; simp
 cases h:(⟨⟨s⟩⟩:ByteArray)++⟨⟨t⟩⟩
 rw [h] at this
 simp only at this
 rw [this]
variable {R:Type} {K:cM R} {r:R} {next:Act→World→Prop} {Q:Exit→Act→World→Prop} {o:Oper} {i:AI} {cl:az}
theorem KB {m:Nat} (h:m≤maxLen):fT .i64 (m:Int):=by
 unfold maxLen at h
 constructor
 ·show (-9223372036854775808:Int)≤_; omega
 ·show _≤(9223372036854775807:Int); omega
theorem yP (k:IntKind) (m:Int):fT k (k.wrap m):=wrap_within k m
theorem alz {x:Operand} {y:Od} (hC:ah P B G0 W0 n env a.tmps w ob) (hK:bE P B G0 W0 n a K r next) (hd:∀ k,o.dst=some k→bl W0 n k) (hdst:i.dst=o.dst)
  (ho:o.op=.move x) (hi:i.op=.mv y) (hx:aF x y=true) (h:step cl i env K=some r):o.wp P a w next Q:=by
 unfold step at h; rw [hi] at h; simp only [hdst] at h
 exact bp (v:=a.eval x) (by simp [execOp,ho]) (X5 hC hK hx hd h)
theorem ak0 {x:Operand} {y:Od} (hC:ah P B G0 W0 n env a.tmps w ob) (hK:bE P B G0 W0 n a K r next) (hd:∀ k,o.dst=some k→bl W0 n k) (hdst:i.dst=o.dst)
  (ho:o.op=.assign x) (hi:i.op=.ab y) (hx:aF x y=true) (h:step cl i env K=some r):o.wp P a w next Q:=by
 unfold step at h; rw [hi] at h; simp only [hdst] at h
 split at h
 ·rename_i d hdd
  refine bp (w':=w) (v:=a.eval x) (by simp [execOp,ho]) ?_
  rw [hdd]
  exact X4 hC hK hx (hd d hdd) h
 ·exact absurd h (by simp)
theorem alC {c x y:Operand} {c' x' y':Od} (hC:ah P B G0 W0 n env a.tmps w ob) (hK:bE P B G0 W0 n a K r next) (hd:∀ k,o.dst=some k→bl W0 n k) (hdst:i.dst=o.dst)
  (ho:o.op=.pick c x y) (hi:i.op=.pick c' x' y') (hc:aF c c'=true) (hx:aF x x'=true) (hy:aF y y'=true) (h:step cl i env K=some r):o.wp P a w next Q:=by
 unfold step at h; rw [hi] at h; simp only [hdst,aq] at h
 obtain ⟨q,hq,h⟩:=h
 have hv:=Ea hC hc hq
 cases q with
 | true=>exact bp (v:=a.eval x) (by simp [execOp,ho,hv,asBool]) (vu hC hK hx hd h)
 | false=>exact bp (v:=a.eval y) (by simp [execOp,ho,hv,asBool]) (vu hC hK hy hd h)
theorem akr {op:BinOp} {k:IntKind} {m q z:Int} (xt:TypeId) (h:arith op k m q=some z):(binOp op xt (.int k m) (.int k q)).run P w=.ok (.int k z) w∧fT k z:=by
 unfold arith at h
 split at h<;>first | (simp at h; done) | skip
 all_goals (simp only [aw] at h; subst h)
 all_goals refine ⟨?_,?_⟩
 all_goals first
  | exact yP _ _
  | exact bits_within _ _ _ _
  | (simp [binOp,Op.intArith]; done)
  | (simp only [binOp,ne_eq,not_true_eq_false,if_false]; rfl)
theorem akt {op:BinOp} {k:IntKind} {m q:Int} {z:Bool} (xt:TypeId) (h:BO op m q=some z):(binOp op xt (.int k m) (.int k q)).run P w=.ok (.bool z) w:=by
 unfold BO at h
 split at h<;>first | (simp at h; done) | skip
 all_goals (simp only [aw] at h; subst h; simp [binOp,Op.intCmp])
theorem Wg {op:BinOp} {xt:TypeId} {x y:Operand} {k k':IntKind} {m q:Int}:(eqGuard op xt x y (.int k m) (.int k' q)).run P w=.ok () w:=by cases op<;>rfl
theorem akv {op:BinOp} {xt:TypeId} {x y:Operand} {s t:ByteArray}:(eqGuard op xt x y (.string s) (.string t)).run P w=.ok () w:=by cases op<;>rfl
theorem ak1 {op:BinOp} {xt yt:TypeId} {x y:Operand} {x' y':Od} (hC:ah P B G0 W0 n env a.tmps w ob) (hK:bE P B G0 W0 n a K r next) (hd:∀ k,o.dst=some k→bl W0 n k) (hdst:i.dst=o.dst)
  (ho:o.op=.binOp op xt x y yt) (hi:i.op=.bin op x' y') (hx:aF x x'=true) (hy:aF y y'=true) (h:step cl i env K=some r):o.wp P a w next Q:=by
 unfold step at h; rw [hi] at h; simp only [hdst] at h
 split at h
 ·rename_i k m k' q hex hey
  split at h
  ·rename_i hkk
   subst hkk
   have hvx:=my hC hx hex
   have hvy:=my hC hy hey
   have hgd:(eqGuard op xt x y (.int k m) (.int k q)).run P w=.ok () w:=Wg
   split at h
   ·split at h
    ·exact absurd h (by simp)
    ·rename_i hq
     exact bp (v:=.int k (k.wrap (m.tdiv q))) (by simp [execOp,ho,hvx.1,hvy.1,hgd,binOp,Op.intDiv,hq]) (bz hC hK hd (aO.refl w) (kG _ _ (yP _ _)) h)
   ·split at h
    ·exact absurd h (by simp)
    ·rename_i hq
     have hin:fT k (m.tmod q):=ar1 k m q hvx.2
     exact bp (v:=.int k (m.tmod q)) (by simp [execOp,ho,hvx.1,hvy.1,hgd,binOp,Op.intDiv,hq]) (bz hC hK hd (aO.refl w) (kG _ _ hin) h)
   ·split at h
    ·rename_i z hz
     exact bp (v:=.bool z) (by simp [execOp,ho,hvx.1,hvy.1,hgd,akt xt hz]) (bz hC hK hd (aO.refl w) (lf _ _ _) h)
    ·simp only [aq] at h
     obtain ⟨z,hz,h⟩:=h
     have hrz:=akr (P:=P) (w:=w) xt hz
     exact bp (v:=.int k z) (by simp [execOp,ho,hvx.1,hvy.1,hgd,hrz.1]) (bz hC hK hd (aO.refl w) (kG _ _ hrz.2) h)
  ·exact absurd h (by simp)
 ·rename_i s t hex hey
  have hvx:=Lq hC hx hex
  have hvy:=Lq hC hy hey
  have hgd:(eqGuard op xt x y (.string ⟨⟨s⟩⟩) (.string ⟨⟨t⟩⟩)).run P w=.ok () w:=akv
  have hs:(⟨⟨s⟩⟩:ByteArray).toList=s:=toList_mk s
  have ht:(⟨⟨t⟩⟩:ByteArray).toList=t:=toList_mk t
  split at h
  ·exact bp (v:=.bool (s==t)) (by simp [execOp,ho,hvx.1,hvy.1,hgd,binOp,Op.stringOp,hs,ht]) (bz hC hK hd (aO.refl w) (lf _ _ _) h)
  ·exact bp (v:=.bool (s != t)) (by simp [execOp,ho,hvx.1,hvy.1,hgd,binOp,Op.stringOp,hs,ht,bne]) (bz hC hK hd (aO.refl w) (lf _ _ _) h)
  ·split at h
   ·rename_i hle
    have hadd:(Op.stringOp .add ⟨⟨s⟩⟩ ⟨⟨t⟩⟩).run P w=.ok (.string ⟨⟨s++t⟩⟩) w:=by
     have:=run_string_add_sum (P:=P) w ⟨⟨s⟩⟩ ⟨⟨t⟩⟩ (by show s.length+t.length≤_; omega)
     rw [this,Xy]
    refine bp (v:=.string ⟨⟨s++t⟩⟩) (by simp [execOp,ho,hvx.1,hvy.1,hgd,binOp,hadd]) (bz hC hK hd (aO.refl w) (W1 _ _ ?_) h)
    rw [List.length_append]; unfold maxLen; omega
   ·exact absurd h (by simp)
  ·exact bp (v:=.bool (Op.bytesLess s t)) (by simp [execOp,ho,hvx.1,hvy.1,hgd,binOp,Op.stringOp,hs,ht]) (bz hC hK hd (aO.refl w) (lf _ _ _) h)
  ·exact bp (v:=.bool (Op.bytesLess s t || s==t)) (by simp [execOp,ho,hvx.1,hvy.1,hgd,binOp,Op.stringOp,hs,ht]) (bz hC hK hd (aO.refl w) (lf _ _ _) h)
  ·exact bp (v:=.bool (!(Op.bytesLess s t || s==t))) (by simp [execOp,ho,hvx.1,hvy.1,hgd,binOp,Op.stringOp,hs,ht]) (bz hC hK hd (aO.refl w) (lf _ _ _) h)
  ·exact bp (v:=.bool (!Op.bytesLess s t)) (by simp [execOp,ho,hvx.1,hvy.1,hgd,binOp,Op.stringOp,hs,ht]) (bz hC hK hd (aO.refl w) (lf _ _ _) h)
  ·exact absurd h (by simp)
 ·exact absurd h (by simp)
theorem abc (k:IntKind):k.min≤0∧0≤k.max:=by cases k<;>decide
theorem abb {k:IntKind} {m q:Int} (l:Bool) (hm:fT k m):fT k (tQ l k m q):=by
 unfold tQ
 cases l with
 | true=>exact yP _ _
 | false=>
   simp only
   have hz:=abc k
   have hp:(0:Int) < 2 ^ (min q.toNat k.bits):=Int.pow_pos (by decide)
   generalize (2:Int) ^ (min q.toNat k.bits)=p at hp
   unfold fT at hm ⊢
   rw [Int.fdiv_eq_ediv_of_nonneg _ (LJ hp)]
   rcases (by omega:m < 0∨0≤m) with h | h
   ·have h1:m / p < 0:=Int.ediv_neg_of_neg_of_pos h hp
    have h2:m≤m / p:=by
     rw [Int.le_ediv_iff_mul_le hp]
     have:=Int.mul_le_mul_of_nonpos_left (a:=m) (b:=p) (c:=1) (LJ h) hp
     omega
    omega
   ·have h1:0≤m / p:=Int.ediv_nonneg h (LJ hp)
    have h2:m / p≤m:=Int.ediv_le_self _ h
    omega
theorem alH {xt yt:TypeId} {l:Bool} {x y:Operand} {x' y':Od} (hC:ah P B G0 W0 n env a.tmps w ob) (hK:bE P B G0 W0 n a K r next) (hd:∀ k,o.dst=some k→bl W0 n k) (hdst:i.dst=o.dst)
  (ho:o.op=.binOp (if l then .shl else .shr) xt x y yt) (hi:i.op=.shift l x' y') (hx:aF x x'=true) (hy:aF y y'=true) (h:step cl i env K=some r):o.wp P a w next Q:=by
 unfold step at h; rw [hi] at h; simp only [hdst] at h
 split at h
 ·rename_i k m k' q hex hey
  split at h
  ·rename_i hq
   have hvx:=my hC hx hex
   have hvy:=my hC hy hey
   have hgd:∀ op,(eqGuard op xt x y (.int k m) (.int k' q)).run P w=.ok () w:=fun op=>Wg
   have hnq:¬ (show Int from q) < 0:=Int.not_lt.2 hq
   refine bp (v:=.int k (tQ l k m q)) ?_ (bz hC hK hd (aO.refl w) (kG _ _ (abb l hvx.2)) h)
   cases l<;>simp [execOp,ho,hvx.1,hvy.1,hgd,binOp,Op.shift,hnq,tQ]
  ·exact absurd h (by simp)
 ·exact absurd h (by simp)
theorem alO {op:UnOp} {xt:TypeId} {x:Operand} {x':Od} (hC:ah P B G0 W0 n env a.tmps w ob) (hK:bE P B G0 W0 n a K r next) (hd:∀ k,o.dst=some k→bl W0 n k) (hdst:i.dst=o.dst)
  (ho:o.op=.unOp op xt x) (hi:i.op=.un op x') (hx:aF x x'=true) (h:step cl i env K=some r):o.wp P a w next Q:=by
 unfold step at h; rw [hi] at h; simp only [hdst] at h
 split at h
 ·rename_i b hex
  have hv:=Ea hC hx (by rw [hex]; rfl)
  exact bp (v:=.bool (!b)) (by simp [execOp,ho,hv,Op.unary]) (bz hC hK hd (aO.refl w) (lf _ _ _) h)
 ·rename_i k m hex
  have hv:=my hC hx hex
  exact bp (v:=.int k (k.wrap (0 - m))) (by simp [execOp,ho,hv.1,Op.unary,Op.intArith]) (bz hC hK hd (aO.refl w) (kG _ _ (yP _ _)) h)
 ·exact absurd h (by simp)
theorem alb {s d:TypeId} {x:Operand} {x':Od} {k:IntKind} (hC:ah P B G0 W0 n env a.tmps w ob) (hK:bE P B G0 W0 n a K r next) (hd:∀ k,o.dst=some k→bl W0 n k) (hdst:i.dst=o.dst)
  (ho:o.op=.convert s d x) (hi:i.op=.kN k x') (hx:aF x x'=true) (hs:bH P s (.int ks)) (hdt:bH P d (.int k)) (h:step cl i env K=some r):o.wp P a w next Q:=by
 unfold step at h; rw [hi] at h; simp only [hdst,aq] at h
 obtain ⟨q,hq,h⟩:=h
 have hv:=s9 hC hx hq
 exact bp (v:=.int k (k.wrap q.2)) (by simp [execOp,ho,hv.1,convert,run_underlying hs.int,run_underlying hdt.int,Conv.intToInt]) (bz hC hK hd (aO.refl w) (kG _ _ (yP _ _)) h)
end
end Go.Fw
/- Soundness, part 9: operations without calls: variables, parts, elements that are read. -/
namespace Go.Fw
open Go Go.RowKit
section
variable {P:Program} {B:Nat} {G0:Nat→Nat→Prop} {W0:dc} {n:Nat} {env:Env} {a:Act} {w:World} {ob:Nat→OB}
variable {R:Type} {K:cM R} {r:R} {next:Act→World→Prop} {Q:Exit→Act→World→Prop} {o:Oper} {i:AI} {cl:az}
structure mV (P:Program) (t:TypeId) (T:Ty):Prop where
 ok:∃ i z vs,P.info? t=some i∧i.zero=some z∧gF T (zero T)=some vs∧z=bh T vs
theorem uS:∀ {T:Ty} {x:den T} {vs:List Value},gF T x=some vs→∀ u∈vs,u.oneCell'=true:=by
 intro T x vs h
 exact Flat.one (default:Program) T (w:=default) (G:=fun _ _=>True) (B:=0) (o:=.no) rfl (gw default T default _ 0 .no (gw.annOk_no T) h)
theorem uR {T:Ty} {x:den T} {vs:List Value} (h:gF T x=some vs):vs.length=ay T:=
 Flat.len (default:Program) T (w:=default) (G:=fun _ _=>True) (B:=0) (o:=.no) (gw default T default _ 0 .no (gw.annOk_no T) h)
theorem Vs {t:TypeId} {T:Ty} {oa:ax} {x:den T} {vs:List Value} {d:Option Nat} (hC:ah P B G0 W0 n env a.tmps w ob) (hK:bE P B G0 W0 n a K r next) (hd:∀ k,d=some k→bl W0 n k)
  (hF:Flat P T w (Gd B G0 ob) B oa x vs []) (hk:K (aM env d (.loc T oa x))=some r):next (a.put d (.pointer (some ⟨w.heap.size,0,none⟩))) (w.alloc (.cells vs.toArray t)):=by
 have hg:aO w (w.alloc (.cells vs.toArray t)):=aO.alloc w _
 cases d with
 | none=>exact bz (e:=.dead) hC hK hd hg (v:=undef) rfl hk
 | some k=>
   have h:=ah.mF (e:=.loc T oa x) (v:=.pointer (some ⟨w.heap.size,0,none⟩)) (bk:=[(w.heap.size,0)]) hC (hd k rfl) hg ?_ (by simp) (by simp)
   ·exact hK _ _ _ _ h hk
   ·rw [if_neg (by simp [leads])]
    refine ⟨w.heap.size,vs.toArray,t,[],rfl,hC.base,heap_alloc_new w _,?_,rfl⟩
    exact Flat.mono P T (fun b i hb h=>⟨rh (fun lim hl=>by simp at hl; omega) h,hg.cell hb⟩) ⟨hg.size,fun b hb=>hg.block b (dK hb hC.base)⟩ (by simp) (by simpa using hF)
theorem akY {t:TypeId} {T:Ty} {oa:ax} (hC:ah P B G0 W0 n env a.tmps w ob) (hK:bE P B G0 W0 n a K r next) (hd:∀ k,o.dst=some k→bl W0 n k) (hdst:i.dst=o.dst)
  (ho:o.op=.alloc t) (hi:i.op=.alloc T oa) (hz:mV P t T) (ha:iS T oa=true) (h:step cl i env K=some r):o.wp P a w next Q:=by
 unfold step at h; rw [hi] at h; simp only [hdst] at h
 obtain ⟨it,z,vs,h1,h2,h3,h4⟩:=hz.ok
 have hcells:z.cells=vs.toArray:=by rw [h4]; exact kj (uR h3) (uS h3)
 refine bp (v:=.pointer (some ⟨w.heap.size,0,none⟩)) (w':=w.alloc (.cells vs.toArray t)) ?_ (Vs hC hK hd (gw P T w _ B oa ha h3) h)
 simp [execOp,ho,Instr.alloc,zeroValue,typeInfo,h1,h2,newVar,newRow,hcells]
theorem ak2 {t:TypeId} {T:Ty} {x:Operand} {y:Od} (hC:ah P B G0 W0 n env a.tmps w ob) (hK:bE P B G0 W0 n a K r next) (hd:∀ k,o.dst=some k→bl W0 n k) (hdst:i.dst=o.dst)
  (ho:o.op=.box t x) (hi:i.op=.box T y) (hx:aF x y=true) (h:step cl i env K=some r):o.wp P a w next Q:=by
 unfold step at h; rw [hi] at h; simp only [hdst,aq] at h
 obtain ⟨⟨env',z⟩,hq,y',hy',h⟩:=h
 obtain ⟨ob',hf,hC',vs,hv,hF⟩:=la hC hx hq
 have:=cL hy'
 simp only at this; subst this
 have hcells:(a.eval x).cells=vs.toArray:=by rw [hv]; exact kj (Flat.len P T hF) (Flat.one P T rfl hF)
 refine bp (v:=.pointer (some ⟨w.heap.size,0,none⟩)) (w':=w.alloc (.cells vs.toArray t)) ?_ (Vs hC' hK hd hF h)
 simp [execOp,ho,Instr.box,newVar,newRow,hcells]
theorem kY (hC:ah P B G0 W0 n env a.tmps w ob) {s:Nat} {T0:Ty} {oa:ax} {x:den T0} (hs:look env s=.loc T0 oa x) {p:Path} {T:Ty} {y:den T} (hg:aH T0 p x=some ⟨T,y⟩):
  ∃ b cur e v1 v2 v3 b1 b2 b3,a.tmps.getD s undef=.pointer (some ⟨b,0,none⟩)∧w.heap[b]?=some (.cells cur e (0,0))∧B≤b∧cur.toList=v1++v2++v3∧v1.length=a8 T0 p∧ob s=(b,0)::(b1++b2++b3)∧
    Flat P T w (Gd B G0 ob) B (cd oa p) y v2 b2∧
    (∀ (o2:ax) (y2:den T) (u:List Value) (c:OB) (x2:den T0),(cC p=true→o2.pure=true)→Flat P T w (Gd B G0 ob) B o2 y2 u c→a6 T0 p x ⟨T,y2⟩=some x2→Flat P T0 w (Gd B G0 ob) B (fa oa p o2) x2 (v1++u++v3) (b1++c++b3)):=by
 have hr:=hC.rep s
 rw [hs] at hr
 obtain ⟨b,cur,e,ob',h1,h2,h3,h4,h5⟩:=hr
 obtain ⟨v1,v2,v3,b1,b2,b3,e1,e2,e3,e4,e5⟩:=Flat.lens P p T0 h4 hg
 exact ⟨b,cur,e,v1,v2,v3,b1,b2,b3,h1,h3,h2,e1,e3,by rw [h5,e2],e4,e5⟩
theorem nR {b:Nat} {cur:Array Value} {e:TypeId} (h:w.heap[b]?=some (.cells cur e (0,0))) {v1 v2 v3:List Value} (hc:cur.toList=v1++v2++v3):∀ j u,v2[j]?=some u→w.cell? ⟨b,v1.length+j,none⟩=some u:=by
 intro j u hj
 rw [cell_of_row w b _ cur e (0,0) h,←jd,hc]
 have hlt:=(kc.1 hj).1
 rw [fW (by simp; omega),eU (by omega)]
 simpa using hj
theorem yN (hC:ah P B G0 W0 n env a.tmps w ob) {s:Nat} {p:Path} {h:ka} {v:Value} (hh:bc env s p=some h) (hv:bj w a.tmps env s p=some v):
  ∃ cells b2,gk w B h.e (ay h.T) v h.xs.length cells∧aL (Flat P h.T w (Gd B G0 ob) B h.o) h.xs cells b2∧(∀ q∈bN v (if h.wr=true then 0 else h.xs.length * ay h.T)++b2,q∈ob s):=by
 have hr:=hC.rep s
 have hh':=hh
 simp only [bc] at hh
 simp only [bj] at hv
 split at hh
 ·rename_i wr e T oa xs hs
  rw [hs] at hr hv
  split at hh
  ·simp only [aw] at hh hv
   subst hh; subst hv
   have hr':Flat P (.sl T) w (Gd B G0 ob) B (.own wr e oa) xs [a.tmps.getD s undef] (ob s):=hr
   unfold Flat at hr'
   obtain ⟨v',cells,b2,e1,h2,h3,h4⟩:=hr'
   simp only [gC,and_true] at e1
   subst e1
   exact ⟨cells,b2,h2,h3,fun q hq=>by rw [h4]; exact hq⟩
  ·exact absurd hh (by simp)
 ·rename_i T oa x hs
  split at hh
  ·rename_i wr e' o' T' xs he hg
   simp only [aw] at hh
   subst hh
   obtain ⟨b,cur,e,v1,v2,v3,b1,b2,b3,h1,h3,_,h5,h6,h7,h8,_⟩:=kY hC hs hg
   rw [hs] at hv
   simp only [h1] at hv
   rw [he] at h8
   have hv2:v2.length=1:=Flat.len P (.sl T') h8
   obtain ⟨u,rfl⟩:=oR.1 hv2
   have:=nR h3 h5 0 u rfl
   rw [h6,kL] at this
   rw [this] at hv
   simp only [aw] at hv
   subst hv
   unfold Flat at h8
   obtain ⟨v',cells,b2',e1,h2',h3',h4'⟩:=h8
   simp only [gC,and_true] at e1
   subst e1
   exact ⟨cells,b2',h2',h3',fun q hq=>by rw [h7,h4']; simp only [cS,dD] at hq ⊢; exact .inr (.inl (.inr hq))⟩
  ·exact absurd hh (by simp)
 ·exact absurd hh (by simp)
end
end Go.Fw
/- Soundness, part 10: reading. -/
namespace Go.Fw
open Go Go.RowKit
theorem Flat.shared (P:Program):∀ (T:Ty) {w:World} {G G':Nat→Nat→Prop} {B:Nat} {o:ax} {x:den T} {vs:List Value} {ob:OB},o.whole=true→
  (∀ b lim i,(b,lim)∈ob→i < lim→B≤b→G' b i)→(∀ b i,b < w.heap.size→G b i→G' b i)→Flat P T w G B o.bo x vs ob→Flat P T w G' B .no x vs []
 | .int k,_,_,_,_,_,_,_,_,_,_,_,h=>by unfold Flat at h ⊢; exact ⟨h.1,h.2.1,rfl⟩
 | .bool,_,_,_,_,_,_,_,_,_,_,_,h=>by unfold Flat at h ⊢; exact ⟨h.1,rfl⟩
 | .str,_,_,_,_,_,_,_,_,_,_,_,h=>by unfold Flat at h ⊢; exact ⟨h.1,h.2.1,rfl⟩
 | .unit,_,_,_,_,_,_,_,_,_,_,_,h=>by unfold Flat at h ⊢; exact ⟨h.1,rfl⟩
 | .pair A C,_,_,_,_,o,_,_,_,ho,hg,hG,h=>by
   unfold Flat at h ⊢
   obtain ⟨v1,v2,b1,b2,rfl,rfl,h1,h2⟩:=h
   rw [Jl] at h1; rw [Jm] at h2
   have ho1:o.l.whole=true:=by cases o<;>simp_all [ax.whole,ax.l]
   have ho2:o.r.whole=true:=by cases o<;>simp_all [ax.whole,ax.r]
   exact ⟨v1,v2,[],[],rfl,rfl,Flat.shared P A ho1 (fun b lim i hb=>hg b lim i (gp _ hb)) hG h1,Flat.shared P C ho2 (fun b lim i hb=>hg b lim i (iK _ hb)) hG h2⟩
 | .arr n T,_,_,_,_,_,_,_,_,_,_,hG,h=>by
   unfold Flat at h ⊢
   obtain ⟨_,h2⟩:=aL.pure P (o:=.no) (o':=.no) rfl rfl h.2
   exact ⟨h.1,aL.imp (fun x v b hb hx=>by
    have:b=[]:=by cases b with | nil=>rfl | cons q r=>exact absurd (hb q (by simp)) (by simp)
    subst this
    exact Flat.mono P T (fun b i hb h=>⟨hG b i hb h,rfl⟩) (bV.refl _ _) (by simp) hx) h2⟩
 | .fn A C,_,_,_,_,_,_,_,_,_,_,_,h=>by unfold Flat at h ⊢; exact ⟨rfl,h.2⟩
 | .map K V,_,_,_,_,o,_,_,_,ho,_,_,h=>by
   cases o<;>simp only [ax.bo] at h<;>unfold Flat at h ⊢
   case mp=>obtain ⟨_,_,b,ents,clk,rfl,_⟩:=h; exact ⟨rfl,some b,rfl⟩
   all_goals exact ⟨rfl,h.2⟩
 | .sl T,w,G,G',B,o,xs,vs,ob,ho,hg,hG,h=>by
   have cZ:∀ {ob:OB},(ob=[]∧∃ A c,vs=[.slice A xs.length c]∧xs.length≤c∧c≤maxLen∧
    (xs=[]∨∃ b off cells,A=some ⟨b,off,none⟩∧aL (Flat P T w G B .no) xs cells []∧∀ j v,cells[j]?=some v→w.cell? ⟨b,off+j,none⟩=some v∧G b (off+j)))→Flat P (.sl T) w G' B .no xs vs []:=by
    intro ob h
    have h':Flat P (.sl T) w G B .no xs vs []:=by unfold Flat; exact ⟨rfl,h.2⟩
    exact Flat.mono P (.sl T) (fun b i hb h=>⟨hG b i hb h,rfl⟩) (bV.refl _ _) (by simp) h'
   cases o with
   | no=>simp only [ax.bo] at h; unfold Flat at h; exact cZ h
   | pair a b=>simp only [ax.bo] at h; unfold Flat at h; exact cZ h
   | mp=>simp only [ax.bo] at h; unfold Flat at h; exact cZ h
   | hole=>simp [ax.whole] at ho
   | own wr e o=>
     simp only [ax.bo] at h
     unfold Flat at h
     obtain ⟨v,cells,ob',h1,h2,h3,rfl⟩:=h
     subst h1
     simp only [ax.whole] at ho
     have key:∀ {xs:List (den T)} {vs:List Value} {ob:OB},(∀ b lim i,(b,lim)∈ob→i < lim→B≤b→G' b i)→aL (Flat P T w G B o.bo) xs vs ob→aL (Flat P T w G' B .no) xs vs []:=by
      intro xs
      induction xs with
      | nil=>rintro vs ob _ ⟨rfl,rfl⟩; exact ⟨rfl,rfl⟩
      | cons x xs ih=>
        rintro vs ob hg ⟨u1,u2,c1,c2,rfl,rfl,hr,ht⟩
        exact ⟨u1,u2,[],[],rfl,rfl,Flat.shared P T ho (fun b lim i hb=>hg b lim i (gp _ hb)) hG hr,ih (fun b lim i hb=>hg b lim i (iK _ hb)) ht⟩
     have h3':=key (fun b lim i hb=>hg b lim i (iK _ hb)) h3
     unfold Flat
     refine ⟨rfl,?_⟩
     have h2':=h2
     rcases h2.2 with ⟨rfl,hn⟩ | ⟨g,cap,cur,_,_,rfl,hBg,hh,hnc,hcm,hcs,htake,_,_⟩
     ·exact ⟨none,0,by rw [hn],by omega,by unfold maxLen; omega,.inl (lh hn)⟩
     ·refine ⟨some ⟨g,0,none⟩,cap,rfl,hnc,hcm,.inr ⟨g,0,cells,rfl,h3',fun j u hj=>?_⟩⟩
      have hc:=h2'.cells (g:=g) rfl j u hj
      rw [lr] at hc
      refine ⟨hc,hg g (xs.length * ay T) (0+j) (gp _ (by simp [bN,Value.ownBlock])) ?_ hBg⟩
      have:=(kc.1 hj).1
      rw [h2.1] at this; omega
section
variable {P:Program} {B:Nat} {G0:Nat→Nat→Prop} {W0:dc} {n:Nat} {env:Env} {a:Act} {w:World} {ob:Nat→OB}
variable {R:Type} {K:cM R} {r:R} {next:Act→World→Prop} {Q:Exit→Act→World→Prop} {o:Oper} {i:AI} {cl:az}
theorem nv {T:Ty} {x:den T} {vs:List Value} {G:Nat→Nat→Prop} {tm:Array Value} (h:Flat P T w G B .no x vs []):bn P w G B tm env (.v T x) (bh T vs) []:=⟨rfl,vs,h,rfl⟩
theorem ahY (hC:ah P B G0 W0 n env a.tmps w ob) {s:Nat} {l:OB} (hl:∀ q∈l,q∈ob s):∀ b lim i,(b,lim)∈l→i < lim→B≤b→Gd B G0 ob b i:=
 fun _ _ _ hb hi hB=>ue hC (hl _ hb) hi hB
theorem C9 {x:Operand} {y:Od} {s:Nat} {p:Path} (hC:ah P B G0 W0 n env a.tmps w ob) (hx:aF x y=true) (hm:eB env y=some (s,p)) {T0:Ty} {oa:ax} {x0:den T0} (hs:look env s=.loc T0 oa x0):
  ∃ b,a.tmps.getD s undef=.pointer (some ⟨b,0,none⟩)∧a.eval x=.pointer (some ⟨b,a8 T0 p,none⟩):=by
 have hr:=fr hC hx
 unfold eB at hm
 split at hm
 ·rename_i he
  rw [he] at hr
  simp only [aw,eN] at hm
  obtain ⟨rfl,rfl⟩:=hm
  obtain ⟨_,T,o',x',b,h1,h2,_,h3⟩:=hr
  rw [hs] at h1; cases h1
  exact ⟨b,h2,h3⟩
 ·rename_i he
  rw [he] at hr
  cases y with
  | t k=>
    simp only [Od.slot,Option.map_some,aw,eN] at hm
    obtain ⟨rfl,rfl⟩:=hm
    obtain ⟨b,cur,e',ob',h1,_⟩:=hr
    refine ⟨b,by rw [←jH hx a]; exact h1,?_⟩
    rw [h1]; cases T0<;>rfl
  | c T x=>simp [Od.slot] at hm
  | nil e T=>simp [Od.slot] at hm
  | fn f A C=>simp [Od.slot] at hm
 ·exact absurd hm (by simp)
theorem als {t:TypeId} {T:Ty} {x:Operand} {y:Od} (hC:ah P B G0 W0 n env a.tmps w ob) (hK:bE P B G0 W0 n a K r next) (hd:∀ k,o.dst=some k→bl W0 n k) (hdst:i.dst=o.dst)
  (ho:o.op=.load t x) (hi:i.op=.load T y) (hT:bH P t T) (hx:aF x y=true) (h:step cl i env K=some r):o.wp P a w next Q:=by
 unfold step at h; rw [hi] at h; simp only [hdst] at h
 have run:∀ {b off:Nat} {vs:List Value},a.eval x=.pointer (some ⟨b,off,none⟩)→vs.length=ay T→(∀ j u,vs[j]?=some u→w.cell? ⟨b,off+j,none⟩=some u)→(execOp a.eval o).run P w=.ok (.value (bh T vs)) w:=by
  intro b off vs hv hl hc
  simp [execOp,ho,hv,Instr.loadAt,Instr.sureAddr,Wj hT w hl hc]
 have hr:=fr hC hx
 split at h
 ·rename_i T' x' he
  simp only [aq] at h
  obtain ⟨y',hy',h⟩:=h
  have hz:=cL hy'
  rw [he] at hr
  cases hz
  obtain ⟨_,b,off,vs,h1,h2,h3⟩:=hr
  exact bp (run h1 (Flat.len P T h2) (fun j u hj=>(h3 j u hj).1)) (bz hC hK hd (aO.refl w) (nv h2) h)
 ·rename_i s p j q he
  simp only [aq] at h
  obtain ⟨hh,hhe,h⟩:=h
  split at h
  case isFalse=>simp at h
  rename_i hj
  split at h
  case isFalse=>simp at h
  rename_i hpure
  simp only [aq] at h
  obtain ⟨z,hz,y',hy',h⟩:=h
  have hzz:=cL hy'
  subst hzz
  rw [he] at hr
  obtain ⟨_,h',g,m,c,h1,h2,h3,h4,h5⟩:=hr
  rw [hhe] at h1; cases h1
  obtain ⟨cells,b2,hrow,hel,hob⟩:=yN hC hhe h2
  obtain ⟨v1,v2,v3,c1,c2,c3,e1,e2,e3,e4,_⟩:=aL.split (fun x v b hx=>Flat.len P _ hx) j (zero hh.T) hel hj
  obtain ⟨u1,u2,u3,d1,d2,d3,f1,f2,f3,f4,_⟩:=Flat.lens P q hh.T e4 hz
  have hann:(cd hh.o q).pure=true:=by
   have:∀ (q:Path) (o:ax),o.pure=true→(cd o q).pure=true:=by
    intro q
    induction q with
    | nil=>intro o h; exact h
    | cons st q ih=>intro o h; cases st<;>simp only [cd]<;>first | exact ih _ (ax.tK h) | exact ih _ (ax.tL h) | rfl
   exact this q _ hpure
  obtain ⟨_,f5⟩:=Flat.pure P T hann (o':=.no) rfl f4
  refine bp (run h5 (Flat.len P T f5) (fun k u hk=>?_)) (bz hC hK hd (aO.refl w) (nv f5) h)
  have hcell:=hrow.cells (g:=g) rfl (j * ay hh.T+a8 hh.T q+k) u ?_
  ·rw [lr] at hcell; simpa [ll] using hcell
  ·rw [e1,f1]
   have hk':=(kc.1 hk).1
   rw [bO,eU (by omega),fW (by simp; omega),bO,eU (by omega),fW (by omega)]
   rw [←hk]; congr 1; omega
 ·split at h
  ·rename_i s p hm
   split at h
   ·rename_i T0 oa x0 hs
    obtain ⟨b,hb1,hb2⟩:=C9 hC hx hm hs
    split at h
    ·rename_i wr' e' o' hann
     split at h
     ·rename_i T' xs hg
      split at h
      case isFalse=>simp at h
      rename_i hTT
      subst hTT
      obtain ⟨b',cur,e'',v1,v2,v3,b1,b2,b3,k1,k2,k3,k4,k5,k6,k7,_⟩:=kY hC hs hg
      rw [hb1] at k1; cases k1
      have hv2:v2.length=1:=Flat.len P (.sl T') k7
      obtain ⟨u,rfl⟩:=oR.1 hv2
      have hcell:=nR k2 k4
      rw [k5] at hcell
      refine bp (run hb2 hv2 hcell) (bz (e:=.ref s p) hC hK hd (aO.refl w) ⟨rfl,?_,?_⟩ h)
      ·simp only [bj,hs,hb1]
       have:=hcell 0 u rfl
       rw [z8]
       simpa using this
      ·left; simp only [bc,hs,hann,hg]; rfl
     ·exact absurd h (by simp)
    ·rename_i hann
     split at h
     ·rename_i K' V' xs hg
      split at h
      case isFalse=>simp at h
      rename_i hTT
      subst hTT
      obtain ⟨b',cur,e'',v1,v2,v3,b1,b2,b3,k1,k2,k3,k4,k5,k6,k7,_⟩:=kY hC hs hg
      rw [hb1] at k1; cases k1
      have hv2:v2.length=1:=Flat.len P (.map K' V') k7
      obtain ⟨u,rfl⟩:=oR.1 hv2
      have hcell:=nR k2 k4
      rw [k5] at hcell
      refine bp (run hb2 hv2 hcell) (bz (e:=.ref s p) hC hK hd (aO.refl w) ⟨rfl,?_,?_⟩ h)
      ·simp only [bj,hs,hb1]
       have:=hcell 0 u rfl
       simpa [bh,cA] using this
      ·right; simp only [eP,hs,hann,hg]
     ·exact absurd h (by simp)
    ·rename_i bb hbb hbb2
     split at h
     case isFalse=>simp at h
     rename_i hwh
     simp only [aq] at h
     obtain ⟨z,hz,y',hy',h⟩:=h
     have hzz:=cL hy'
     subst hzz
     by_cases hp:(cd oa p).pure=true
     ·rw [if_pos hp] at h
      obtain ⟨b',cur,e'',v1,v2,v3,b1,b2,b3,k1,k2,k3,k4,k5,k6,k7,_⟩:=kY hC hs hz
      rw [hb1] at k1; cases k1
      obtain ⟨_,k8⟩:=Flat.pure P T hp (o':=.no) rfl k7
      have hcell:=nR k2 k4
      rw [k5] at hcell
      exact bp (run hb2 (Flat.len P T k8) hcell) (bz hC hK hd (aO.refl w) (nv k8) h)
     ·rw [if_neg hp] at h
      obtain ⟨ob',hf,hC'⟩:=Cm hC s
      have hs':look (freeze env s) s=.loc T0 oa.bo x0:=by
       unfold freeze; rw [hs]; simp only
       split
       ·rename_i hst; rw [hs,ax.tU hst]
       ·simp only [aP,if_true]
      obtain ⟨b',cur,e'',v1,v2,v3,b1,b2,b3,k1,k2,k3,k4,k5,k6,k7,_⟩:=kY hC' hs' hz
      rw [hb1] at k1; cases k1
      rw [mW] at k7
      have k8:Flat P T w (Gd B G0 ob') B .no y' v2 []:=Flat.shared P T hwh (ahY hC' (s:=s) (fun q hq=>by rw [k6]; simp [hq])) (fun _ _ _ h=>h) k7
      have hcell:=nR k2 k4
      rw [k5] at hcell
      exact bp (run hb2 (Flat.len P T k8) hcell) (bz hC' hK hd (aO.refl w) (nv k8) h)
   ·exact absurd h (by simp)
  ·exact absurd h (by simp)
theorem akx {t:TypeId} {S A:Ty} {f:Nat} {b off:Nat} (hS:bH P t S) {fs:Array Field} (hu:P.underlying t=some (.struct fs)) {fd:Field} (hf:fs[f]?=some fd) (hA:cR S (eX f)=some A) (hz:ay A≠0):
  (Instr.fieldAt t (.pointer (some ⟨b,off,none⟩)) f).run P w=.ok (.pointer (some ⟨b,off+a8 S (eX f),none⟩)) w:=by
 obtain ⟨A',h1,h2,h3⟩:=hS.struct hu hf
 rw [hA] at h1; cases h1
 simp [Instr.fieldAt,run_underlying hu,hf,Instr.sureAddr,fieldPlace,nt h2,hz,lr,h3]
theorem alg {t:TypeId} {S A:Ty} {f:Nat} {x:Operand} {y:Od} {fs:Array Field} {fd:Field} (hC:ah P B G0 W0 n env a.tmps w ob) (hK:bE P B G0 W0 n a K r next) (hd:∀ k,o.dst=some k→bl W0 n k) (hdst:i.dst=o.dst)
  (ho:o.op=.fieldAddr t x f) (hi:i.op=.fieldAddr S (eX f) y) (hS:bH P t S) (hu:P.underlying t=some (.struct fs)) (hf:fs[f]?=some fd) (hA:cR S (eX f)=some A) (hz:ay A≠0) (hx:aF x y=true)
  (h:step cl i env K=some r):o.wp P a w next Q:=by
 unfold step at h; rw [hi] at h; simp only [hdst] at h
 have hr:=fr hC hx
 have run:∀ {b off:Nat},a.eval x=.pointer (some ⟨b,off,none⟩)→(execOp a.eval o).run P w=.ok (.value (.pointer (some ⟨b,off+a8 S (eX f),none⟩))) w:=by
  intro b off hv
  simp [execOp,ho,hv,akx (w:=w) hS hu hf hA hz]
 split at h
 ·rename_i T x' he
  simp only [aq] at h
  obtain ⟨x2,hx2,y2,hy2,h⟩:=h
  have:=cL hx2
  rw [he] at hr
  cases this
  obtain ⟨_,b,off,vs,h1,h2,h3⟩:=hr
  obtain ⟨v1,v2,v3,b1,b2,b3,e1,e2,e3,e4,_⟩:=Flat.lens P (eX f) S h2 hy2
  have hnil:b2=[]:=by
   have:b1++b2++b3=[]:=e2.symm
   simp at this; exact this.2.1
  subst hnil
  rw [rp] at e4
  refine bp (run h1) (bz (e:=.at y2.1 y2.2) hC hK hd (aO.refl w) ⟨rfl,b,off+a8 S (eX f),v2,rfl,e4,fun j u hj=>?_⟩ h)
  have:=h3 (v1.length+j) u (by
   have hlt:=(kc.1 hj).1
   rw [e1,bO,eU (by omega),fW (by omega)]
   simpa using hj)
  rw [e3] at this
  rw [ll]; exact this
 ·rename_i s q he
  split at h
  ·rename_i T0 oa x0 hs
   split at h
   case isFalse=>simp at h
   rename_i hsub
   rw [he] at hr
   obtain ⟨_,T1,o1,x1,b,h1,h2,h3,h4⟩:=hr
   rw [hs] at h1; cases h1
   have hoff:=tH q (eX f) T0 hsub
   refine bp (run h4) (bz (e:=.ptr s (q++eX f)) hC hK hd (aO.refl w) ⟨rfl,T0,oa,x0,b,hs,h2,?_,?_⟩ h)
   ·rw [hoff.2,hA]; rfl
   ·rw [hoff.1]
  ·exact absurd h (by simp)
 ·rename_i s q j rr he
  simp only [aq] at h
  obtain ⟨hh,hhe,h⟩:=h
  split at h
  case isFalse=>simp at h
  rename_i hsub
  rw [he] at hr
  obtain ⟨_,h',g,m,c,h1,h2,h3,h4,h5⟩:=hr
  rw [hhe] at h1; cases h1
  have hoff:=tH rr (eX f) hh.T hsub
  refine bp (run h5) (bz (e:=.cT s q j (rr++eX f)) hC hK hd (aO.refl w) ⟨rfl,hh,g,m,c,hhe,h2,h3,?_,?_⟩ h)
  ·rw [hoff.2,hA]; rfl
  ·rw [hoff.1,ll]
 ·rename_i T0 oa x0 he
  split at h
  case isFalse=>simp at h
  rename_i hTS
  subst hTS
  simp only [aq] at h
  obtain ⟨k,hk,h⟩:=h
  cases y with
  | t k'=>
    simp only [Od.slot,aw] at hk; subst hk
    simp only [av] at he
    rw [av,he] at hr
    obtain ⟨b,cur,e,ob',h1,_⟩:=hr
    refine bp (run h1) (bz (e:=.ptr k' (eX f)) hC hK hd (aO.refl w) ⟨rfl,T0,oa,x0,b,he,?_,?_,?_⟩ h)
    ·rw [←jH hx a]; exact h1
    ·rw [hA]; rfl
    ·simp
  | c T x=>simp [Od.slot] at hk
  | nil e T=>simp [Od.slot] at hk
  | fn f A C=>simp [Od.slot] at hk
 ·exact absurd h (by simp)
theorem aky {t e:TypeId} {T:Ty} (hu:P.underlying t=some (.slice e)) (hT:bH P e T) {b off m c:Nat} {k:IntKind} {q:Int} (h0:0≤q) (h1:q < (m:Int)):
  (Instr.indexAt t (.slice (some ⟨b,off,none⟩) m c) (.int k q)).run P w=.ok (.pointer (some ⟨b,off+q.toNat * ay T,none⟩)) w:=by
 simp [Instr.indexAt,run_underlying hu,asIntOf,h0,h1,nt hT,lr]
theorem alk {t e:TypeId} {T:Ty} {x ix:Operand} {y iy:Od} (hC:ah P B G0 W0 n env a.tmps w ob) (hK:bE P B G0 W0 n a K r next) (hd:∀ k,o.dst=some k→bl W0 n k) (hdst:i.dst=o.dst)
  (ho:o.op=.indexAddr t x ix) (hi:i.op=.indexAddr T y iy) (hu:P.underlying t=some (.slice e)) (hT:bH P e T) (hx:aF x y=true) (hix:aF ix iy=true) (h:step cl i env K=some r):o.wp P a w next Q:=by
 unfold step at h; rw [hi] at h; simp only [hdst,aq] at h
 obtain ⟨q,hq,h⟩:=h
 have hvi:=s9 hC hix hq
 have hr:=fr hC hx
 have run:∀ {b off m c:Nat},a.eval x=.slice (some ⟨b,off,none⟩) m c→0≤q.2→q.2 < (m:Int)→(execOp a.eval o).run P w=.ok (.value (.pointer (some ⟨b,off+q.2.toNat * ay T,none⟩))) w:=by
  intro b off m c hv h0 h1
  simp [execOp,ho,hv,hvi.1,aky (w:=w) hu hT h0 h1]
 have held:∀ {s:Nat} {p:Path} {h':ka} {v:Value},bc env s p=some h'→bj w a.tmps env s p=some v→a.eval x=v→h'.T=T→0≤q.2→q.2 < (h'.xs.length:Int)→K (aM env o.dst (.cT s p q.2.toNat []))=some r→o.wp P a w next Q:=by
  intro s p h' v hh hv hev hTT h0 h1 hk
  obtain ⟨cells,b2,hrow,_,_⟩:=yN hC hh hv
  rcases hrow.2 with ⟨_,hn⟩ | ⟨g,cap,cur,_,_,rfl,_⟩
  ·omega
  ·refine bp (run hev h0 h1) (bz (e:=.cT s p q.2.toNat []) hC hK hd (aO.refl w) ⟨rfl,h',g,_,cap,hh,hv,by omega,?_,?_⟩ hk)
   ·cases h'.T<;>rfl
   ·have:a8 h'.T []=0:=by cases h'.T<;>rfl
    rw [this,hTT,Nat.zero_add,kL]
 split at h
 ·rename_i T' xs he
  simp only [aq] at h
  obtain ⟨xs',hxs,h⟩:=h
  have:=cL hxs
  rw [he] at hr
  cases this
  split at h
  case isFalse=>simp at h
  rename_i hb
  obtain ⟨_,vs,h1,h2⟩:=hr
  unfold Flat at h1
  obtain ⟨_,A,c,h3,h4,h5,h6⟩:=h1
  rcases h6 with h6 | ⟨b,off,cells,rfl,h7,h8⟩
  ·subst h6; exact absurd hb.2 (by simp; omega)
  ·subst h3
   obtain ⟨v1,v2,v3,c1,c2,c3,e1,e2,e3,e4,_⟩:=aL.split (fun x v b hx=>Flat.len P _ hx) q.2.toNat (zero T) h7 (by omega)
   have hnil:c2=[]:=by
    have:c1++c2++c3=[]:=e2.symm
    simp at this; exact this.2.1
   subst hnil
   refine bp (run h2 hb.1 hb.2) (bz (e:=.at T (xs'.getD q.2.toNat (zero T))) hC hK hd (aO.refl w) ⟨rfl,b,off+q.2.toNat * ay T,v2,rfl,e4,fun j u hj=>?_⟩ h)
   have hlt:=(kc.1 hj).1
   have:=h8 (v1.length+j) u (by
    rw [e1,bO,eU (by omega),fW (by omega)]
    simpa using hj)
   rw [e3] at this
   rw [ll]
   exact ⟨this.1,.inr this.2⟩
 ·rename_i wr e' T' o' xs he
  split at h
  case isFalse=>simp at h
  rename_i hTT
  simp only [aq] at h
  obtain ⟨s,hs,h⟩:=h
  split at h
  case isFalse=>simp at h
  rename_i hb
  cases y with
  | t k=>
    simp only [Od.slot,aw] at hs; subst hs
    simp only [av] at he
    exact held (s:=k) (p:=[]) (h':=⟨wr,e',T',o',xs⟩) (by simp [bc,he]) (by simp [bj,he]) (jH hx a) hTT hb.1 hb.2 h
  | c T x=>simp [Od.slot] at hs
  | nil e T=>simp [Od.slot] at hs
  | fn f A C=>simp [Od.slot] at hs
 ·rename_i s p he
  simp only [aq] at h
  obtain ⟨hh,hhe,h⟩:=h
  split at h
  case isFalse=>simp at h
  rename_i hTT
  split at h
  case isFalse=>simp at h
  rename_i hb
  rw [he] at hr
  exact held hhe hr.2.1 rfl hTT hb.1 hb.2 h
 ·exact absurd h (by simp)
end
end Go.Fw
/- Soundness, part 11: lengths, elements, comparisons, several results, function literals. -/
namespace Go.Fw
open Go Go.RowKit
theorem aL.drop_take {α:Type} {R:α→List Value→OB→Prop} {n:Nat} (hl:∀ x v b,R x v b→v.length=n):∀ {xs:List α} {vs:List Value} (l m:Nat),aL R xs vs []→aL R ((xs.drop l).take m) ((vs.drop (l * n)).take (m * n)) []
 | [],vs,l,m,h=>by obtain ⟨rfl,_⟩:=h; simp; exact ⟨rfl,rfl⟩
 | x::xs,vs,0,0,h=>by simp; exact ⟨rfl,rfl⟩
 | x::xs,vs,0,m+1,h=>by
   obtain ⟨u1,u2,c1,c2,rfl,hc,hr,ht⟩:=h
   have hc':c1=[]∧c2=[]:=by simpa using hc.symm
   obtain ⟨rfl,rfl⟩:=hc'
   have ih:=aL.drop_take hl 0 m ht
   have hu:=hl _ _ _ hr
   simp only [Nat.zero_mul,LQ,List.take_succ_cons] at ih ⊢
   have:(u1++u2).take ((m+1) * n)=u1++u2.take (m * n):=by
    rw [List.take_append,List.take_of_length_le (by rw [hu,ln]; omega),hu,ln]
    congr 2; omega
   rw [this]
   exact ⟨u1,_,[],[],rfl,rfl,hr,ih⟩
 | x::xs,vs,l+1,m,h=>by
   obtain ⟨u1,u2,c1,c2,rfl,hc,hr,ht⟩:=h
   have hc':c1=[]∧c2=[]:=by simpa using hc.symm
   obtain ⟨rfl,rfl⟩:=hc'
   have ih:=aL.drop_take hl l m ht
   have hu:=hl _ _ _ hr
   have:(u1++u2).drop ((l+1) * n)=u2.drop (l * n):=by
    rw [List.drop_append,List.drop_eq_nil_of_le (by rw [hu,ln]; omega),hu,ln]
    simp
   rw [this]
   exact ih
theorem dX.split {Rr:E→Value→OB→Prop}:∀ {es:List E} {vs:List Value} {ob:OB} {j:Nat} {e:E},dX Rr es vs ob→es[j]?=some e→
  ∃ v b1 b2 b3,vs[j]?=some v∧ob=b1++b2++b3∧Rr e v b2∧∀ e',Rr e' v []→dX Rr (es.set j e') vs (b1++b3)
 | [],_,_,_,_,_,h=>by simp at h
 | f::es,_,_,0,e,h,he=>by
   obtain ⟨v,r,b1,b2,rfl,rfl,h1,h2⟩:=h
   simp only [iI,aw] at he; subst he
   exact ⟨v,[],b1,b2,rfl,rfl,h1,fun e' h'=>⟨v,r,[],b2,rfl,rfl,h',h2⟩⟩
 | f::es,_,_,j+1,e,h,he=>by
   obtain ⟨v,r,b1,b2,rfl,rfl,h1,h2⟩:=h
   simp only [ui] at he
   obtain ⟨u,c1,c2,c3,k1,rfl,k3,k4⟩:=dX.split h2 he
   exact ⟨u,b1++c1,c2,c3,by simpa using k1,by simp,k3,fun e' h'=>⟨v,r,b1,c1++c3,rfl,by simp,h1,k4 e' h'⟩⟩
section
variable {P:Program} {B:Nat} {G0:Nat→Nat→Prop} {W0:dc} {n:Nat} {env:Env} {a:Act} {w:World} {ob:Nat→OB}
variable {R:Type} {K:cM R} {r:R} {next:Act→World→Prop} {Q:Exit→Act→World→Prop} {o:Oper} {i:AI} {cl:az}
theorem alq {t:TypeId} {x:Operand} {y:Od} (hC:ah P B G0 W0 n env a.tmps w ob) (hK:bE P B G0 W0 n a K r next) (hd:∀ k,o.dst=some k→bl W0 n k) (hdst:i.dst=o.dst)
  (ho:o.op=.call {callee:=.builtin .len,args:=#[x],argTypes:=#[t]}) (hi:i.op=.bQ y) (ht:bH P t .str) (hx:aF x y=true) (h:step cl i env K=some r):o.wp P a w next Q:=by
 unfold step at h; rw [hi] at h; simp only [hdst,aq] at h
 obtain ⟨s,hs,h⟩:=h
 have hv:=tV hC hx hs
 refine bp (v:=.int .i64 (s.length:Int)) (w':=w) ?_ (bz hC hK hd (aO.refl w) (kG _ _ (KB hv.2)) h)
 have hsz:(⟨⟨s⟩⟩:ByteArray).size=s.length:=rfl
 simp [execOp,ho,resolve,invoke,builtin,Builtin.len_,run_underlying ht.str,hv.1,goInt,hsz]
theorem alp {t e:TypeId} {x:Operand} {y:Od} (hC:ah P B G0 W0 n env a.tmps w ob) (hK:bE P B G0 W0 n a K r next) (hd:∀ k,o.dst=some k→bl W0 n k) (hdst:i.dst=o.dst)
  (ho:o.op=.call {callee:=.builtin .len,args:=#[x],argTypes:=#[t]}) (hi:i.op=.aX y) (ht:P.underlying t=some (.slice e)) (hx:aF x y=true) (h:step cl i env K=some r):o.wp P a w next Q:=by
 unfold step at h; rw [hi] at h; simp only [hdst,aq] at h
 obtain ⟨z,hz,h⟩:=h
 obtain ⟨vs,hv,hF⟩:=mu hC hx hz
 split at h
 ·rename_i T xs
  unfold Flat at hF
  obtain ⟨_,A,c,rfl,hc,hm,_⟩:=hF
  refine bp (v:=.int .i64 (xs.length:Int)) (w':=w) ?_ (bz hC hK hd (aO.refl w) (kG _ _ (KB (ep hc hm))) h)
  rw [z8] at hv
  simp [execOp,ho,resolve,invoke,builtin,Builtin.len_,run_underlying ht,hv,goInt]
 ·exact absurd h (by simp)
theorem alo {t e:TypeId} {m:Nat} {x:Operand} (hC:ah P B G0 W0 n env a.tmps w ob) (hK:bE P B G0 W0 n a K r next) (hd:∀ k,o.dst=some k→bl W0 n k) (hdst:i.dst=o.dst)
  (ho:o.op=.call {callee:=.builtin .len,args:=#[x],argTypes:=#[t]}) (hi:i.op=.yT m) (ht:P.underlying t=some (.array m e)) (hm:m≤maxLen) (h:step cl i env K=some r):o.wp P a w next Q:=by
 unfold step at h; rw [hi] at h; simp only [hdst] at h
 refine bp (v:=.int .i64 (m:Int)) (w':=w) ?_ (bz hC hK hd (aO.refl w) (kG _ _ (KB hm)) h)
 simp [execOp,ho,resolve,invoke,builtin,Builtin.len_,run_underlying ht,goInt]
theorem WH {ts:Array TypeId} {mx:Bool} {x y:Operand} {x' y':Od} (hC:ah P B G0 W0 n env a.tmps w ob) (hK:bE P B G0 W0 n a K r next) (hd:∀ k,o.dst=some k→bl W0 n k) (hdst:i.dst=o.dst)
  (ho:o.op=.call {callee:=.builtin (if mx then .max else .min),args:=#[x,y],argTypes:=ts}) (hi:i.op=.mm mx x' y') (hx:aF x x'=true) (hy:aF y y'=true) (h:step cl i env K=some r):o.wp P a w next Q:=by
 unfold step at h; rw [hi] at h; simp only [hdst] at h
 split at h
 ·rename_i k m k' q hex hey
  split at h
  case isFalse=>simp at h
  rename_i hkk
  subst hkk
  have hvx:=my hC hx hex
  have hvy:=my hC hy hey
  cases mx with
  | true=>
    simp only [if_true] at h ho
    refine bp (v:=.int k (if q > m then q else m)) (w':=w) ?_ (bz hC hK hd (aO.refl w) (kG _ _ ?_) h)
    ·simp [execOp,ho,resolve,invoke,builtin,Builtin.max_,Builtin.max2,hvx.1,hvy.1]
    ·split
     ·exact hvy.2
     ·exact hvx.2
  | false=>
    simp only [eo,if_false] at h ho
    refine bp (v:=.int k (if q < m then q else m)) (w':=w) ?_ (bz hC hK hd (aO.refl w) (kG _ _ ?_) h)
    ·simp [execOp,ho,resolve,invoke,builtin,Builtin.min_,Builtin.min2,hvx.1,hvy.1]
    ·split
     ·exact hvy.2
     ·exact hvx.2
 ·exact absurd h (by simp)
theorem aln {t:TypeId} {x ix:Operand} {y iy:Od} (hC:ah P B G0 W0 n env a.tmps w ob) (hK:bE P B G0 W0 n a K r next) (hd:∀ k,o.dst=some k→bl W0 n k) (hdst:i.dst=o.dst)
  (ho:o.op=.index t x ix) (hi:i.op=.dV y iy) (ht:bH P t .str) (hx:aF x y=true) (hix:aF ix iy=true) (h:step cl i env K=some r):o.wp P a w next Q:=by
 unfold step at h; rw [hi] at h; simp only [hdst,aq] at h
 obtain ⟨q,hq,s,hs,h⟩:=h
 split at h
 case isFalse=>simp at h
 rename_i hb
 have hvi:=s9 hC hix hq
 have hv:=tV hC hx hs
 have hlt:q.2.toNat < s.length:=by omega
 have hget:(⟨⟨s⟩⟩:ByteArray)[q.2.toNat]?=some (s.getD q.2.toNat 0):=by
  have hsz:q.2.toNat < (⟨⟨s⟩⟩:ByteArray).size:=hlt
  rw [getElem?_pos (⟨⟨s⟩⟩:ByteArray) q.2.toNat hsz]
  congr 1
  rw [List.getD_eq_getElem?_getD,List.getElem?_eq_getElem hlt]
  rfl
 refine bp (v:=.int .u8 ((s.getD q.2.toNat 0).toNat:Int)) (w':=w) ?_ (bz hC hK hd (aO.refl w) (kG _ _ ?_) h)
 ·simp only [execOp,ho,Instr.index,hvi.1,hv.1,asIntOf,Sem.run_bind,Sem.run_pure,Result.andThen_ok,run_underlying ht.str,hb.1,if_true,hget]
 ·have:=(s.getD q.2.toNat 0).toNat_lt
  constructor
  ·show (0:Int)≤_; omega
  ·show _≤(255:Int); omega
theorem alm {t e:TypeId} {m:Nat} {T:Ty} {x ix:Operand} {y iy:Od} (hC:ah P B G0 W0 n env a.tmps w ob) (hK:bE P B G0 W0 n a K r next) (hd:∀ k,o.dst=some k→bl W0 n k) (hdst:i.dst=o.dst)
  (ho:o.op=.indexAddr t x ix) (hi:i.op=.yR m T y iy) (hu:P.underlying t=some (.array m e)) (hT:bH P e T) (hx:aF x y=true) (hix:aF ix iy=true) (h:step cl i env K=some r):o.wp P a w next Q:=by
 unfold step at h; rw [hi] at h; simp only [hdst,aq] at h
 obtain ⟨q,hq,h⟩:=h
 have hvi:=s9 hC hix hq
 have hr:=fr hC hx
 have run:∀ {b off:Nat},a.eval x=.pointer (some ⟨b,off,none⟩)→0≤q.2→q.2 < (m:Int)→(execOp a.eval o).run P w=.ok (.value (.pointer (some ⟨b,off+q.2.toNat * ay T,none⟩))) w:=by
  intro b off hv h0 h1
  simp [execOp,ho,hv,hvi.1,Instr.indexAt,run_underlying hu,Instr.sureAddr,asIntOf,h0,h1,nt hT,lr]
 split at h
 ·rename_i T' xs he
  simp only [aq] at h
  obtain ⟨xs',hxs,h⟩:=h
  have:=cL hxs
  rw [he] at hr
  cases this
  split at h
  case isFalse=>simp at h
  rename_i hb
  obtain ⟨_,b,off,vs,h1,h2,h3⟩:=hr
  unfold Flat at h2
  obtain ⟨hlen,h2⟩:=h2
  obtain ⟨v1,v2,v3,c1,c2,c3,e1,e2,e3,e4,_⟩:=aL.split (fun x v b hx=>Flat.len P _ hx) q.2.toNat (zero T) h2 (by omega)
  have hnil:c2=[]:=by
   have:c1++c2++c3=[]:=e2.symm
   simp at this; exact this.2.1
  subst hnil
  refine bp (run h1 hb.1 hb.2) (bz (e:=.at T (xs'.getD q.2.toNat (zero T))) hC hK hd (aO.refl w) ⟨rfl,b,off+q.2.toNat * ay T,v2,rfl,e4,fun j u hj=>?_⟩ h)
  have hlt:=(kc.1 hj).1
  have:=h3 (v1.length+j) u (by
   rw [e1,bO,eU (by omega),fW (by omega)]
   simpa using hj)
  rw [e3] at this
  rw [ll]
  exact this
 ·split at h
  ·rename_i s p hm
   split at h
   ·rename_i T0 oa x0 hs
    split at h
    case isFalse=>simp at h
    rename_i hsub
    split at h
    case isFalse=>simp at h
    rename_i hb
    obtain ⟨b,hb1,hb2⟩:=C9 hC hx hm hs
    have hoff:=tH p [.ix q.2.toNat] T0 hsub
    have hO0:a8 T []=0:=by cases T<;>rfl
    refine bp (run hb2 hb.1 hb.2) (bz (e:=.ptr s (p++[.ix q.2.toNat])) hC hK hd (aO.refl w) ⟨rfl,T0,oa,x0,b,hs,hb1,?_,?_⟩ h)
    ·rw [hoff.2]
     simp only [cR]
     rw [if_pos (by omega)]; rfl
    ·rw [hoff.1]
     simp only [a8,hO0,kL]
   ·exact absurd h (by simp)
  ·exact absurd h (by simp)
def jZ:Option Operand→Option Od→Bool
 | none,none=>true
 | some u,some v=>aF u v
 | _,_=>false
theorem qM (hC:ah P B G0 W0 n env a.tmps w ob) {u:Option Operand} {v:Option Od} {z:Option Int} (hu:jZ u v=true) (h:mD env v=some z):
  (u=none∧z=none)∨(∃ x k m,u=some x∧z=some m∧a.eval x=.int k m):=by
 cases u with
 | none=>
   cases v with
   | none=>simp only [mD,aw] at h; exact .inl ⟨rfl,h.symm⟩
   | some v=>simp [jZ] at hu
 | some u=>
   cases v with
   | none=>simp [jZ] at hu
   | some v=>
     simp only [mD,aq,aw] at h
     obtain ⟨q,hq,rfl⟩:=h
     exact .inr ⟨u,q.1,q.2,rfl,rfl,(s9 hC hu hq).1⟩
theorem alJ {t:TypeId} {x:Operand} {y:Od} {lo hi':Option Operand} {lo' hi'':Option Od} (hC:ah P B G0 W0 n env a.tmps w ob) (hK:bE P B G0 W0 n a K r next) (hd:∀ k,o.dst=some k→bl W0 n k) (hdst:i.dst=o.dst)
  (ho:o.op=.slice t x lo hi' none) (hi:i.op=.jL y lo' hi'') (ht:bH P t .str) (hx:aF x y=true) (hlo:jZ lo lo'=true) (hhi:jZ hi' hi''=true)
  (h:step cl i env K=some r):o.wp P a w next Q:=by
 unfold step at h; rw [hi] at h; simp only [hdst,aq] at h
 obtain ⟨l,hl,m,hm,s,hs,h⟩:=h
 split at h
 case isFalse=>simp at h
 rename_i hb
 have hv:=tV hC hx hs
 have hres:(⟨⟨s⟩⟩:ByteArray).extract (l.getD 0).toNat (m.getD (s.length:Int)).toNat=⟨⟨(s.drop (l.getD 0).toNat).take ((m.getD (s.length:Int)).toNat - (l.getD 0).toNat)⟩⟩:=ByteArray.extract_mk s _ _
 refine bp (v:=.string ⟨⟨(s.drop (l.getD 0).toNat).take ((m.getD (s.length:Int)).toNat - (l.getD 0).toNat)⟩⟩) (w':=w) ?_ (bz hC hK hd (aO.refl w) (W1 _ _ ?_) h)
 ·rw [←hres]
  have hsz:(⟨⟨s⟩⟩:ByteArray).size=s.length:=rfl
  rcases qM hC hlo hl with ⟨rfl,rfl⟩ | ⟨u,ku,zu,rfl,rfl,hu⟩<;>rcases qM hC hhi hm with ⟨rfl,rfl⟩ | ⟨v,kv,zv,rfl,rfl,hvv⟩<;>simp only [Option.getD_some,Option.getD_none] at hb
  ·have hfull:(⟨⟨s⟩⟩:ByteArray).extract 0 s.length=⟨⟨s⟩⟩:=by
    have:=ByteArray.extract_mk s 0 s.length
    rw [LQ,Nat.sub_zero,List.take_length] at this
    exact this
   simp [execOp,ho,hv.1,Instr.sliceAt,Instr.slice,run_underlying ht.str,Instr.sliceBounds,hsz,hfull]
  ·have hb2:zv≤((⟨⟨s⟩⟩:ByteArray).size:Int):=by rw [hsz]; exact hb.2.2
   simp [execOp,ho,hv.1,Instr.sliceAt,Instr.slice,run_underlying ht.str,Instr.sliceBounds,hvv,run_sliceBound w kv zv _ .sliceAlen hb.2.1 hb2]
  ·simp [execOp,ho,hv.1,Instr.sliceAt,Instr.slice,run_underlying ht.str,Instr.sliceBounds,hu,run_sliceBound w ku zu s.length .sliceB hb.1 hb.2.1,hsz]
  ·have hb2:zv≤((⟨⟨s⟩⟩:ByteArray).size:Int):=by rw [hsz]; exact hb.2.2
   have hb3:zu≤((zv.toNat:Nat):Int):=by omega
   simp [execOp,ho,hv.1,Instr.sliceAt,Instr.slice,run_underlying ht.str,Instr.sliceBounds,hvv,hu,run_sliceBound w kv zv _ .sliceAlen (by omega) hb2,run_sliceBound w ku zu _ .sliceB hb.1 hb3]
 ·have h2:((s.drop (l.getD 0).toNat).take ((m.getD (s.length:Int)).toNat - (l.getD 0).toNat)).length≤s.length:=by
   rw [List.length_take,List.length_drop]; omega
  have:=hv.2
  omega
end
end Go.Fw
