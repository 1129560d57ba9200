/- Own work: the value machine, part 6. -/
import Derived.Test.YtbdlccajpcomjaaDoorFwB5
import Derived.Laws.Cover3
import Derived.Test.YtbdlccajpcomjaaDoorFwB4
import Derived.Test.YtbdlccajpcomjaaDoorFwB1
import Derived.Lib.Bytealg
import Derived.IntWalk
import Derived.OpenShut
import Derived.ChangeOld
import Derived.WideKeyArgs
import Derived.SizedLaws
set_option linter.unusedVariables false
set_option linter.unusedSimpArgs false
open Array renaming replicate → Dg, getD_eq_getD_getElem? → nv, getElem?_append_left → De, getElem?_eq_some_iff → Df
open Bool renaming false_eq_true → bA, and_eq_true → aB, not_eq_true' → dX
open List renaming mem_append → eu, mem_append_left → gJ, mem_append_right → iq, nodup_append → jD, getElem?_cons_zero → im, getElem?_cons_succ → vI, getElem?_eq_some_iff → lH, all_cons → jC, append_nil → fZ, all_eq_true → gl, length_cons → aJ, getElem?_append_left → il, getElem?_append_right → gI, eq_nil_of_length_eq_zero → l7, drop_drop → Sy, getElem?_eq_getElem → fr, getElem?_of_mem → lI, mem_map → ew, getElem?_map → oF, drop_eq_nil_of_le → SA, take_append_drop → qG, all_append → IJ
open Nat renaming sub_zero → IT, zero_le → jb, le_refl → b5, lt_or_ge → jF, add_mul → s7
open Option renaming bind_eq_some_iff → av, getD_some → s9, bind_some → ah, bind_assoc → oL, map_eq_some_iff → SK
open Option.some renaming injEq → az
open Prod.mk renaming injEq → eL
/- Soundness, part 23: code; what a function hands back. -/
namespace Go.Fw
open Go Go.RowKit
def fV (P:Program) (n:Nat) (c:Code):AC→Bool
 | .out _ x=>fV P n c x
 | .skip=>(match c with | .skip=>true | _=>false)
 | .aa _ l=>(match c with | .region _ ops false=>nf P n ops 0 l | _=>false)
 | .draw _ l=>(match c with | .region _ ops true=>ve P n ops l | _=>false)
 | .seq x' y'=>(match c with | .seq x y=>fV P n x x'&&fV P n y y' | _=>false)
 | .cond d x' y'=>(match c with | .cond e x y=>aK e d&&fV P n x x'&&fV P n y y' | _=>false)
 | .block id' x'=>(match c with | .block id x=>id==id'&&fV P n x x' | _=>false)
 | .loop _ x'=>(match c with | .loop x=>fV P n x x' | _=>false)
 | .exit id'=>(match c with | .exit id=>id==id' | _=>false)
 | .ret=>(match c with | .ret=>true | _=>false)
def ly:AC→Bool
 | .out _ x=>ly x
 | .aa _ l=>l.all qj
 | .draw _ l=>l.all fun i=>qj i.ai
 | .seq x y=>ly x&&ly y
 | .cond _ x y=>ly x&&ly y
 | .block _ x=>ly x
 | .loop _ x=>ly x
 | _=>true
def Pc:Ex→Exit
 | .normal=>.normal
 | .exit id=>.exit id
 | .ret=>.ret
section
variable {P:Program} {B:Nat} {G0:Nat→Nat→Prop} {W0:dF} {n:Nat} {cl:aH}
variable {R:Type} {r:R}
def aii (P:Program) (B:Nat) (G0:Nat→Nat→Prop) (W0:dF) (n:Nat) (a:Act) (K:KE R) (r:R) (Q:Exit→Act→World→Prop):Prop:=
 ∀ e env' tm' w' ob',ar P B G0 W0 n env' tm' w' ob'→K e env'=some r→Q (Pc e) {a with tmps:=tm'} w'
theorem wB (hgood:Good P W0.t cl) (N:Nat):∀ (ac:AC) (c:Code) (env:Env) (a:Act) (w:World) (ob:Nat→OB) (K:KE R) (Q:Exit→Act→World→Prop),fV P n c ac=true→(W0.pin=none∨ly ac=true)→ar P B G0 W0 n env a.tmps w ob→
  exec cl N ac env K=some r→aii P B G0 W0 n a K r Q→c.wp P Q a w:=by
 intro ac
 induction ac with
 | skip=>
   intro c env a w ob K Q hok hz hC h hK
   cases c<;>simp only [fV,bA] at hok
   exact wp_skip (hK .normal env a.tmps w ob hC h)
 | ret=>
   intro c env a w ob K Q hok hz hC h hK
   cases c<;>simp only [fV,bA] at hok
   exact wp_ret (hK .ret env a.tmps w ob hC h)
 | exit id=>
   intro c env a w ob K Q hok hz hC h hK
   cases c<;>simp only [fV,bA,beq_iff_eq] at hok
   subst hok
   exact wp_exit (hK (.exit _) env a.tmps w ob hC h)
 | aa live l=>
   intro c env a w ob K Q hok hz hC h hK
   have hc:∃ id ops,c=.region id ops false∧nf P n ops 0 l=true:=by
    unfold fV at hok
    split at hok
    ·exact ⟨_,_,rfl,hok⟩
    ·simp at hok
   obtain ⟨id,ops,rfl,hok⟩:=hc
   simp only [exec] at h
   obtain ⟨ob',hC'⟩:=ar.ae hC live
   have:=R0 (Q:=Q) hgood l 0 _ a w ob' hok hz hC' h (fun env' tm' w' ob' hC' hk=>hK .normal env' tm' w' ob' hC' hk)
   rw [IT] at this
   refine wp_region ?_
   rw [List.range_eq_range']
   exact this
 | draw live l=>
   intro c env a w ob K Q hok hz hC h hK
   have hc:∃ id ops,c=.region id ops true∧ve P n ops l=true:=by
    unfold fV at hok
    split at hok
    ·exact ⟨_,_,rfl,hok⟩
    ·simp at hok
   obtain ⟨id,ops,rfl,hok⟩:=hc
   simp only [exec] at h
   obtain ⟨ob',hC'⟩:=ar.ae hC live
   exact aiZ hgood hok hz hC' h (fun env' tm' w' ob' hC' hk=>hK .normal env' tm' w' ob' hC' hk)
 | out live x ih=>
   intro c env a w ob K Q hok hz hC h hK
   simp only [exec] at h
   simp only [fV] at hok
   refine ih c env a w ob _ Q hok hz hC h (fun e env' tm' w' ob' hC' hk=>?_)
   obtain ⟨ob2,hC2⟩:=ar.ae hC' live
   exact hK e _ tm' w' ob2 hC2 hk
 | seq x y ihx ihy=>
   intro c env a w ob K Q hok hz hC h hK
   cases c<;>simp only [fV,bA] at hok
   simp only [aB] at hok
   simp only [exec] at h
   simp only [ly,aB] at hz
   refine wp_seq (ihx _ env a w ob _ _ hok.1 (hz.imp id And.left) hC h (fun e env' tm' w' ob' hC' hk=>?_))
   cases e with
   | normal=>
     simp only [nr] at hk
     exact ihy _ env' {a with tmps:=tm'} w' ob' K Q hok.2 (hz.imp id And.right) hC' hk hK
   | exit id=>exact hK (.exit id) env' tm' w' ob' hC' hk
   | ret=>exact hK .ret env' tm' w' ob' hC' hk
 | cond c' x y ihx ihy=>
   intro c env a w ob K Q hok hz hC h hK
   cases c<;>simp only [fV,bA] at hok
   simp only [aB] at hok
   simp only [exec,av] at h
   obtain ⟨b,hb,h⟩:=h
   simp only [ly,aB] at hz
   have hv:=I3 hC hok.1.1 hb
   cases b with
   | true=>exact wp_cond_true hv (ihx _ env a w ob K Q hok.1.2 (hz.imp id And.left) hC h hK)
   | false=>exact wp_cond_false hv (ihy _ env a w ob K Q hok.2 (hz.imp id And.right) hC h hK)
 | block id x ih=>
   intro c env a w ob K Q hok hz hC h hK
   cases c<;>simp only [fV,bA] at hok
   simp only [aB,beq_iff_eq] at hok
   obtain ⟨rfl,hok⟩:=hok
   simp only [exec] at h
   refine wp_block (ih _ env a w ob _ _ hok hz hC h (fun e env' tm' w' ob' hC' hk=>?_))
   cases e with
   | normal=>exact hK .normal env' tm' w' ob' hC' hk
   | ret=>exact hK .ret env' tm' w' ob' hC' hk
   | exit j=>
     simp only [me] at hk
     simp only [Pc,Exit.inBlock]
     split at hk
     ·rename_i hj _; subst hj; rw [if_pos rfl]; exact hK .normal env' tm' w' ob' hC' hk
     ·rename_i hj _; rw [if_neg hj]; exact hK (.exit j) env' tm' w' ob' hC' hk
 | loop live x ih=>
   intro c env a w ob K Q hok hz hC h hK
   cases c<;>simp only [fV,bA] at hok
   rename_i c
   simp only [exec] at h
   obtain ⟨ob',hC'⟩:=ar.ae hC live
   refine avK (fun m a' w'=>∃ env ob tm,a'={a with tmps:=tm}∧ar P B G0 W0 n env tm w' ob∧iter live (fun env K=>exec cl N x env K) K m env=some r) ?_ ?_ N a w ⟨_,ob',a.tmps,rfl,hC',h⟩
   ·rintro a' w' ⟨env,ob,tm,_,_,h⟩
    simp [iter] at h
   ·rintro m a' w' ⟨env,ob,tm,rfl,hC,h⟩
    simp only [iter] at h
    refine ih _ env {a with tmps:=tm} w' ob _ _ hok hz hC h (fun e env' tm' w2 ob' hC' hk=>?_)
    cases e with
    | normal=>
      obtain ⟨ob2,hC2⟩:=ar.ae hC' live
      exact ⟨_,ob2,tm',rfl,hC2,hk⟩
    | exit id=>exact hK (.exit id) env' tm' w2 ob' hC' hk
    | ret=>exact hK .ret env' tm' w2 ob' hC' hk
inductive qC {α β:Type} (R:α→β→Prop):List α→List β→Prop
 | nil:qC R [] []
 | cons {x:α} {y:β} {xs:List α} {ys:List β}:R x y→qC R xs ys→qC R (x::xs) (y::ys)
theorem aAI {α β:Type} {f:α→Sem β} {w:World} {as:Array α} {vs:List β} (h:qC (fun x v=>(f x).run P w=.ok v w) as.toList vs):(as.mapM f).run P w=.ok vs.toArray w:=by
 rw [Array.mapM_eq_mapM_toList]
 have key:∀ {l:List α} {vs:List β},qC (fun x v=>(f x).run P w=.ok v w) l vs→(l.mapM f).run P w=.ok vs w:=by
  intro l vs h
  induction h with
  | nil=>rw [List.mapM_nil]; rfl
  | cons h _ ih=>
    rw [List.mapM_cons]
    simp only [Sem.run_bind,h,Result.andThen_ok,ih]
    rfl
 have:=key h
 rw [←bind_pure_comp]
 simp only [Sem.run_bind,this,Result.andThen_ok]
 rfl
def gE (P:Program):List ResultVar→List RV→Bool
 | [],[]=>true
 | .tmp t::rs,.t k::vs=>t==k&&gE P rs vs
 | .cell t ty::rs,.cell k T::vs=>t==k&&eJ P ty T&&gE P rs vs
 | .tmp t::rs,.p k::vs=>t==k&&gE P rs vs
 | _,_=>false
theorem HT:∀ {o:aC},o.pure=true→o.whole=true
 | .no,_=>rfl
 | .pair a b,h=>by
   simp only [aC.pure,aB] at h
   simp only [aC.whole,aB]
   exact ⟨HT h.1,HT h.2⟩
 | .hole,h=>by simp [aC.pure] at h
 | .own ..,h=>by simp [aC.pure] at h
def qu (tmps:Array Value):ResultVar→Sem Value
 | .tmp t=>pure (tmps.getD t undef)
 | .cell a t=>do loadVar t (←asAddr (tmps.getD a undef))
theorem EU:∀ (l m:List Nat),distinct (l++m)=true→distinct l=true∧distinct m=true∧∀ x∈l,x∉m
 | [],m,h=>⟨rfl,h,by simp⟩
 | x::l,m,h=>by
   simp only [List.cons_append,distinct,aB,dX,List.any_append,Bool.or_eq_false_iff] at h
   obtain ⟨⟨h1,h2⟩,h3⟩:=h
   obtain ⟨h4,h5,h6⟩:=EU l m h3
   refine ⟨by simp only [distinct,aB,dX]; exact ⟨h1,h4⟩,h5,fun y hy=>?_⟩
   rcases List.mem_cons.1 hy with rfl | hy
   ·intro hm
    have:=List.any_eq_false.1 h2 _ hm
    simp at this
   ·exact h6 y hy
theorem aAH {t:TypeId} {T:Ty} (hT:bW P t T) {env:Env} {tm:Array Value} {w:World} {ob:Nat→OB} {k:Nat} (hC:ar P B G0 W0 n env tm w ob) {o:aC} {x:den T} (hk:look env k=.loc T o x):
  ∃ vs c b,(qu tm (.cell k t)).run P w=.ok (ck T vs) w∧Flat P T w (Gd B G0 ob) B o x vs c∧ob k=(b,0)::c:=by
 have hr:=hC.rep k
 rw [hk] at hr
 obtain ⟨b,cur,e,ob',h1,h2,h3,h4,h5⟩:=hr
 refine ⟨cur.toList,ob',b,?_,h4,h5⟩
 have:=ahr hT w (b:=b) (off:=0) (Flat.len P T h4) (fun j u hj=>by
  rw [Nat.zero_add,cell_of_row w b _ cur e (0,0) h3,←Array.getElem?_toList]; exact hj)
 simp [qu,h1,asAddr,this]
theorem Sa {env:Env} {tm:Array Value} {w:World} {ob:Nat→OB} (hC:ar P B G0 W0 n env tm w ob):∀ (rvs:List ResultVar) (res:List RV) (es:List E) (ks:List Nat),gE P rvs res=true→vm env res=some (es,ks)→
  ∃ (vs:List Value) (rob:OB),qC (fun x v=>(qu tm x).run P w=.ok v w) rvs vs∧(∀ q∈rob,∃ k∈ks,q∈ob k)∧(distinct ks=true→(blocks rob).Nodup)∧
    (∀ G':Nat→Nat→Prop,(∀ b i,b < w.heap.size→Gd B G0 ob b i→G' b i)→(∀ k∈ks,∀ g∈blocks (ob k),B≤g→g∉blocks rob→∀ i,G' g i)→distinct ks=true→dR (cx P w G' B #[] []) es vs rob)
 | [],[],es,ks,_,h=>by
   simp only [vm,az,eL] at h
   obtain ⟨rfl,rfl⟩:=h
   exact ⟨[],[],.nil,by simp,fun _=>by simp,fun _ _ _ _=>⟨rfl,rfl⟩⟩
 | [],_::_,_,_,h,_=>by simp [gE] at h
 | .tmp _::_,[],_,_,h,_=>by simp [gE] at h
 | .cell _ _::_,[],_,_,h,_=>by simp [gE] at h
 | rv::rvs,re::res,es,ks,hok,h=>by
   simp only [vm,av,az,eL] at h
   obtain ⟨⟨e1,ks1⟩,h1,⟨es2,ks2⟩,h2,h3,h4⟩:=h
   simp only at h3 h4
   subst h3; subst h4
   have hok2:gE P rvs res=true:=by
    cases rv<;>cases re<;>simp only [gE,aB,bA] at hok
    all_goals exact hok.2
   obtain ⟨vs2,rob2,i1,i2,i3,i4⟩:=Sa hC rvs res es2 ks2 hok2 h2
   -- the first
   have first:∃ v b,(qu tm rv).run P w=.ok v w∧(∀ q∈b,∃ k∈ks1,q∈ob k)∧(blocks b).Nodup∧
     (∀ G':Nat→Nat→Prop,(∀ b i,b < w.heap.size→Gd B G0 ob b i→G' b i)→(∀ k∈ks1,∀ g∈blocks (ob k),B≤g→g∉blocks b→∀ i,G' g i)→cx P w G' B #[] [] e1 v b):=by
    match rv,re,hok,h1 with
    | .tmp t,.t k,hok,h1=>
      simp only [gE,aB,beq_iff_eq] at hok
      obtain ⟨rfl,_⟩:=hok
      have hrun:(qu tm (.tmp t)).run P w=.ok (tm.getD t undef) w:=rfl
      have hr:=hC.rep t
      simp only [HV] at h1
      split at h1
      ·rename_i T x hl
       simp only [az,eL] at h1
       obtain ⟨rfl,rfl⟩:=h1
       rw [hl] at hr
       obtain ⟨_,vs,k1,k2⟩:=hr
       refine ⟨_,[],hrun,by simp,by simp,fun G' hG _=>⟨rfl,vs,Flat.mono P T (fun b i hb h=>⟨hG b i hb h,rfl⟩) (b8.refl _ _) (by simp) k1,k2⟩⟩
      ·rename_i wr ed T o xs hl
       split at h1
       ·rename_i hp
        simp only [az,eL] at h1
        obtain ⟨rfl,rfl⟩:=h1
        rw [hl] at hr
        refine ⟨_,ob t,hrun,fun q hq=>⟨t,by simp,hq⟩,hC.nodup t,fun G' hG _=>?_⟩
        exact Flat.mono P (.sl T) (o:=.own wr ed o) (fun b i hb h=>⟨hG b i hb h,rfl⟩) (b8.refl _ _) (fun _ _=>rfl) hr
       ·simp at h1
      ·rename_i s p hl
       simp only [av] at h1
       obtain ⟨hh,hhe,h1⟩:=h1
       split at h1
       ·rename_i hp
        simp only [az,eL] at h1
        obtain ⟨rfl,rfl⟩:=h1
        rw [hl] at hr
        obtain ⟨_,hhd,_⟩:=hr
        obtain ⟨cells,b2,k1,k2,k3⟩:=Cz (a:=⟨tm,[]⟩) hC hhe hhd
        obtain ⟨rfl,_⟩:=aU.pure P (o':=.no) hp rfl k2
        refine ⟨_,cf (tm.getD t undef) (if hh.wr=true then 0 else hh.xs.length * aA hh.T),hrun,fun q hq=>⟨s,by simp,k3 q (by simpa using hq)⟩,RY _ _,fun G' hG _=>?_⟩
        have:Flat P (.sl hh.T) w (Gd B G0 ob) B (.own hh.wr hh.e hh.o) hh.xs [tm.getD t undef] (cf (tm.getD t undef) (if hh.wr=true then 0 else hh.xs.length * aA hh.T)):=by
         unfold Flat
         exact ⟨_,cells,[],rfl,k1,k2,by simp⟩
        exact Flat.mono P (.sl hh.T) (o:=.own hh.wr hh.e hh.o) (fun b i hb h=>⟨hG b i hb h,rfl⟩) (b8.refl _ _) (fun _ _=>rfl) this
       ·simp at h1
      ·simp at h1
    | .cell t ty,.cell k T,hok,h1=>
      simp only [gE,aB,beq_iff_eq] at hok
      obtain ⟨⟨rfl,hT⟩,_⟩:=hok
      simp only [HV] at h1
      split at h1
      ·rename_i T' o x hl
       split at h1
       ·rename_i hw
        simp only [av,az,eL] at h1
        obtain ⟨y,hy,rfl,rfl⟩:=h1
        have:=dJ hy; cases this
        obtain ⟨vs,c,b,k1,k2,k3⟩:=aAH (eR hT) hC hl
        refine ⟨_,[],k1,by simp,by simp,fun G' hG hcell=>⟨rfl,vs,?_,rfl⟩⟩
        by_cases hp:o.pure=true
        ·obtain ⟨_,k4⟩:=Flat.pure P T hp (o':=.no) rfl k2
         exact Flat.mono P T (fun b i hb h=>⟨hG b i hb h,rfl⟩) (b8.refl _ _) (by simp) k4
        ·obtain ⟨c2,k4,k5⟩:=Flat.bJ P T k2
         refine Flat.shared P T hw (fun b' lim i hb' _ hB=>?_) hG k4
         refine hcell t (by simp [hp]) b' ?_ hB (by simp) i
         rw [k3]; simp only [mf,List.mem_cons]
         right
         rw [←k5.1]; exact aI.2 ⟨_,hb'⟩
       ·simp at h1
      ·simp at h1
    | .tmp t,.p k,hok,h1=>
      simp only [gE,aB,beq_iff_eq] at hok
      obtain ⟨rfl,_⟩:=hok
      have hrun:(qu tm (.tmp t)).run P w=.ok (tm.getD t undef) w:=rfl
      have hr:=hC.rep t
      simp only [HV] at h1
      split at h1
      ·rename_i T x hl
       simp only [az,eL] at h1
       obtain ⟨rfl,rfl⟩:=h1
       rw [hl] at hr
       obtain ⟨_,vs,k1,k2⟩:=hr
       refine ⟨_,[],hrun,by simp,by simp,fun G' hG _=>⟨rfl,vs,Flat.mono P T (fun b i hb h=>⟨hG b i hb h,rfl⟩) (b8.refl _ _) (by simp) k1,k2⟩⟩
      ·rename_i wr ed T o xs hl
       split at h1
       ·rename_i hp
        simp only [az,eL] at h1
        obtain ⟨rfl,rfl⟩:=h1
        rw [hl] at hr
        have hr':Flat P (.sl T) w (Gd B G0 ob) B (.own wr ed o) xs [tm.getD t undef] (ob t):=hr
        refine ⟨_,[],hrun,by simp,by simp,fun G' hG hcell=>⟨rfl,[tm.getD t undef],?_,rfl⟩⟩
        obtain ⟨c2,k4,k5⟩:=Flat.bJ P (.sl T) hr'
        refine Flat.shared P (.sl T) (o:=.own wr ed o) (show o.whole=true from HT hp) (fun b' lim i hb' _ hB=>?_) hG k4
        exact hcell t (by simp) b' (by rw [←k5.1]; exact aI.2 ⟨_,hb'⟩) hB (by simp) i
       ·simp at h1
      ·rename_i s p hl
       simp only [av] at h1
       obtain ⟨hh,hhe,h1⟩:=h1
       split at h1
       ·rename_i hp
        simp only [az,eL] at h1
        obtain ⟨rfl,rfl⟩:=h1
        rw [hl] at hr
        obtain ⟨_,hhd,_⟩:=hr
        obtain ⟨cells,b2,k1,k2,k3⟩:=Cz (a:=⟨tm,[]⟩) hC hhe hhd
        have this:Flat P (.sl hh.T) w (Gd B G0 ob) B (.own hh.wr hh.e hh.o) hh.xs [tm.getD t undef] (cf (tm.getD t undef) (if hh.wr=true then 0 else hh.xs.length * aA hh.T)++b2):=by
         unfold Flat
         exact ⟨_,cells,b2,rfl,k1,k2,rfl⟩
        refine ⟨_,[],hrun,by simp,by simp,fun G' hG hcell=>⟨rfl,[tm.getD t undef],?_,rfl⟩⟩
        obtain ⟨c2,k4,k5⟩:=Flat.bJ P (.sl hh.T) this
        refine Flat.shared P (.sl hh.T) (o:=.own hh.wr hh.e hh.o) (show hh.o.whole=true from HT hp) (fun b' lim i hb' _ hB=>?_) hG k4
        have hb2:b'∈blocks (cf (tm.getD t undef) (if hh.wr=true then 0 else hh.xs.length * aA hh.T)++b2):=by rw [←k5.1]; exact aI.2 ⟨_,hb'⟩
        obtain ⟨l,hl'⟩:=aI.1 hb2
        exact hcell s (by simp) b' (aI.2 ⟨_,k3 _ hl'⟩) hB (by simp) i
       ·simp at h1
      ·simp at h1
    | .cell _ _,.p _,hok,_=>simp [gE] at hok
    | .tmp _,.cell _ _,hok,_=>simp [gE] at hok
    | .cell _ _,.t _,hok,_=>simp [gE] at hok
   obtain ⟨v,b,j1,j2,j3,j4⟩:=first
   refine ⟨v::vs2,b++rob2,.cons j1 i1,fun q hq=>?_,fun hd=>?_,fun G' hG hc hd=>?_⟩
   ·rcases eu.1 hq with hq | hq
    ·obtain ⟨k,m1,m2⟩:=j2 q hq; exact ⟨k,gJ _ m1,m2⟩
    ·obtain ⟨k,m1,m2⟩:=i2 q hq; exact ⟨k,iq _ m1,m2⟩
   ·obtain ⟨d1,d2,d3⟩:=EU _ _ hd
    rw [eZ,jD]
    refine ⟨j3,i3 d2,fun x hx y hy hxy=>?_⟩
    subst hxy
    obtain ⟨l1,hx⟩:=aI.1 hx
    obtain ⟨l2,hy⟩:=aI.1 hy
    obtain ⟨k,m1,m2⟩:=j2 _ hx
    obtain ⟨k',m3,m4⟩:=i2 _ hy
    have:=hC.dist k k' x (aI.2 ⟨_,m2⟩) (aI.2 ⟨_,m4⟩)
    subst this
    exact d3 k m1 m3
   ·obtain ⟨d1,d2,d3⟩:=EU _ _ hd
    refine ⟨v,vs2,b,rob2,rfl,rfl,j4 G' hG (fun k hk g hg hB hgb i=>hc k (gJ _ hk) g hg hB ?_ i),i4 G' hG (fun k hk g hg hB hgb i=>hc k (iq _ hk) g hg hB ?_ i) d2⟩
    ·rw [eZ,eu]
     rintro (hx | hx)
     ·exact hgb hx
     ·obtain ⟨l,hx⟩:=aI.1 hx
      obtain ⟨k',m3,m4⟩:=i2 _ hx
      have:=hC.dist k k' g hg (aI.2 ⟨_,m4⟩)
      subst this
      exact d3 k hk m3
    ·rw [eZ,eu]
     rintro (hx | hx)
     ·obtain ⟨l,hx⟩:=aI.1 hx
      obtain ⟨k',m3,m4⟩:=j2 _ hx
      have:=hC.dist k' k g (aI.2 ⟨_,m4⟩) hg
      subst this
      exact d3 k' m3 hk
     ·exact hgb hx
end
end Go.Fw
/- Soundness, part 24: functions, calls of any depth. -/
namespace Go.Fw
open Go Go.RowKit
def okF (P:Program) (f:FuncId) (fd:FD):Bool:=
 match P.funcs[f]? with
 | some fn => !(fn.name == "runtime.NumGoroutine") && (match fn.body with | some c => fV P fn.ntmps c fd.body | none => false) && decide (fd.nargs ≤ fn.ntmps) && gE P fn.results.toList fd.res && (!fd.lend || ly fd.body)
 | none=>false
theorem RR:∀ (as:List E) (j k:Nat),look (params j as) k=if j≤k then (as[k - j]?).getD .dead else .dead
 | [],j,k=>by simp [params,look]
 | e::as,j,k=>by
   rw [params,bm,RR as (j+1) k]
   by_cases h:j=k
   ·subst h; simp
   ·rw [if_neg h]
    by_cases h2:j≤k
    ·rw [if_pos h2,if_pos (by omega),show k - j=(k - (j+1))+1 by omega]; simp
    ·rw [if_neg h2,if_neg (by omega)]
def jQ (w:World) (lob:OB) (b:Nat):Prop:=b < w.heap.size∧b∉blocks lob
section
variable {P:Program} {t:gp}
theorem dW.get {w:World} {G:Nat→Nat→Prop} {as:List E} {vals:List Value} (h:dW P w G as vals):as.length=vals.length∧∀ (k:Nat) (e:E),as[k]?=some e→∃ v,vals[k]?=some v∧jB P w G e v:=by
 induction h with
 | nil=>exact ⟨rfl,fun k e h=>by simp at h⟩
 | @cons e v es vs h1 _ ih=>
   refine ⟨by simp [ih.1],fun k e' h=>?_⟩
   cases k with
   | zero=>simp only [im,az] at h; subst h; exact ⟨v,by simp,h1⟩
   | succ k=>simp only [vI] at h ⊢; exact ih.2 k e' h
def vP (n:Nat) (G:Nat→Nat→Prop) (b i:Nat):Prop:=b < n→G b i
theorem ahN {w:World} {G:Nat→Nat→Prop} {as:List E} {vals:List Value} (ht:t.ok w) (h:dW P w G as vals) {m:Nat} (hm:as.length≤m):
  ar P w.heap.size (vP w.heap.size G) ⟨w,fun _=>False,none,fun _ _=>False,t⟩ m (params 0 as) (vals.toArray++Dg (m - vals.toArray.size) undef) w (fun _=> []) where
 rep k:=by
  rw [RR,if_pos (jb k),IT]
  cases hk:as[k]? with
  | none=>exact rfl
  | some e=>
    obtain ⟨v,hv,hr⟩:=h.get.2 k e hk
    have hlt:k < vals.length:=(lH.1 hv).1
    have ht:(vals.toArray++Dg (m - vals.toArray.size) undef).getD k undef=v:=by
     rw [nv,De (by simpa using hlt)]
     simp [hv]
    rw [ht]
    have hG:∀ b i,b < w.heap.size→G b i→Gd w.heap.size (vP w.heap.size G) (fun _=> []) b i:=fun b i hb hg=>.inl ⟨hb,fun _=>hg⟩
    simp only [s9]
    cases e<;>first | exact (hr:False).elim | skip
    ·exact rfl
    ·obtain ⟨vs,h1,h2⟩:=hr
     exact ⟨rfl,vs,Flat.mono P _ (fun b i hb hg=>⟨hG b i hb hg,rfl⟩) (b8.refl _ _) (by simp) h1,h2⟩
    ·obtain ⟨b,off,vs,h1,h2,h3⟩:=hr
     exact ⟨rfl,b,off,vs,h1,Flat.mono P _ (fun b i hb hg=>⟨hG b i hb hg,rfl⟩) (b8.refl _ _) (by simp) h2,fun j u hj=>⟨h3 j u hj,.inl (World.block_lt_of_cell? w _ (h3 j u hj))⟩⟩
 dist:=by simp
 nodup:=by simp
 low:=by simp
 below:=Below.refl _ _
 prot _ _ _ h:=h
 same _ h:=h.elim
 oldx _ h:=h.elim
 free _ _ h _ h2:=by omega
 base:=b5 _
 size:=by have:=h.get.1; simp; omega
 pinned _ h:=by cases h
 kept _ _ h:=h.elim
 jT:=⟨ht.le,ht⟩
theorem ahs {fn:Func} {tm:Array Value} {w:World} {vs:List Value} (h:qC (fun x v=>(qu tm x).run P w=.ok v w) fn.results.toList vs):(results fn tm).run P w=.ok (if h:vs.toArray.size=1 then vs.toArray[0] else .tuple vs.toArray) w:=by
 have e:results fn tm=(do let vs←fn.results.mapM (qu tm); pure (if h:vs.size=1 then vs[0] else .tuple vs)):=by
  unfold results
  congr 2
 have:=aAI h
 rw [e]
 simp only [Sem.run_bind,this,Result.andThen_ok]
 rfl
theorem aew {fn:Func} {fd:FD} (h4:gE P fn.results.toList fd.res=true) {w w':World} {G:Nat→Nat→Prop} {m:Nat} {env':Env} {tm':Array Value} {ob':Nat→OB} {res:List E} (hC:ar P w.heap.size (vP w.heap.size G) ⟨w,fun _=>False,none,fun _ _=>False,t⟩ m env' tm' w' ob')
  (hk:nq env' fd.res []=some res):∃ v,(results fn tm').run P w'=.ok v w'∧∃ v_1 rob,Ending.returned v=.returned v_1∧Below w.heap.size w w'∧lK P w w' G res v_1 rob:=by
 simp only [nq,List.nil_append,av] at hk
 obtain ⟨⟨es,ks⟩,hr,hk⟩:=hk
 split at hk
 case h_2=>simp at hk
 rename_i hdb
 simp only [az] at hk; subst hk
 simp only [aB] at hdb
 obtain ⟨vs,rob,i1,i2,i3,i4⟩:=Sa hC fn.results.toList fd.res es ks h4 hr
 refine ⟨_,ahs i1,_,rob,rfl,hC.below,?_⟩
 have hT:=i4 (Gr w.heap.size G rob) (fun b i _ hg=>?_) (fun k _ g _ hB hg i=>.inr ⟨hB,fun lim hl=>absurd (aI.2 ⟨lim,hl⟩) hg⟩) hdb.1
 ·refine ⟨?_,hdb.2,i3 hdb.1,fun b hb=>?_⟩
  ·match es,hdb.2,hT with
   | [e],hb,hT=>
     obtain ⟨v,r,b1,b2,rfl,rfl,k1,⟨rfl,rfl⟩⟩:=hT
     simp only [jC,List.all_nil,Bool.and_true] at hb
     have:(if h:([v]:List Value).toArray.size=1 then ([v]:List Value).toArray[0] else .tuple ([v]:List Value).toArray)=v:=by simp
     rw [fZ] at k1
     rw [this,fZ]
     cases e with
     | v T x=>exact k1
     | own wr ed T o xs=>exact k1
     | _=>simp [E.back] at hb
   | [],hb,hT=>
     obtain ⟨rfl,rfl⟩:=hT
     exact ⟨by simp,#[],rfl,rfl,rfl⟩
   | e1::e2::es,hb,hT=>
     have hb':∀ e∈(e1::e2::es),∀ s,leads s e=false:=by
      intro e he s
      have:=gl.1 hb e he
      cases e<;>first | rfl | (exfalso; simp [E.back] at this; done)
     have hl:vs.length≠1:=by
      obtain ⟨v,r,b1,b2,rfl,_,_,k⟩:=hT
      obtain ⟨v',r',_,_,rfl,_,_,_⟩:=k
      simp
     have:(if h:vs.toArray.size=1 then vs.toArray[0] else .tuple vs.toArray)=.tuple vs.toArray:=by
      rw [dif_neg (by simpa using hl)]
     rw [this]
     exact ⟨hb',vs.toArray,rfl,by simpa using hT⟩
  ·obtain ⟨l,hb⟩:=aI.1 hb
   obtain ⟨k,_,hq⟩:=i2 _ hb
   exact hC.low k b (aI.2 ⟨_,hq⟩)
 ·rcases hg with hg | ⟨hg1,hg0,hg2⟩
  ·exact .inl ⟨hg.1,hg.2 hg.1⟩
  ·refine .inr ⟨hg1,fun lim hl=>?_⟩
   obtain ⟨k,_,hq⟩:=i2 _ hl
   exact hg2 k lim hq
theorem aev {cl:aH} (hgood:Good P t cl) (N:Nat) {f:FuncId} {fd:FD} (hok:okF P f fd=true) {as res:List E} (hlen:as.length=fd.nargs) (hnl:fd.lend=false) (h:exec cl N fd.body (params 0 as) (au fd)=some res) (w:World) (G:Nat→Nat→Prop) (vals:List Value) (ht:t.ok w) (hA:dW P w G as vals):
  gS P f∧Calls P f vals.toArray w fun e w'=>∃ v rob,e=.returned v∧Below w.heap.size w w'∧lK P w w' G res v rob:=by
 unfold okF at hok
 split at hok
 case h_2=>simp at hok
 rename_i fn hfn
 simp only [aB,dX,decide_eq_true_eq] at hok
 obtain ⟨⟨⟨⟨h1,h2⟩,h3⟩,h4⟩,_⟩:=hok
 split at h2
 case h_2=>simp at h2
 rename_i c hc
 refine ⟨⟨fn,hfn,h1,by rw [hc]; rfl⟩,calls_of_wp hfn hc ?_⟩
 refine wB hgood N fd.body c _ _ w _ _ _ h2 (.inl rfl) (ahN ht hA (by omega)) h (fun e env' tm' w' ob' hC hk=>?_)
 have key:nq env' fd.res []=some res→∃ v,(results fn tm').run P w'=.ok v w'∧∃ v_1 rob,Ending.returned v=.returned v_1∧Below w.heap.size w w'∧lK P w w' G res v_1 rob:=by
  intro hk; exact aew h4 hC hk
 unfold au at hk; rw [hnl] at hk
 cases e with
 | exit id=>simp at hk
 | normal=>exact ⟨rfl,key hk⟩
 | ret=>exact ⟨rfl,key hk⟩
theorem aBH {w:World} {G:Nat→Nat→Prop} {T:Ty} {o:aC} {x:den T} {v:Value} {lob:OB} {as:List E} {vals:List Value} {m:Nat} (htt:t.ok w) (htb:∀ b∈blocks lob,t.tb≤b) (hn:ez T=true) (hL:Dk P w G T o x v lob) (hnd:(blocks lob).Nodup) (hlt:∀ b∈blocks lob,b < w.heap.size)
  (hG:∀ b lim i,(b,lim)∈lob→G b i→i < lim) (h:dW P w G as vals) (ha:as.all u6=true) (hm:as.length+1≤m):
  ar P t.tb (fun b i=>jQ w lob b→G b i) ⟨w,jQ w lob,some v,fun b i=>b < w.heap.size∧G b i,t⟩ m (params 0 (.loc T o x::as)) ((v::vals).toArray++Dg (m - (v::vals).toArray.size) undef) w (fun k=>if k=0 then lob else []) where
 rep k:=by
  have hGd:∀ b i,b < w.heap.size→G b i→Gd t.tb (fun b i=>jQ w lob b→G b i) (fun k=>if k=0 then lob else []) b i:=fun b i _ hg=>by
   rcases jF b t.tb with hb | hb
   ·exact .inl ⟨hb,fun _=>hg⟩
   refine .inr ⟨hb,fun _=>hg,fun j lim hj=>?_⟩
   by_cases h0:j=0
   ·simp only [h0,if_true] at hj; exact hG b lim i hj hg
   ·simp [h0] at hj
  rw [RR,if_pos (jb k),IT]
  cases k with
  | zero=>
    obtain ⟨b,cur,e,ob',h1,h2,h3,h4⟩:=hL
    simp only [im,s9,if_true]
    have ht:((v::vals).toArray++Dg (m - (v::vals).toArray.size) undef).getD 0 undef=v:=by
     rw [nv,De (by simp)]
     simp
    rw [ht]
    exact ⟨b,cur,e,ob',h1,htb b (by rw [h4]; simp),h2,Flat.mono P T (fun b i hb hg=>⟨hGd b i hb hg,rfl⟩) (b8.refl _ _) (fun _ _=>rfl) (Flat.lift P T hn (fun g hg=>htb g (by rw [h4]; simp [hg])) h3),h4⟩
  | succ k=>
    simp only [vI,Nat.add_eq_zero_iff,Nat.one_ne_zero,and_false,if_false]
    cases hk:as[k]? with
    | none=>exact rfl
    | some e=>
      obtain ⟨u,hv,hr⟩:=h.get.2 k e hk
      have hlt:k < vals.length:=(lH.1 hv).1
      have ht:((v::vals).toArray++Dg (m - (v::vals).toArray.size) undef).getD (k+1) undef=u:=by
       rw [nv,De (by simp; omega)]
       simp [hv]
      rw [ht]
      have hae:=gl.1 ha e (List.mem_of_getElem? hk)
      simp only [s9]
      cases e<;>simp only [u6,bA] at hae
      ·exact rfl
      ·obtain ⟨vs,h1,h2⟩:=hr
       exact ⟨rfl,vs,Flat.mono P _ (fun b i hb hg=>⟨hGd b i hb hg,rfl⟩) (b8.refl _ _) (by simp) (Flat.down P _ hae htt.le h1),h2⟩
 dist j k b hj hk:=by
  by_cases h1:j=0<;>by_cases h2:k=0
  ·rw [h1,h2]
  ·simp [h2] at hk
  ·simp [h1] at hj
  ·simp [h1] at hj
 nodup k:=by
  by_cases h1:k=0
  ·simp only [h1,if_true]; exact hnd
  ·simp [h1]
 low k b hb:=by
  by_cases h1:k=0
  ·simp only [h1,if_true] at hb; exact ⟨htb b hb,hlt b hb⟩
  ·simp [h1] at hb
 below:=Below.refl _ _
 prot k b hb hx:=by
  by_cases h1:k=0
  ·simp only [h1,if_true] at hb; exact hx.2 hb
  ·simp [h1] at hb
 same _ _:=rfl
 oldx _ h:=h.1
 free _ _ _ h h2:=absurd h2 h
 base:=htt.le
 size:=by have:=h.get.1; simp; omega
 pinned u hu:=by
  cases hu
  rw [nv,De (by simp)]
  simp
 jT:=⟨b5 _,htt⟩
 kept b i hb:=by
  rcases jF b t.tb with hx | hx
  ·exact ⟨hb.1,.inl ⟨hx,fun _=>hb.2⟩,rfl⟩
  refine ⟨hb.1,.inr ⟨hx,fun _=>hb.2,fun j lim hj=>?_⟩,rfl⟩
  by_cases h0:j=0
  ·simp only [h0,if_true] at hj; exact hG b lim i hj hb.2
  ·simp [h0] at hj
theorem ayy {env:Env} {res:List RV} {ks:List Nat} {l:List E} (h:nq env res ks=some l):∃ qs,vm env res=some (l,qs)∧distinct (ks++qs)=true∧l.all E.back=true:=by
 simp only [nq,av] at h
 obtain ⟨⟨es,qs⟩,hr,hk⟩:=h
 split at hk
 case h_2=>simp at hk
 rename_i hdb
 simp only [az] at hk; subst hk
 simp only [aB] at hdb
 exact ⟨qs,hr,hdb.1,hdb.2⟩
theorem SY {w':World} {G:Nat→Nat→Prop} {B:Nat}:∀ {es:List E} {vs:List Value} {rob:OB},es.all E.back=true→dR (cx P w' G B #[] []) es vs rob→dR (cx P w' G 0 #[] []) es vs rob
 | [],_,_,_,h=>h
 | e::es,_,_,hb,h=>by
   obtain ⟨v,r,b1,b2,rfl,rfl,k1,k2⟩:=h
   simp only [jC,aB] at hb
   refine ⟨v,r,b1,b2,rfl,rfl,?_,SY hb.2 k2⟩
   cases e with
   | v T x=>
     obtain ⟨h0,vs,h1,h2⟩:=k1
     exact ⟨h0,vs,Flat.down P T hb.1 (jb _) h1,h2⟩
   | own wr ed T o xs=>
     simp only [E.back,aB] at hb
     exact Flat.down P (.sl T) hb.1.1 (jb _) k1
   | _=>simp [E.back] at hb
theorem ayx {w':World} {G:Nat→Nat→Prop} {B:Nat} {es:List E} {vs:List Value} {rob:OB} (hb:es.all E.back=true) (hT:dR (cx P w' G B #[] []) es vs rob):
  bL P w' G B #[] [] (eI es) (if h:vs.toArray.size=1 then vs.toArray[0] else .tuple vs.toArray) rob:=by
 match es,hb,hT with
 | [e],hb,hT=>
   obtain ⟨v,r,b1,b2,rfl,rfl,k1,⟨rfl,rfl⟩⟩:=hT
   simp only [jC,List.all_nil,Bool.and_true] at hb
   have:(if h:([v]:List Value).toArray.size=1 then ([v]:List Value).toArray[0] else .tuple ([v]:List Value).toArray)=v:=by simp
   rw [fZ,this]
   cases e with
   | v T x=>exact k1
   | own wr ed T o xs=>exact k1
   | _=>simp [E.back] at hb
 | [],hb,hT=>
   obtain ⟨rfl,rfl⟩:=hT
   exact ⟨by simp,#[],rfl,rfl,rfl⟩
 | e1::e2::es,hb,hT=>
   have hb':∀ e∈(e1::e2::es),∀ s,leads s e=false:=by
    intro e he s
    have:=gl.1 hb e he
    cases e<;>first | rfl | (exfalso; simp [E.back] at this; done)
   have hl:vs.length≠1:=by
    obtain ⟨v,r,b1,b2,rfl,_,_,k⟩:=hT
    obtain ⟨v',r',_,_,rfl,_,_,_⟩:=k
    simp
   rw [dif_neg (by simpa using hl)]
   exact ⟨hb',vs.toArray,rfl,by simpa using hT⟩
theorem avf {fn:Func} {fd:FD} (h4:gE P fn.results.toList fd.res=true) {w w':World} {G:Nat→Nat→Prop} {m:Nat} {env':Env} {tm':Array Value} {ob':Nat→OB} {res:List E} {v:Value} {lob:OB}
  (ht:t.ok w) (htb:∀ b∈blocks lob,t.tb≤b) (hC:ar P t.tb (fun b i=>jQ w lob b→G b i) ⟨w,jQ w lob,some v,fun b i=>b < w.heap.size∧G b i,t⟩ m env' tm' w' ob') {T:Ty} {o:aC} {x:den T} (hn:ez T=true) (hl:look env' 0=.loc T o x)
  (hk:nq env' fd.res [0]=some res):∃ u,(results fn tm').run P w'=.ok u w'∧∃ rv lob' rob,Ending.returned u=.returned rv∧vF P w w' G lob lob' T o x v res rv rob:=by
 obtain ⟨ks,hr,hdis,hback⟩:=ayy hk
 obtain ⟨vs,rob,i1,i2,i3,i4⟩:=Sa hC fn.results.toList fd.res res ks h4 hr
 obtain ⟨_,hdk,h0k⟩:=EU [0] ks hdis
 have h0:0∉ks:=h0k 0 (by simp)
 have hr0:=hC.rep 0
 rw [hl] at hr0
 obtain ⟨b0,cur,e,ob2,k1,_,k3,k4,k5⟩:=hr0
 have hv:v=.pointer (some ⟨b0,0,none⟩):=by rw [←hC.pinned v rfl]; exact k1
 have hmem:∀ b lim,(b,lim)∈ob' 0++rob→∃ k,(b,lim)∈ob' k:=by
  intro b lim h
  rcases eu.1 h with h | h
  ·exact ⟨0,h⟩
  ·obtain ⟨k,_,hq⟩:=i2 _ h; exact ⟨k,hq⟩
 have hGl:∀ b i,Gd t.tb (fun b i=>jQ w lob b→G b i) ob' b i→Gl w G lob (ob' 0++rob) b i:=by
  intro b i h
  rcases h with ⟨h,h1⟩ | ⟨_,h1,h2⟩
  ·have hb:b∉blocks lob:=fun hm=>by have:=htb b hm; omega
   have hs:=Nat.lt_of_lt_of_le h ht.le
   exact .inl ⟨hs,hb,h1 ⟨hs,hb⟩⟩
  ·by_cases hx:jQ w lob b
   ·exact .inl ⟨hx.1,hx.2,h1 hx⟩
   ·refine .inr ⟨?_,fun lim hl=>?_⟩
    ·by_cases hb:b∈blocks lob
     ·exact .inr hb
     ·exact .inl (by
       rcases jF b w.heap.size with h | h
       ·exact absurd ⟨h,hb⟩ hx
       ·exact h)
    ·obtain ⟨k,hq⟩:=hmem b lim hl; exact h2 k lim hq
 have hnew:∀ b∈blocks (ob' 0++rob),b < w'.heap.size∧(b∈blocks lob∨w.heap.size≤b):=by
  intro b hb
  obtain ⟨l,hb⟩:=aI.1 hb
  obtain ⟨k,hq⟩:=hmem b l hb
  have hq':=aI.2 ⟨_,hq⟩
  refine ⟨(hC.low k b hq').2,?_⟩
  have hx:=hC.prot k b hq'
  by_cases hb:b∈blocks lob
  ·exact .inl hb
  ·right
   rcases jF b w.heap.size with h | h
   ·exact absurd ⟨h,hb⟩ hx
   ·exact h
 have hT:=i4 (Gl w G lob (ob' 0++rob)) (fun b i _ hg=>hGl b i hg) (fun k hk g hg _ hgr i=>by
  have hx:=hC.prot k g hg
  refine .inr ⟨?_,fun lim hl=>?_⟩
  ·by_cases hb:g∈blocks lob
   ·exact .inr hb
   ·left
    rcases jF g w.heap.size with h | h
    ·exact absurd ⟨h,hb⟩ hx
    ·exact h
  ·exfalso
   rcases eu.1 hl with hl | hl
   ·exact h0 (hC.dist 0 k g (aI.2 ⟨_,hl⟩) hg▸hk)
   ·exact hgr (aI.2 ⟨_,hl⟩)) hdk
 refine ⟨_,ahs i1,_,ob' 0,rob,rfl,hC.below.os,hC.below.tape,hC.below.output,hC.below.size,fun b hb hn=>hC.same b ⟨hb,hn⟩,fun b i hb hg=>?_,?_,ayx hback (SY hback hT),hback,?_,hnew⟩
 ·obtain ⟨_,h2,h3⟩:=hC.kept b i ⟨hb,hg⟩
  refine ⟨h3,fun lim hl=>?_⟩
  obtain ⟨k,hq⟩:=hmem b lim hl
  rcases h2 with ⟨h2,_⟩ | ⟨_,_,h2⟩
  ·have:=(hC.low k b (aI.2 ⟨_,hq⟩)).1; omega
  ·exact h2 k lim hq
 ·exact ⟨b0,cur,e,ob2,hv,k3,Flat.mono P T (fun b i _ h=>⟨hGl b i h,rfl⟩) (b8.refl _ _) (fun _ _=>rfl) (Flat.down P T hn (jb _) k4),k5⟩
 ·rw [eZ,jD]
  refine ⟨hC.nodup 0,i3 hdk,fun a ha b hb hab=>?_⟩
  subst hab
  obtain ⟨l,hb⟩:=aI.1 hb
  obtain ⟨k,hk,hq⟩:=i2 _ hb
  exact h0 (hC.dist 0 k a ha (aI.2 ⟨_,hq⟩)▸hk)
theorem aeu {cl:aH} (hgood:Good P t cl) (N:Nat) {f:FuncId} {fd:FD} (hok:okF P f fd=true) {T:Ty} {o:aC} {x:den T} {as res:List E} (hlen:as.length+1=fd.nargs) (hnl:fd.lend=true) (h:exec cl N fd.body (params 0 (.loc T o x::as)) (au fd)=some res):
  gS P f∧
  ∀ (w:World) (G:Nat→Nat→Prop) (v:Value) (vals:List Value) (lob:OB),ez T=true→t.ok w→(∀ b∈blocks lob,t.tb≤b)→Dk P w G T o x v lob→(blocks lob).Nodup→(∀ b∈blocks lob,b < w.heap.size)→(∀ b lim i,(b,lim)∈lob→G b i→i < lim)→
    dW P w G as vals→as.all u6=true→
    Calls P f (v::vals).toArray w fun e w'=>∃ (T':Ty) (o':aC) (x':den T') (rs:List E) (rv:Value) (lob' rob:OB),res=.loc T' o' x'::rs∧e=.returned rv∧vF P w w' G lob lob' T' o' x' v rs rv rob:=by
 unfold okF at hok
 split at hok
 case h_2=>simp at hok
 rename_i fn hfn
 simp only [aB,dX,decide_eq_true_eq] at hok
 obtain ⟨⟨⟨⟨h1,h2⟩,h3⟩,h4⟩,h5⟩:=hok
 split at h2
 case h_2=>simp at h2
 rename_i c hc
 have hz:ly fd.body=true:=by rw [hnl] at h5; simpa using h5
 -- what comes back has the record in front
 have key:∀ e env',au fd e env'=some res→e≠.exit 0→∃ (T':Ty) (o':aC) (x':den T') (rs:List E),res=.loc T' o' x'::rs∧look env' 0=.loc T' o' x'∧nq env' fd.res [0]=some rs∧ez T'=true:=by
  intro e env' hk _
  have hk':(match look env' 0 with
   | .loc T o x=>(match ez T with | true=>(nq env' fd.res [0]).bind fun l=>some (.loc T o x::l) | false=>none)
   | _=>none)=some res:=by
   unfold au at hk; rw [hnl] at hk
   cases e with
   | exit id=>simp at hk
   | normal=>exact hk
   | ret=>exact hk
  split at hk'
  ·rename_i T' o' x' hl
   split at hk'
   ·simp only [av,az] at hk'
    obtain ⟨l,h1,rfl⟩:=hk'
    exact ⟨T',o',x',l,rfl,hl,h1,by assumption⟩
   ·simp at hk'
  ·simp at hk'
 refine ⟨⟨fn,hfn,h1,by rw [hc]; rfl⟩,fun w G v vals lob hn0 ht htb hL hnd hlt hG hA hla=>calls_of_wp hfn hc ?_⟩
 have hsz:=hA.get.1
 refine wB hgood N fd.body c _ _ w _ _ _ h2 (.inr hz) (aBH ht htb hn0 hL hnd hlt hG hA hla (m:=fn.ntmps) (by omega)) h (fun e env' tm' w' ob' hC hk=>?_)
 have fin:∀ e,au fd e env'=some res→e≠.exit 0→∃ u,(results fn tm').run P w'=.ok u w'∧∃ (T':Ty) (o':aC) (x':den T') (rs:List E) (rv:Value) (lob' rob:OB),res=.loc T' o' x'::rs∧Ending.returned u=.returned rv∧vF P w w' G lob lob' T' o' x' v rs rv rob:=by
  intro e hk he
  obtain ⟨T',o',x',rs,k1,k2,k3,kn⟩:=key e env' hk he
  obtain ⟨u,k4,rv,lob',rob,k5,k6⟩:=avf h4 ht htb hC kn k2 k3
  exact ⟨u,k4,T',o',x',rs,rv,lob',rob,k1,k5,k6⟩
 cases e with
 | exit id=>unfold au at hk; simp at hk
 | normal=>exact ⟨rfl,fin _ hk (by simp)⟩
 | ret=>exact ⟨rfl,fin _ hk (by simp)⟩
theorem agT {w:World} {G:Nat→Nat→Prop} {as:List E} {vals:List Value} (h:dW P w G as vals):lp as=false:=by
 cases h with
 | nil=>rfl
 | @cons e v es vs h1 _=>cases e<;>first | rfl | exact (h1:False).elim
theorem Dr {tb:Table} {pr:oM} (N:Nat) (htb:∀ f fd,pr f=none→tb f=some fd→okF P f fd=true) (hpr:Good P t (.of fun f as=>(pr f).bind fun p=>p as)):∀ D,Good P t (eN tb pr N D)
 | 0=>⟨fun f as res h=>by simp [eN,aH.of] at h,fun f e T xs res h=>by simp [eN,aH.of] at h,fun f T o x as res h=>by simp [eN,aH.of] at h,fun f t e s x res h=>by simp [eN,aH.of] at h,fun f t e s res h=>by simp [eN,aH.of] at h⟩
 | D+1=>⟨fun f as res h w G vals ht hA=>by
   simp only [eN,aH.of] at h
   split at h
   ·rename_i p hp
    exact hpr.call f as res (by simp only [aH.of,hp,ah]; exact h) w G vals ht hA
   ·rename_i hp
    split at h
    ·simp at h
    ·split at h
     ·rename_i fd hfd
      split at h
      ·rename_i hl _
       split at h
       ·rename_i hd
        rw [agT hA] at hd
        exact aev (Dr N htb hpr D) N (htb f fd hp hfd) hl (by simpa using hd) h w G vals ht hA
       ·simp at h
      ·simp at h
     ·simp at h,fun f e T xs res h=>by
   simp only [eN,aH.of] at h
   split at h
   ·rename_i p hp
    exact hpr.wr f e T xs res (by simp only [aH.of,hp,ah]; exact h)
   ·simp [iV] at h,fun f T o x as res h=>by
   simp only [eN,aH.of] at h
   split at h
   ·rename_i p hp
    exact hpr.lend f T o x as res (by simp only [aH.of,hp,ah]; exact h)
   ·rename_i hp
    split at h
    ·simp at h
    ·split at h
     ·rename_i fd hfd
      split at h
      ·rename_i hl _
       split at h
       ·rename_i hd
        exact aeu (Dr N htb hpr D) N (htb f fd hp hfd) (by simpa using hl) (by simpa [lp] using hd) h
       ·simp at h
      ·simp at h
     ·simp at h,fun f t e s x res h=>by
   simp only [eN,aH.of] at h
   split at h
   ·rename_i p hp
    exact hpr.hQ f t e s x res (by simp only [aH.of,hp,ah]; exact h)
   ·simp [iV] at h,fun f t e s res h=>by
   simp only [eN,aH.of] at h
   split at h
   ·rename_i p hp
    exact hpr.lX f t e s res (by simp only [aH.of,hp,ah]; exact h)
   ·simp [iV] at h⟩
theorem R9 {n:FuncId} {fd:FD} {N:Nat} {base:aH} (hb:Good P t base) (hok:okF P n fd=true):∀ m,Good P t (recC n fd N base m)
 | 0=>hb
 | m+1=>⟨fun f as res h w G vals ht hA=>by
   simp only [recC,aH.of] at h
   split at h
   ·rename_i hf _
    subst hf
    split at h
    ·simp at h
    ·split at h
     ·rename_i hl _
      split at h
      ·rename_i hd
       rw [agT hA] at hd
       exact aev (R9 hb hok m) N hok hl (by simpa using hd) h w G vals ht hA
      ·simp at h
     ·simp at h
   ·exact hb.call f as res h w G vals ht hA,fun f e T xs res h=>by
   simp only [recC,aH.of] at h
   split at h
   ·simp [iV] at h
   ·exact hb.wr f e T xs res h,fun f T o x as res h=>by
   simp only [recC,aH.of] at h
   split at h
   ·rename_i hf _
    subst hf
    split at h
    ·simp at h
    ·split at h
     ·rename_i hl _
      split at h
      ·rename_i hd
       exact aeu (R9 hb hok m) N hok (by simpa using hl) (by simpa [lp] using hd) h
      ·simp at h
     ·simp at h
   ·exact hb.lend f T o x as res h,fun f t e s x res h=>by
   simp only [recC,aH.of] at h
   split at h
   ·simp [iV] at h
   ·exact hb.hQ f t e s x res h,fun f t e s res h=>by
   simp only [recC,aH.of] at h
   split at h
   ·simp [iV] at h
   ·exact hb.lX f t e s res h⟩
end
end Go.Fw
/- The glue: a call that the machine says is true. -/
namespace Go.Fw
open Go Go.RowKit
def isTrue:Option (List E)→Bool
 | some [.v .bool true]=>true
 | _=>false
theorem aol {x:Option (List E)} (h:isTrue x=true):x=some [.v .bool true]:=by
 unfold isTrue at h
 split at h
 ·rfl
 ·simp at h
theorem adD {P:Program} {t:gp} {cl:aH} {f:FuncId} {es:List E} {vals:List Value} {w:World} {G:Nat→Nat→Prop} (hg:Good P t cl) (ht:t.ok w) (h:isTrue (cl f es)=true) (hA:dW P w G es vals):
  Calls P f vals.toArray w (fun e w'=>e=.returned (.bool true)∧Below w.heap.size w w'):=by
 refine Calls.mono (hg.call f es _ (aol h) w G vals ht hA).2 ?_
 rintro e w' ⟨v,rob,rfl,hb,hres⟩
 obtain ⟨rs,rfl,h1⟩:=hres.ik rfl
 have h2:=h1 w' (fun _ _=>True) 0
 unfold Flat at h2
 obtain ⟨rfl,_⟩:=h2
 exact ⟨rfl,hb⟩
theorem aNm {P:Program} {cl:aH} {f:FuncId} {es:List E} {vals:List Value} {w:World} {G:Nat→Nat→Prop} (hg:Good P gp.nil cl) (h:isTrue (cl f es)=true) (hA:dW P w G es vals):
  Calls P f vals.toArray w (fun e w'=>e=.returned (.bool true)∧Below w.heap.size w w'):=adD hg (gp.ag3 w) h hA
theorem IG {k:IntKind} {m:Int} (h:(Lit.int k m).wf=true):gP k m:=by
 unfold gP; simpa only [Lit.wf,aB,decide_eq_true_eq] using h
theorem aNg {P:Program} {w:World} {G:Nat→Nat→Prop} {k:IntKind} {m:Int} (h:gP k m):jB P w G (.v (.int k) m) (.int k m):=⟨[.int k m],by unfold Flat; exact ⟨rfl,h,rfl⟩,rfl⟩
theorem aNf {P:Program} {w:World} {G:Nat→Nat→Prop} (b:Bool):jB P w G (.v .bool b) (.bool b):=⟨[.bool b],by unfold Flat; exact ⟨rfl,rfl⟩,rfl⟩
end Go.Fw
/- slices.Clone, at any type of elements: its contract, proved from its body (which asks whether a slice is nil: the machine's values do not say). -/
namespace Go.Fw
open Go Go.RowKit
def mg:aH:=.of fun _ _=>none
theorem Ep {P:Program} {t:gp}:Good P t mg:=⟨fun f es res h=>by simp [mg,aH.of] at h,fun f e T xs res h=>by simp [mg,aH.of] at h,fun f T o x as res h=>by simp [mg,aH.of] at h,fun f t e s x res h=>by simp [mg,aH.of] at h,fun f t e s res h=>by simp [mg,aH.of] at h⟩
def adG (e:TypeId) (T:Ty):AC:=.aa [0] [{dst:=some 2,op:=.ab (.nil e T)}]
def vX (e:TypeId) (T:Ty):AC:=.cond (.t 4) (.seq (.aa [] [{dst:=some 2,op:=.ab (.nil e T)}]) .ret) .skip
def N3 (e:TypeId) (T:Ty) (lim:Nat):AC:=.seq (.aa [0] [{dst:=some 5,op:=.buildSlice e T []},{dst:=some 6,op:=.mv (.t 0)},{dst:=some 7,op:=.append e T lim (.t 5) (.t 6)},{dst:=some 2,op:=.ab (.t 7)}]) .ret
def Er:FD:={nargs:=1,body:=.skip,res:=[.t 2]}
def qO (e:TypeId) (T:Ty) (lim:Nat):KE (List E):=nr (fun env=>exec mg 0 (N3 e T lim) env (au Er)) (au Er)
def vW (e:TypeId) (T:Ty) (b:Bool) (xs:List (den T)):Env:=[(4,.v .bool b),(3,.v (.sl T) xs),(0,.v (.sl T) xs),(2,.own true e T .no [])]
def adH (P:Program) (f:FuncId) (e:TypeId) (T:Ty) (lim:Nat):Bool:=
 match P.funcs[f]? with
 | some fn => !(fn.name == "runtime.NumGoroutine") && decide (5 ≤ fn.ntmps) && gE P fn.results.toList [.t 2] && (match fn.body with
   | some (.seq c0 (.seq (.seq (.region _ ops false) cif) cr))=>fV P fn.ntmps c0 (adG e T)&&fV P fn.ntmps cif (vX e T)&&fV P fn.ntmps cr (N3 e T lim)&&
     (match ops.toList with
      | [o1,o2]=>lT P fn.ntmps o1 {dst:=some 3,op:=.mv (.t 0)}&&o1.guard.isNone&&o2.guard.isNone&&decide (o2.dst=some 4)&&
       (match o2.op with | .binOp .eql t (.tmp 3) (.const (.slice none 0 0)) _=>vq P t e | _=>false)
      | _=>false)
   | _=>false)
 | none=>false
theorem adI {P:Program} {f:FuncId} {e:TypeId} {T:Ty} {lim:Nat} (hok:adH P f e T lim=true)
  (e1:exec mg 0 (vX e T) (vW e T true []) (qO e T lim)=some [.own true e T .no []])
  (e2:∀ xs:List (den T),exec mg 0 (vX e T) (vW e T false xs) (qO e T lim)=if ([]:List (den T)).length+xs.length≤lim then some [.own true e T .no xs] else none)
  (xs:List (den T)) (hx:xs.length≤lim) (w:World) (G:Nat→Nat→Prop) (vals:List Value) (hA:dW P w G [.v (.sl T) xs] vals):
  gS P f∧Calls P f vals.toArray w fun en w'=>∃ v rob,en=.returned v∧Below w.heap.size w w'∧lK P w w' G [.own true e T .no xs] v rob:=by
 unfold adH at hok
 split at hok
 case h_2=>simp at hok
 rename_i fn hfn
 simp only [aB,dX,decide_eq_true_eq] at hok
 obtain ⟨⟨⟨h1,h2⟩,h3⟩,h4⟩:=hok
 split at h4
 case h_2=>simp at h4
 rename_i c0 id1 ops cif cr hc
 simp only [aB] at h4
 obtain ⟨⟨⟨k0,k1⟩,k2⟩,k3⟩:=h4
 split at k3
 case h_2=>simp at k3
 rename_i o1 o2 hops
 simp only [aB,Option.isNone_iff_eq_none,decide_eq_true_eq] at k3
 obtain ⟨⟨⟨⟨j1,j2⟩,j3⟩,j4⟩,j5⟩:=k3
 split at j5
 case h_2=>simp at j5
 rename_i t yt hop
 have hu:=H7 j5
 have hops2:ops=#[o1,o2]:=vR hops
 subst hops2
 refine ⟨⟨fn,hfn,h1,by rw [hc]; rfl⟩,calls_of_wp hfn hc ?_⟩
 have hC0:=ahN (gp.ag3 w) hA (m:=fn.ntmps) (by simp; omega)
 refine wp_seq (wB (R:=Env) (r:=[(2,.own true e T .no []),(0,.v (.sl T) xs)]) Ep 0 (adG e T) c0 _ _ w _ (fun ex env=>match ex with | .normal=>some env | _=>none) _ k0 (.inl rfl) hC0 rfl (fun ex env' tm' w' ob' hC hk=>?_))
 cases ex<;>simp only [az] at hk<;>first | (exfalso; simp at hk; done) | skip
 subst hk
 refine wp_seq (wp_seq (wp_region ?_))
 show wpOps P #[o1,o2] _ [0,1] _ w'
 have w1:Region.wanted o1 (yielded #[o1,o2] tm')=true:=by simp [Region.wanted,j2]
 simp only [wpOps]
 show (if Region.wanted o1 (yielded #[o1,o2] tm')=true then _ else _)
 rw [if_pos w1]
 refine .inl (H9 (R:=Env) (r:=[(3,.v (.sl T) xs),(2,.own true e T .no []),(0,.v (.sl T) xs)]) (K:=some) Ep hC (fun env2 tm2 w2 ob2 hC2 hk2=>?_) j1 (.inl rfl) rfl)
 simp only [az] at hk2
 subst hk2
 show (if Region.wanted o2 (yielded #[o1,o2] tm2)=true then _ else _)
 rw [if_pos (by simp [Region.wanted,j3])]
 have hr:=hC2.rep 3
 obtain ⟨_,vs,f1,f2⟩:=hr
 unfold Flat at f1
 obtain ⟨_,A,cp,rfl,hle,hmx,hcells⟩:=f1
 have hv:tm2.getD 3 undef=.slice A xs.length cp:=f2
 -- what the comparison says
 have fin:∀ b,b=A.isNone→exec mg 0 (vX e T) (vW e T b xs) (qO e T lim)=some [.own true e T .no xs]:=by
  intro b hb
  cases b with
  | true=>
    have hx0:xs=[]:=by
     rcases hcells with h | ⟨b,off,cells,hA',_⟩
     ·exact h
     ·rw [hA'] at hb; simp at hb
    subst hx0; exact e1
  | false=>rw [e2 xs,if_pos (by simpa using hx)]
 have hrun:(execOp ({tmps:=tm2,defers:=[]}:Act).eval o2).run P w2=.ok (.value (.bool A.isNone)) w2:=by
  have ev:({tmps:=tm2,defers:=[]}:Act).eval (.tmp 3)=.slice A xs.length cp:=by
   rw [←hv]; rfl
  have e0:execOp ({tmps:=tm2,defers:=[]}:Act).eval o2=(do pure (.value (←(do eqGuard .eql t (.tmp 3) (.const (.slice none 0 0)) (({tmps:=tm2,defers:=[]}:Act).eval (.tmp 3)) (.slice none 0 0); binOp .eql t (({tmps:=tm2,defers:=[]}:Act).eval (.tmp 3)) (.slice none 0 0)))):Sem Next):=by
   unfold execOp; rw [hop]; rfl
  rw [e0,ev]
  have b0:binOp .eql t (.slice A xs.length cp) (.slice none 0 0)=(do pure (.bool (←Op.equal t (.slice A xs.length cp) (.slice none 0 0))):Sem Value):=rfl
  have g0:(eqGuard .eql t (.tmp 3) (.const (.slice none 0 0)) (.slice A xs.length cp) (.slice none 0 0)).run P w2=.ok () w2:=rfl
  simp only [Sem.run_bind,g0,Result.andThen_ok,b0,run_equal_slice_nil w2 t e A xs.length cp hu,Sem.run_pure]
 refine .inl (bK hrun ?_)
 have h4n:∀ k,o2.dst=some k→k < fn.ntmps:=by intro k hk; rw [j4] at hk; have:=Option.some.inj hk; exact this▸h2
 obtain ⟨ob3,hC3⟩:=ar.aX (e:=.v .bool A.isNone) hC2 (fun k hk=>⟨h4n k hk,.inl rfl⟩) (aY.refl w2) (l6 _ _ _) ({tmps:=tm2,defers:=[]}:Act) rfl
 have hC4:∃ ob4,ar P w.heap.size (vP w.heap.size G) ⟨w,fun _=>False,none,fun _ _=>False,gp.nil⟩ fn.ntmps (vW e T A.isNone xs) (({tmps:=tm2,defers:=[]}:Act).put o2.dst (.bool A.isNone)).tmps w2 ob4:=by
  refine ar.ext hC3 (fun k=>?_)
  rw [j4]
  have hp:aX [(3,.v (.sl T) xs),(2,.own true e T .no []),(0,.v (.sl T) xs)] (some 4) (.v .bool A.isNone)=[(4,.v .bool A.isNone),(3,.v (.sl T) xs),(2,.own true e T .no []),(0,.v (.sl T) xs)]:=rfl
  rw [hp]
  simp only [vW,bm]
  by_cases q4:4=k
  ·subst q4; rfl
  ·by_cases q3:3=k
   ·subst q3; rfl
   ·by_cases q2:2=k
    ·subst q2; rfl
    ·by_cases q0:0=k
     ·subst q0; rfl
     ·simp only [if_neg q4,if_neg q3,if_neg q2,if_neg q0]
 obtain ⟨ob4,hC4⟩:=hC4
 refine wB Ep 0 (vX e T) cif _ (({tmps:=tm2,defers:=[]}:Act).put o2.dst (.bool A.isNone)) w2 ob4 (qO e T lim) _ k1 (.inl rfl) hC4 (fin _ rfl) (fun ex env5 tm5 w5 ob5 hC5 hk5=>?_)
 have done:∀ (ex:Ex) (env6:Env) (tm6:Array Value) (w6:World) (ob6:Nat→OB),ar P w.heap.size (vP w.heap.size G) ⟨w,fun _=>False,none,fun _ _=>False,gp.nil⟩ fn.ntmps env6 tm6 w6 ob6→au Er ex env6=some [.own true e T .no xs]→bodyPost P fn (fun en w'=>∃ v rob,en=.returned v∧Below w.heap.size w w'∧lK P w w' G [.own true e T .no xs] v rob) (Pc ex) {({tmps:=tm2,defers:=[]}:Act).put o2.dst (.bool A.isNone) with tmps:=tm6} w6:=by
  intro ex env6 tm6 w6 ob6 hC6 hk6
  have key:=aew (fn:=fn) (fd:=Er) h3 hC6 (res:=[.own true e T .no xs])
  cases ex with
  | exit id=>simp [au] at hk6
  | normal=>exact ⟨by rw [j4]; rfl,key hk6⟩
  | ret=>exact ⟨by rw [j4]; rfl,key hk6⟩
 cases ex with
 | normal=>
   simp only [qO,nr] at hk5
   refine wB Ep 0 (N3 e T lim) cr _ {({tmps:=tm2,defers:=[]}:Act).put o2.dst (.bool A.isNone) with tmps:=tm5} w5 ob5 _ _ k2 (.inl rfl) hC5 hk5 (fun ex6 env6 tm6 w6 ob6 hC6 hk6=>?_)
   exact done ex6 env6 tm6 w6 ob6 hC6 hk6
 | exit id=>
   simp only [qO,nr] at hk5
   simp [au] at hk5
 | ret=>
   simp only [qO,nr] at hk5
   exact done .ret env5 tm5 w5 ob5 hC5 hk5
end Go.Fw
/- What follows a code may be put behind its answer. -/
namespace Go.Fw
open Go Go.RowKit
section
variable {cl:aH} {N:Nat}
theorem ahO (i:AI) (env:Env) {R R':Type} (K:dn R) (h:R→Option R'):(step cl i env K).bind h=step cl i env (fun env=>(K env).bind h):=by
 rw [Sf cl i env K,Sf cl i env (fun env=>(K env).bind h),oL]
theorem I4 {R R':Type} (b:Bool) (x y:Option R) (h:R→Option R'):(al b x y).bind h=al b (x.bind h) (y.bind h):=by cases b<;>rfl
theorem akI (g:Option (Nat×Bool)) (env:Env) {R R':Type} (y n:dn R) (h:R→Option R'):(Cy g env y n).bind h=Cy g env (fun env=>(y env).bind h) (fun env=>(n env).bind h):=by
 cases g with
 | none=>rfl
 | some q=>
   obtain ⟨s,pol⟩:=q
   simp only [Cy]
   split
   ·cases pol<;>exact I4 _ _ _ _
   ·rfl
   ·rfl
theorem RZ {R R':Type} (K:dn R) (h:R→Option R'):∀ (l:List AI) (env:Env),(ops cl l env K).bind h=ops cl l env (fun env=>(K env).bind h)
 | [],env=>rfl
 | i::r,env=>by
   simp only [ops]
   rw [akI]
   congr 1
   ·funext env
    rw [ahO]
    congr 1
    funext env
    exact RZ K h r env
   ·funext env
    exact RZ K h r _
theorem EV {R R':Type} (K:dn R) (h:R→Option R'):∀ (l:List DI) (env:Env),(hR cl l env K).bind h=hR cl l env (fun env=>(K env).bind h)
 | [],env=>rfl
 | i::r,env=>by
   have yes:∀ env',((gG cl i.ai.dst i.ai.op).runK (hid i.hide (look env)) fun δ=>match okW i env δ with
     | true=>hR cl r (δ++env') K
     | false=>none).bind h=(gG cl i.ai.dst i.ai.op).runK (hid i.hide (look env)) fun δ=>match okW i env δ with
     | true=>hR cl r (δ++env') (fun env=>(K env).bind h)
     | false=>none:=by
    intro env'
    rw [Rd.eqn,Rd.eqn,oL]
    congr 1
    funext δ
    split
    ·exact EV K h r _
    ·rfl
   have nope:∀ env',(match okW i env (one i.ai.dst .cn) with
     | true=>hR cl r (one i.ai.dst .cn++env') K
     | false=>none).bind h=match okW i env (one i.ai.dst .cn) with
     | true=>hR cl r (one i.ai.dst .cn++env') (fun env=>(K env).bind h)
     | false=>none:=by
    intro env'
    split
    ·exact EV K h r _
    ·rfl
   simp only [hR]
   split
   ·split
    ·rw [ahO]
     congr 1
     funext env
     split
     ·exact EV K h r env
     ·rfl
    ·rfl
   ·split
    ·exact yes env
    ·rename_i s pol _
     split
     ·rw [I4]
      cases pol
      ·simp only [bA,if_false]; congr 1
       ·exact nope _
       ·exact yes _
      ·simp only [if_true]; congr 1
       ·exact yes _
       ·exact nope _
     ·exact nope env
     ·rfl
theorem af9 {R R':Type} (live:List Nat) (body:{R:Type}→Env→KE R→Option R) (hb:∀ {R R':Type} (env:Env) (K:KE R) (h:R→Option R'),(body env K).bind h=body env (fun e env=>(K e env).bind h)) (K:KE R) (h:R→Option R'):
  ∀ (m:Nat) (env:Env),(iter live (fun env K=>body env K) K m env).bind h=iter live (fun env K=>body env K) (fun e env=>(K e env).bind h) m env
 | 0,env=>rfl
 | m+1,env=>by
   simp only [iter]
   rw [hb]
   congr 1
   funext e env
   cases e with
   | normal=>exact af9 live body hb K h m _
   | exit=>rfl
   | ret=>rfl
theorem pa:∀ (c:AC) {R R':Type} (env:Env) (K:KE R) (h:R→Option R'),(exec cl N c env K).bind h=exec cl N c env (fun e env=>(K e env).bind h)
 | .skip,_,_,_,_,_=>rfl
 | .ret,_,_,_,_,_=>rfl
 | .exit _,_,_,_,_,_=>rfl
 | .aa live l,_,_,env,K,h=>RZ _ _ _ _
 | .draw live l,_,_,env,K,h=>EV _ _ _ _
 | .seq a b,_,_,env,K,h=>by
   simp only [exec]
   rw [pa a]
   congr 1
   funext e env
   cases e with
   | normal=>exact pa b env K h
   | exit=>rfl
   | ret=>rfl
 | .cond c x y,_,_,env,K,h=>by
   simp only [exec]
   rw [oL]
   congr 1
   funext q
   rw [I4,pa x,pa y]
 | .block id b,_,_,env,K,h=>by
   simp only [exec]
   rw [pa b]
   congr 1
   funext e env
   cases e with
   | normal=>rfl
   | ret=>rfl
   | exit j=>
     simp only [me]
     cases Nat.decEq j id<;>rfl
 | .loop live b,_,_,env,K,h=>af9 live (fun env K=>exec cl N b env K) (fun env K h=>pa b env K h) K h N _
 | .out live b,_,_,env,K,h=>by
   simp only [exec]
   exact pa b env _ h
def adQ (T:Ty):E→Option (List (den T))
 | .own _ _ T' _ xs=>bM (.sl T) ⟨.sl T',xs⟩
 | _=>none
theorem jr {fd:FD} {env:Env} {B:Type} {ag:B→List E} {dr:List E→Option B} (hd:∀ b,dr (ag b)=some b) (g:{R:Type}→(B→Option R)→Option R)
  (hg:∀ {R:Type} (k:List E→Option R),exec cl N fd.body env (fun e env=>(au fd e env).bind k)=g (fun b=>k (ag b))):
  exec cl N fd.body env (au fd)=(g some).bind fun b=>some (ag b):=by
 have h1:exec cl N fd.body env (au fd)=g (fun b=>some (ag b)):=by
  rw [←hg (k:=some)]
  congr 1
  funext e env
  cases au fd e env<;>rfl
 have h2:g some=exec cl N fd.body env (fun e env=>(au fd e env).bind dr):=by
  rw [hg (k:=dr)]
  congr 1
  funext b
  exact (hd b).symm
 have h3:(fun (e:Ex) (env:Env)=>((au fd e env).bind dr).bind fun b=>some (ag b))=fun e env=>(au fd e env).bind fun es=>(dr es).bind fun b=>some (ag b):=by
  funext e env
  rw [oL]
 rw [h1,h2,pa,h3,hg]
 congr 1
 funext b
 rw [hd]; rfl
end
end Go.Fw
/- strings.IndexByte's kernel: what is known of it, as the machine's. -/
namespace Go.Fw
open Go Go.RowKit
theorem af7:∀ (l:List UInt8) (c:UInt8),-1≤Lib.indexByte l c∧Lib.indexByte l c≤(l.length:Int)
 | [],_=>by simp [Lib.indexByte]
 | b::l,c=>by
   have ih:=af7 l c
   simp only [Lib.indexByte]
   split
   ·simp
    omega
   ·split
    ·simp
     omega
    ·rename_i h
     simp only [beq_iff_eq] at h
     simp only [aJ]
     omega
theorem aoh {P:Program} {f:FuncId} (hcall:∀ (s:ByteArray) (c:Int) (w:World),Calls P f #[.string s,.int .u8 c] w fun e w'=>e=.returned (.int .i64 (Lib.indexByte s.data.toList c.toNat.toUInt8))∧w'=w) (hc:gS P f)
  (s:List UInt8) (c:Int) (w:World) (G:Nat→Nat→Prop) (vals:List Value) (hA:dW P w G [.v .str s,.v (.int .u8) c] vals):
  gS P f∧Calls P f vals.toArray w fun en w'=>∃ v rob,en=.returned v∧Below w.heap.size w w'∧lK P w w' G [.v (.int .i64) (Lib.indexByte s c.toNat.toUInt8)] v rob:=by
 cases hA with
 | cons h1 hA=>
   cases hA with
   | cons h2 hA=>
     cases hA
     obtain ⟨v1,f1,rfl⟩:=h1
     obtain ⟨v2,f2,rfl⟩:=h2
     unfold Flat at f1 f2
     obtain ⟨rfl,hl,_⟩:=f1
     obtain ⟨rfl,hr,_⟩:=f2
     refine ⟨hc,(hcall ⟨⟨s⟩⟩ c w).mono fun en w' ⟨he,hw⟩=>?_⟩
     subst hw
     refine ⟨_,[],he,Below.refl _ _,⟨?_,rfl,by simp,by simp⟩⟩
     refine ⟨rfl,[.int .i64 (Lib.indexByte s c.toNat.toUInt8)],?_,rfl⟩
     unfold Flat
     have hb:=af7 s c.toNat.toUInt8
     refine ⟨rfl,?_,rfl⟩
     unfold maxLen at hl
     constructor
     ·show (-9223372036854775808:Int)≤_; omega
     ·show _≤(9223372036854775807:Int); omega
end Go.Fw
/- Plain facts for loops over lists by a number. -/
namespace Go.Fw
open Go
abbrev bF:Nat:=4611686018427387904
theorem dA {n:Int} (h: -9223372036854775808≤n∧n≤9223372036854775807):IntKind.i64.wrap n=n:=IntWalk.i64_in n h
section
variable {α:Type} (pre ys:List α) (y d:α)
theorem dp:(pre++y::ys).getD (Int.toNat (pre.length:Int)) d=y:=by simp
theorem dU:(decide ((pre.length:Int) < ((pre++y::ys).length:Int)))=true:=by simp; omega
theorem ep:(decide ((pre.length:Int) < ((pre++([]:List α)).length:Int)))=false:=by simp
theorem dt:(0≤(pre.length:Int)∧(pre.length:Int) < ((pre++y::ys).length:Int))=True:=by simp; omega
theorem bP:pre++y::ys=(pre++[y])++ys:=by simp
theorem eS (h:(pre++y::ys).length≤bF):IntKind.i64.wrap ((pre.length:Int)+1)=((pre++[y]).length:Int):=by
 rw [dA]
 ·simp
 ·simp only [List.length_append,aJ,bF] at h; omega
theorem aNu:((pre++[y]).length:Int)=(pre.length:Int)+1:=by simp
end
end Go.Fw
/- The glue, generic: what a reading of the arguments says in the machine's values. -/
namespace Go.Fw
open Go Go.RowKit
def fq:(T:Ty)→den T→Prop
 | .int k,n=>gP k n
 | .str,s=>s.length≤maxLen
 | .sl T,xs=>xs.length≤maxLen∧∀ x∈xs,fq T x
 | .pair A B,x=>fq A x.1∧fq B x.2
 | .arr n T,xs=>xs.length=n∧∀ x∈xs,fq T x
 | _,_=>True
def gK:Ty→Bool
 | .int _ | .bool | .str | .unit=>true
 | .sl T=>gK T&&!(aA T==0)
 | .pair A B=>gK A&&gK B
 | .arr _ T=>gK T
 | _=>false
section
variable {H:Type} {enc:TypeId×Value→H} {P:Program} {w:World} {sp:Nat→Bool} {held:Bool} {B:Nat}
theorem j7 {t:TypeId} {T:Ty} {n:Nat} (h:dE P n t T=true):P.cellsOf t=aA T:=by
 obtain ⟨i,hi,hs⟩:=bW.size (P:=P) (t:=t) (T:=T) ⟨⟨n,h⟩⟩
 simp [Program.cellsOf,hi,hs]
theorem CU {α:Type} {Q:Nat→α→Prop}:∀ (n:Nat),(∀ i,i < n→∃ q,Q i q)→∃ L:List α,L.length=n∧∀ i q,L[i]?=some q→Q i q
 | 0,_=>⟨[],rfl,by simp⟩
 | n+1,h=>by
   obtain ⟨L,hl,hq⟩:=CU n (fun i hi=>h i (by omega))
   obtain ⟨q,hn⟩:=h n (by omega)
   refine ⟨L++[q],by simp [hl],fun i r hr=>?_⟩
   by_cases hi:i < n
   ·rw [il (by omega)] at hr; exact hq i r hr
   ·have:i < (L++[q]).length:=(lH.1 hr).1
    simp [hl] at this
    have hin:i=n:=by omega
    subst hin
    rw [gI (by omega)] at hr
    simp [hl] at hr
    subst hr; exact hn
theorem wx {α:Type} {R:α→List Value→OB→Prop}:∀ (L:List (List Value×α)),(∀ q∈L,R q.2 q.1 [])→aU R (L.map (·.2)) ((L.map (·.1)).flatten) []
 | [],_=>⟨rfl,rfl⟩
 | q::L,h=>⟨q.1,(L.map (·.1)).flatten,[],[],rfl,rfl,h q (by simp),wx L (fun r hr=>h r (by simp [hr]))⟩
theorem Pf {α:Type} {c:Nat}:∀ (L:List (List Value×α)) (cs:List Value),(∀ i q,L[i]?=some q→q.1=(cs.drop (i * c)).take c)→cs.length=L.length * c→(L.map (·.1)).flatten=cs
 | [],cs,_,h=>by
   have:cs=[]:=l7 (by simpa using h)
   rw [this]; rfl
 | q::L,cs,h,hl=>by
   have h0:=h 0 q rfl
   rw [aJ,s7,Nat.one_mul] at hl
   have ih:=Pf (c:=c) L (cs.drop c) (fun i q' hq=>by
    have:=h (i+1) q' (by simpa using hq)
    rw [this,Sy,s7,Nat.one_mul,Nat.add_comm c]) (by rw [List.length_drop]; omega)
   rw [List.map_cons,List.flatten_cons,ih,h0]
   simp
theorem Pg {c:Nat}:∀ (L:List (List Value)),(∀ l∈L,l.length=c)→∀ (j:Nat) (v:Value),L.flatten[j]?=some v→∃ i r l,j=i * c+r∧r < c∧L[i]?=some l∧l[r]?=some v
 | [],_,j,v,h=>by simp at h
 | l::L,hl,j,v,h=>by
   rw [List.flatten_cons] at h
   have hc:=hl l (by simp)
   by_cases hj:j < c
   ·rw [il (by omega)] at h
    exact ⟨0,j,l,by omega,hj,rfl,h⟩
   ·rw [gI (by omega),hc] at h
    obtain ⟨i,r,l',h1,h2,h3,h4⟩:=Pg L (fun l hl'=>hl l (by simp [hl'])) (j - c) v h
    refine ⟨i+1,r,l',?_,h2,by simpa using h3,h4⟩
    rw [s7]; omega
theorem add_add (a:Addr) (i j:Nat) (h:(a.add i).spot=none):((a.add i).add j)=⟨a.block,a.off+i+j,none⟩:=by
 obtain ⟨b,off,s⟩:=a
 unfold Addr.add at h ⊢
 by_cases h1:i=0<;>by_cases h2:j=0<;>simp_all
theorem ahJ {w:World} {a:Addr} {v:Value} (h:w.cell? a=some v):a.spot=none:=by
 unfold World.cell? at h
 split at h
 ·cases hs:a.spot with
  | none=>rfl
  | some s=>simp [hs] at h
 ·simp at h
theorem ax6:∀ (m:Nat),
  (∀ (t:TypeId) (T:Ty) (fuel:Nat) (cs:List Value) (x:DataW H×List MemPlace),dE P m t T=true→gK T=true→DataW.trod enc P w 0 sp held fuel t cs=some x→∃ v,Flat P T w (fun _ _=>True) B .no v cs []∧fq T v)∧
  (∀ (fs:List Field) (T:Ty) (off:Nat) (cs:List Value),eo P m fs T off=true→gK T=true→cs.length=off+aA T→
   (∀ (i:Nat) (f:Field),fs[i]?=some f→∃ n y,DataW.trod enc P w 0 sp held n f.type ((cs.drop f.offset).take (P.cellsOf f.type))=some y)→∃ v,Flat P T w (fun _ _=>True) B .no v (cs.drop off) []∧fq T v):=by
 intro m
 induction m with
 | zero=>exact ⟨fun t T fuel cs x h=>by simp [dE] at h,fun fs T off cs h=>by simp [eo] at h⟩
 | succ m ih=>
   obtain ⟨ih1,ih2⟩:=ih
   refine ⟨fun t T fuel cs x h ha hd=>?_,fun fs T off cs h ha hl hd=>?_⟩
   ·have hT:bW P t T:=⟨⟨m+1,h⟩⟩
    cases T with
    | int k=>
      obtain ⟨n,rfl,_,hw⟩:=DataW.trod_int hT.int hd
      exact ⟨n,by unfold Flat; exact ⟨rfl,IG hw,rfl⟩,IG hw⟩
    | bool=>
      unfold dE at h
      simp only [aB] at h
      have h2:=h.2
      split at h2<;>first | (simp at h2; done) | skip
      ·rename_i hu
       obtain ⟨b,rfl,_⟩:=DataW.trod_bool hu hd
       exact ⟨b,by unfold Flat; exact ⟨rfl,rfl⟩,trivial⟩
      ·cases m with
       | zero=>simp [eo] at h2
       | succ m=>unfold eo at h2; split at h2<;>simp at h2
    | str=>
      obtain ⟨s,rfl,_,hw⟩:=DataW.trod_string hT.str hd
      obtain ⟨⟨s⟩⟩:=s
      exact ⟨s,by unfold Flat; exact ⟨rfl,hw,rfl⟩,hw⟩
    | unit=>
      unfold dE at h
      simp only [aB] at h
      have h2:=h.2
      split at h2<;>first | (simp at h2; done) | skip
      rename_i fs hu
      obtain ⟨xs,n,_,_,hlen,hxl,_⟩:=DataW.trod_struct hu hd
      rw [j7 (n:=m+1) (T:=.unit) (by unfold dE; simp only [aB]; refine ⟨h.1,?_⟩; rw [hu]; exact h2)] at hlen
      have:cs=[]:=l7 hlen
      subst this
      exact ⟨(),by unfold Flat; exact ⟨rfl,rfl⟩,trivial⟩
    | pair A C=>
      have hsz:=j7 h
      unfold dE at h
      simp only [aB] at h
      have h2:=h.2
      split at h2<;>first | (simp at h2; done) | skip
      rename_i fs hu
      obtain ⟨xs,n,_,_,hlen,hxl,hf⟩:=DataW.trod_struct hu hd
      have:=ih2 fs.toList (.pair A C) 0 cs h2 ha (by rw [hlen,hsz]; omega) (fun i f hi=>by
       have hi':fs[i]?=some f:=by simpa using hi
       have hlt:i < xs.length:=by rw [hxl]; exact (Df.1 hi').1
       exact ⟨n,xs[i],by rw [hf i f hi']; exact fr hlt⟩)
      simpa using this
    | sl T=>
      simp only [gK,aB,dX,beq_eq_false_iff_ne] at ha
      obtain ⟨e,hu,_⟩:=hT.slice
      have he:dE P m e T=true:=by
       unfold dE at h
       simp only [aB] at h
       have h2:=h.2
       rw [hu] at h2
       exact h2
      have hc:P.cellsOf e=aA T:=j7 he
      rcases DataW.trod_slice hu hd with ⟨rfl,_⟩ | ⟨a,len,cap,elems,rest,n,_,rfl,_,hb,hl,hm,hlen,hel,_⟩
      ·refine ⟨[],?_,by simp [fq]⟩
       unfold Flat
       exact ⟨rfl,none,0,rfl,b5 _,by simp,.inl rfl⟩
      ·have key:∀ i,i < len→∃ q:List Value×den T,(q.1.length=aA T∧(∀ r,r < aA T→w.cell? ((a.add (i * aA T)).add r)=q.1[r]?))∧Flat P T w (fun _ _=>True) B .no q.2 q.1 []∧fq T q.2:=by
        intro i hi
        have:=hel i hi
        rw [fr (by omega)] at this
        obtain ⟨cs',hcs,hy⟩:=av.1 this
        obtain ⟨v,hv1,hv2⟩:=ih1 e T n cs' _ he ha.1 hy
        obtain ⟨_,k1,k2⟩:=World.cells?_some hcs
        rw [hc] at k1 k2
        exact ⟨(cs',v),⟨k1,k2⟩,hv1,hv2⟩
       obtain ⟨L,hL,hq⟩:=CU len key
       refine ⟨L.map (·.2),?_,?_⟩
       ·unfold Flat
        refine ⟨rfl,some a,cap,by simp [hL],by simpa [hL] using hl,hm,?_⟩
        by_cases h0:len=0
        ·left; have:L=[]:=l7 (by omega); simp [this]
        ·right
         have hpos:0 < aA T:=Nat.pos_of_ne_zero ha.2
         have hcell:∀ i r q,L[i]?=some q→r < aA T→∃ v,q.1[r]?=some v∧w.cell? ((a.add (i * aA T)).add r)=some v:=by
          intro i r q hi hr
          have:=(hq i q hi).1
          refine ⟨q.1[r]'(by omega),fr _,?_⟩
          rw [this.2 r hr]; exact fr _
         have hsp:a.spot=none:=by
          obtain ⟨v,_,hv⟩:=hcell 0 0 (L[0]'(by omega)) (fr _) hpos
          have:=ahJ hv
          simpa [Addr.add] using this
         obtain ⟨b,off,s⟩:=a
         simp only at hsp
         subst hsp
         refine ⟨b,off,(L.map (·.1)).flatten,rfl,wx L (fun q hq'=>?_),fun j v hj=>⟨?_,trivial⟩⟩
         ·obtain ⟨i,hi⟩:=lI hq'
          exact (hq i q hi).2.1
         ·obtain ⟨i,r,l,rfl,hr,hi,hv⟩:=Pg _ (fun l hl'=>by
           obtain ⟨q,hq',rfl⟩:=ew.1 hl'
           obtain ⟨i,hi⟩:=lI hq'
           exact (hq i q hi).1.1) j v hj
          rw [oF,SK] at hi
          obtain ⟨q,hi,rfl⟩:=hi
          obtain ⟨v',hv1,hv2⟩:=hcell i r q hi hr
          rw [hv] at hv1; cases hv1
          rw [WideShapes.add_plain,WideShapes.add_plain,Nat.add_assoc] at hv2
          exact hv2
       ·unfold fq
        refine ⟨by simp [hL]; omega,fun x hx=>?_⟩
        obtain ⟨q,hq',rfl⟩:=ew.1 hx
        obtain ⟨i,hi⟩:=lI hq'
        exact (hq i q hi).2.2
    | arr n T=>
      have hsz:=j7 h
      unfold dE at h
      simp only [aB] at h
      have h2:=h.2
      split at h2<;>first | (simp at h2; done) | skip
      ·rename_i n' e hu
       simp only [aB,beq_iff_eq] at h2
       obtain ⟨rfl,he⟩:=h2
       simp only [gK] at ha
       have hc:P.cellsOf e=aA T:=j7 he
       obtain ⟨xs,k,_,_,hlen,hxl,hel⟩:=DataW.trod_array hu hd
       have key:∀ i,i < n'→∃ q:List Value×den T,q.1=(cs.drop (i * aA T)).take (aA T)∧Flat P T w (fun _ _=>True) B .no q.2 q.1 []∧fq T q.2:=by
        intro i hi
        have:=hel i hi
        rw [fr (by omega),hc] at this
        obtain ⟨v,hv1,hv2⟩:=ih1 e T k _ _ he ha this
        exact ⟨(_,v),rfl,hv1,hv2⟩
       obtain ⟨L,hL,hq⟩:=CU n' key
       refine ⟨L.map (·.2),?_,?_⟩
       ·unfold Flat
        refine ⟨by simp [hL],?_⟩
        have:=wx (R:=Flat P T w (fun _ _=>True) B .no) L (fun q hq'=>by
         obtain ⟨i,hi⟩:=lI hq'
         exact (hq i q hi).2.1)
        rwa [Pf (c:=aA T) L cs (fun i q hi=>(hq i q hi).1) (by rw [hlen,hsz,hL]; rfl)] at this
       ·unfold fq
        refine ⟨by simp [hL],fun x hx=>?_⟩
        obtain ⟨q,hq',rfl⟩:=ew.1 hx
        obtain ⟨i,hi⟩:=lI hq'
        exact (hq i q hi).2.2
      ·cases m with
       | zero=>simp [eo] at h2
       | succ m=>unfold eo at h2; split at h2<;>simp at h2
    | fn A C=>simp [gK] at ha
   ·cases fs with
    | nil=>
      unfold eo at h
      cases T<;>first | (exfalso; simp at h; done) | skip
      refine ⟨(),?_,trivial⟩
      unfold Flat
      exact ⟨by apply SA; simp [aA] at hl; omega,rfl⟩
    | cons f fs=>
      unfold eo at h
      cases T<;>first | (exfalso; simp at h; done) | skip
      rename_i A C
      simp only [aB,beq_iff_eq] at h
      obtain ⟨⟨h1,h2⟩,h3⟩:=h
      simp only [gK,aB] at ha
      simp only [aA] at hl
      obtain ⟨n,y,hy⟩:=hd 0 f rfl
      obtain ⟨v1,g1,g2⟩:=ih1 f.type A n _ y h2 ha.1 hy
      obtain ⟨v2,g3,g4⟩:=ih2 fs C (off+aA A) cs h3 ha.2 (by omega) (fun i f' hi=>hd (i+1) f' (by simpa using hi))
      refine ⟨(v1,v2),?_,g2,g4⟩
      unfold Flat
      refine ⟨_,_,[],[],?_,rfl,g1,g3⟩
      rw [h1,j7 h2,←Sy,qG]
theorem aNz {r:Reach} {b0:Nat} {t:TypeId} {T:Ty} {v:Value} {d:DataW H} {ps:List MemPlace} (hT:eJ P t T=true) (ha:gK T=true) (hval:Value.okWide P w r b0 t v) (hd:DataW.Trod enc P w 0 sp held t v d ps):
  ∃ x:den T,jB P w (fun _ _=>True) (.v T x) v∧fq T x:=by
 obtain ⟨fuel,hf⟩:=hd
 obtain ⟨x,h1,h2⟩:=(ax6 (B:=w.heap.size) 64).1 t T fuel _ _ hT ha hf
 refine ⟨x,⟨_,h1,?_⟩,h2⟩
 have hTy:=eR hT
 obtain ⟨dsc,hu,hag⟩:=hTy.agg
 unfold ck
 unfold Value.okWide at hval
 by_cases hagg:fk T=true
 ·rw [if_pos hagg]
  rw [hagg] at hag
  rw [hu] at hval
  cases dsc<;>simp only [qK] at hag<;>first | (exfalso; simp at hag; done) | (obtain ⟨cs,rfl,_⟩:=hval; simp [Value.cells])
 ·rw [if_neg hagg]
  have hagg':qK dsc=false:=by rw [hag]; simpa using hagg
  have hl:v.cells.toList.length=1:=by
   have:=Flat.len P T h1
   rw [this]; cases T<;>simp_all [fk,aA]
  cases v<;>first | rfl | skip
  rename_i cs
  exfalso
  rw [hu] at hval
  cases dsc<;>simp only [qK] at hagg'<;>first | (exfalso; simp at hagg'; done) | (simp [Cell.okWide,Cell.ok,hu] at hval; done) | skip
theorem SX {W W':World} (hl:laidOutB P=true) (hB:Below W.heap.size W W'):∀ (ts:List TypeId) (vs:List Value) (ds:List (DataW H)) (ps:List MemPlace),(ts.all fun t=>P.readableRec t&&decide (t < P.types.size))=true→
  DataW.TrodAll enc P W 0 (fun _=>true) true ts vs ds ps→DataW.TrodAll enc P W' 0 (fun b=>decide (b < W.heap.size)) true ts vs ds ps
 | [],vs,ds,ps,_,h=>by
   obtain ⟨rfl,rfl,rfl⟩:=ChangeShapes.trodAll_nil h
   exact ChangeShapes.trodAll_mk0
 | t::ts,vs,ds,ps,ht,h=>by
   obtain ⟨v,vs',d,ds',p,q,rfl,rfl,rfl,h1,h2⟩:=ChangeShapes.trodAll_cons h
   simp only [jC,aB,decide_eq_true_eq] at ht
   have lt:∀ x∈p,x.block < W.heap.size:=by
    obtain ⟨n,hn⟩:=h1
    exact DataW.trod_lt n _ _ _ hn
   exact ⟨p,q,WideElems.Trod_stays hl ht.1.1 ht.1.2 h1 (fun x hx=>hB.same (lt x hx)) (fun x hx=>by simpa using lt x hx),SX hl hB ts vs' ds' q ht.2 h2,rfl⟩
end
end Go.Fw
/- The glue, generic: how long the arguments' texts are. -/
namespace Go.Fw
open Go Go.RowKit
def gT (K:Nat):(T:Ty)→den T→Prop
 | .str,s=>s.length≤K
 | .sl T,xs=>∀ x∈xs,gT K T x
 | .pair A B,x=>gT K A x.1∧gT K B x.2
 | .arr _ T,xs=>∀ x∈xs,gT K T x
 | _,_=>True
section
variable {H:Type} {enc:TypeId×Value→H} {P:Program} {w:World} {sp:Nat→Bool} {held:Bool} {B:Nat}
theorem Sk {e:TypeId} {K:Nat}:∀ {l:List (DataW H)} {i:Nat} {d:DataW H},l[i]?=some d→(DataW.weightsAll P e l).all (· ≤K)=true→(d.weights P e).all (· ≤K)=true
 | [],i,d,h,_=>by simp at h
 | x::l,0,d,h,hz=>by
   simp only [im,az] at h
   subst h
   simp only [DataW.weightsAll,IJ,aB] at hz
   exact hz.1
 | x::l,i+1,d,h,hz=>by
   simp only [DataW.weightsAll,IJ,aB] at hz
   exact Sk (by simpa using h) hz.2
theorem ax7 (K:Nat):∀ (m:Nat),
  (∀ (t:TypeId) (T:Ty) (fuel:Nat) (cs:List Value) (x:DataW H×List MemPlace),dE P m t T=true→gK T=true→DataW.trod enc P w 0 sp held fuel t cs=some x→∃ v,Flat P T w (fun _ _=>True) B .no v cs []∧fq T v∧((x.1.weights P t).all (· ≤K)=true→gT K T v))∧
  (∀ (fs:List Field) (T:Ty) (off:Nat) (cs:List Value) (ds:List (DataW H)),eo P m fs T off=true→gK T=true→cs.length=off+aA T→
   (∀ (i:Nat) (f:Field),fs[i]?=some f→∃ n y,DataW.trod enc P w 0 sp held n f.type ((cs.drop f.offset).take (P.cellsOf f.type))=some y∧ds[i]?=some y.1)→∃ v,Flat P T w (fun _ _=>True) B .no v (cs.drop off) []∧fq T v∧((DataW.weightsEach P (fs.map (·.type)) ds).all (· ≤K)=true→gT K T v)):=by
 intro m
 induction m with
 | zero=>exact ⟨fun t T fuel cs x h=>by simp [dE] at h,fun fs T off cs ds h=>by simp [eo] at h⟩
 | succ m ih=>
   obtain ⟨ih1,ih2⟩:=ih
   refine ⟨fun t T fuel cs x h ha hd=>?_,fun fs T off cs ds h ha hl hd=>?_⟩
   ·have hT:bW P t T:=⟨⟨m+1,h⟩⟩
    cases T with
    | int k=>
      obtain ⟨n,rfl,_,hw⟩:=DataW.trod_int hT.int hd
      exact ⟨n,by unfold Flat; exact ⟨rfl,IG hw,rfl⟩,IG hw,fun _=>trivial⟩
    | bool=>
      unfold dE at h
      simp only [aB] at h
      have h2:=h.2
      split at h2<;>first | (simp at h2; done) | skip
      ·rename_i hu
       obtain ⟨b,rfl,_⟩:=DataW.trod_bool hu hd
       exact ⟨b,by unfold Flat; exact ⟨rfl,rfl⟩,trivial,fun _=>trivial⟩
      ·cases m with
       | zero=>simp [eo] at h2
       | succ m=>unfold eo at h2; split at h2<;>simp at h2
    | str=>
      obtain ⟨s,rfl,hx,hw⟩:=DataW.trod_string hT.str hd
      obtain ⟨⟨s⟩⟩:=s
      refine ⟨s,by unfold Flat; exact ⟨rfl,hw,rfl⟩,hw,fun hz=>?_⟩
      rw [hx] at hz
      simpa [DataW.weights,gT] using hz
    | unit=>
      unfold dE at h
      simp only [aB] at h
      have h2:=h.2
      split at h2<;>first | (simp at h2; done) | skip
      rename_i fs hu
      obtain ⟨xs,n,_,_,hlen,hxl,_⟩:=DataW.trod_struct hu hd
      rw [j7 (n:=m+1) (T:=.unit) (by unfold dE; simp only [aB]; refine ⟨h.1,?_⟩; rw [hu]; exact h2)] at hlen
      have:cs=[]:=l7 hlen
      subst this
      exact ⟨(),by unfold Flat; exact ⟨rfl,rfl⟩,trivial,fun _=>trivial⟩
    | pair A C=>
      have hsz:=j7 h
      unfold dE at h
      simp only [aB] at h
      have h2:=h.2
      split at h2<;>first | (simp at h2; done) | skip
      rename_i fs hu
      obtain ⟨xs,n,_,hx,hlen,hxl,hf⟩:=DataW.trod_struct hu hd
      obtain ⟨v,g1,g2,g3⟩:=ih2 fs.toList (.pair A C) 0 cs (xs.map (·.1)) h2 ha (by rw [hlen,hsz]; omega) (fun i f hi=>by
       have hi':fs[i]?=some f:=by simpa using hi
       have hlt:i < xs.length:=by rw [hxl]; exact (Df.1 hi').1
       exact ⟨n,xs[i],by rw [hf i f hi']; exact fr hlt,by rw [oF,fr hlt]; rfl⟩)
      refine ⟨v,by simpa using g1,g2,fun hz=>g3 ?_⟩
      rw [hx] at hz
      simpa only [DataW.weights,hu] using hz
    | sl T=>
      simp only [gK,aB,dX,beq_eq_false_iff_ne] at ha
      obtain ⟨e,hu,_⟩:=hT.slice
      have he:dE P m e T=true:=by
       unfold dE at h
       simp only [aB] at h
       have h2:=h.2
       rw [hu] at h2
       exact h2
      have hc:P.cellsOf e=aA T:=j7 he
      rcases DataW.trod_slice hu hd with ⟨rfl,_⟩ | ⟨a,len,cap,elems,rest,n,_,rfl,hx,hb,hl,hm,hlen,hel,_⟩
      ·refine ⟨[],?_,by simp [fq],fun _=>by simp [gT]⟩
       unfold Flat
       exact ⟨rfl,none,0,rfl,b5 _,by simp,.inl rfl⟩
      ·have key:∀ i,i < len→∃ q:List Value×den T,(q.1.length=aA T∧(∀ r,r < aA T→w.cell? ((a.add (i * aA T)).add r)=q.1[r]?))∧Flat P T w (fun _ _=>True) B .no q.2 q.1 []∧fq T q.2∧∃ y,elems[i]?=some y∧((y.1.weights P e).all (· ≤K)=true→gT K T q.2):=by
        intro i hi
        have:=hel i hi
        rw [fr (by omega)] at this
        obtain ⟨cs',hcs,hy⟩:=av.1 this
        obtain ⟨v,hv1,hv2,hv3⟩:=ih1 e T n cs' _ he ha.1 hy
        obtain ⟨_,k1,k2⟩:=World.cells?_some hcs
        rw [hc] at k1 k2
        exact ⟨(cs',v),⟨k1,k2⟩,hv1,hv2,_,fr _,hv3⟩
       obtain ⟨L,hL,hq⟩:=CU len key
       refine ⟨L.map (·.2),?_,?_,fun hz=>?_⟩
       ·unfold Flat
        refine ⟨rfl,some a,cap,by simp [hL],by simpa [hL] using hl,hm,?_⟩
        by_cases h0:len=0
        ·left; have:L=[]:=l7 (by omega); simp [this]
        ·right
         have hpos:0 < aA T:=Nat.pos_of_ne_zero ha.2
         have hcell:∀ i r q,L[i]?=some q→r < aA T→∃ v,q.1[r]?=some v∧w.cell? ((a.add (i * aA T)).add r)=some v:=by
          intro i r q hi hr
          have:=(hq i q hi).1
          refine ⟨q.1[r]'(by omega),fr _,?_⟩
          rw [this.2 r hr]; exact fr _
         have hsp:a.spot=none:=by
          obtain ⟨v,_,hv⟩:=hcell 0 0 (L[0]'(by omega)) (fr _) hpos
          have:=ahJ hv
          simpa [Addr.add] using this
         obtain ⟨b,off,s⟩:=a
         simp only at hsp
         subst hsp
         refine ⟨b,off,(L.map (·.1)).flatten,rfl,wx L (fun q hq'=>?_),fun j v hj=>⟨?_,trivial⟩⟩
         ·obtain ⟨i,hi⟩:=lI hq'
          exact (hq i q hi).2.1
         ·obtain ⟨i,r,l,rfl,hr,hi,hv⟩:=Pg _ (fun l hl'=>by
           obtain ⟨q,hq',rfl⟩:=ew.1 hl'
           obtain ⟨i,hi⟩:=lI hq'
           exact (hq i q hi).1.1) j v hj
          rw [oF,SK] at hi
          obtain ⟨q,hi,rfl⟩:=hi
          obtain ⟨v',hv1,hv2⟩:=hcell i r q hi hr
          rw [hv] at hv1; cases hv1
          rw [WideShapes.add_plain,WideShapes.add_plain,Nat.add_assoc] at hv2
          exact hv2
       ·unfold fq
        refine ⟨by simp [hL]; omega,fun x hx=>?_⟩
        obtain ⟨q,hq',rfl⟩:=ew.1 hx
        obtain ⟨i,hi⟩:=lI hq'
        exact (hq i q hi).2.2.1
       ·unfold gT
        intro x hx2
        obtain ⟨q,hq',rfl⟩:=ew.1 hx2
        obtain ⟨i,hi⟩:=lI hq'
        obtain ⟨y,hy1,hy2⟩:=(hq i q hi).2.2.2
        apply hy2
        rw [hx] at hz
        simp only [DataW.weights,hu,jC,IJ,aB] at hz
        exact Sk (by rw [oF,hy1]; rfl) hz.2.1
    | arr n T=>
      have hsz:=j7 h
      unfold dE at h
      simp only [aB] at h
      have h2:=h.2
      split at h2<;>first | (simp at h2; done) | skip
      ·rename_i n' e hu
       simp only [aB,beq_iff_eq] at h2
       obtain ⟨rfl,he⟩:=h2
       simp only [gK] at ha
       have hc:P.cellsOf e=aA T:=j7 he
       obtain ⟨xs,k,_,hx,hlen,hxl,hel⟩:=DataW.trod_array hu hd
       have key:∀ i,i < n'→∃ q:List Value×den T,q.1=(cs.drop (i * aA T)).take (aA T)∧Flat P T w (fun _ _=>True) B .no q.2 q.1 []∧fq T q.2∧∃ y,xs[i]?=some y∧((y.1.weights P e).all (· ≤K)=true→gT K T q.2):=by
        intro i hi
        have:=hel i hi
        rw [fr (by omega),hc] at this
        obtain ⟨v,hv1,hv2,hv3⟩:=ih1 e T k _ _ he ha this
        exact ⟨(_,v),rfl,hv1,hv2,_,fr _,hv3⟩
       obtain ⟨L,hL,hq⟩:=CU n' key
       refine ⟨L.map (·.2),?_,?_,fun hz=>?_⟩
       ·unfold Flat
        refine ⟨by simp [hL],?_⟩
        have:=wx (R:=Flat P T w (fun _ _=>True) B .no) L (fun q hq'=>by
         obtain ⟨i,hi⟩:=lI hq'
         exact (hq i q hi).2.1)
        rwa [Pf (c:=aA T) L cs (fun i q hi=>(hq i q hi).1) (by rw [hlen,hsz,hL]; rfl)] at this
       ·unfold fq
        refine ⟨by simp [hL],fun x hx=>?_⟩
        obtain ⟨q,hq',rfl⟩:=ew.1 hx
        obtain ⟨i,hi⟩:=lI hq'
        exact (hq i q hi).2.2.1
       ·unfold gT
        intro x hx2
        obtain ⟨q,hq',rfl⟩:=ew.1 hx2
        obtain ⟨i,hi⟩:=lI hq'
        obtain ⟨y,hy1,hy2⟩:=(hq i q hi).2.2.2
        apply hy2
        rw [hx] at hz
        simp only [DataW.weights,hu] at hz
        exact Sk (by rw [oF,hy1]; rfl) hz
      ·cases m with
       | zero=>simp [eo] at h2
       | succ m=>unfold eo at h2; split at h2<;>simp at h2
    | fn A C=>simp [gK] at ha
   ·cases fs with
    | nil=>
      unfold eo at h
      cases T<;>first | (exfalso; simp at h; done) | skip
      refine ⟨(),?_,trivial,fun _=>trivial⟩
      unfold Flat
      exact ⟨by apply SA; simp [aA] at hl; omega,rfl⟩
    | cons f fs=>
      unfold eo at h
      cases T<;>first | (exfalso; simp at h; done) | skip
      rename_i A C
      simp only [aB,beq_iff_eq] at h
      obtain ⟨⟨h1,h2⟩,h3⟩:=h
      simp only [gK,aB] at ha
      simp only [aA] at hl
      obtain ⟨n,y,hy,hy0⟩:=hd 0 f rfl
      obtain ⟨v1,g1,g2,g5⟩:=ih1 f.type A n _ y h2 ha.1 hy
      obtain ⟨d0,ds',rfl⟩:∃ d0 ds',ds=d0::ds':=by
       cases ds with
       | nil=>simp at hy0
       | cons d r=>exact ⟨d,r,rfl⟩
      simp only [im,az] at hy0
      obtain ⟨v2,g3,g4,g6⟩:=ih2 fs C (off+aA A) cs ds' h3 ha.2 (by omega) (fun i f' hi=>by simpa using hd (i+1) f' (by simpa using hi))
      refine ⟨(v1,v2),?_,⟨g2,g4⟩,fun hz=>?_⟩
      ·unfold Flat
       refine ⟨_,_,[],[],?_,rfl,g1,g3⟩
       rw [h1,j7 h2,←Sy,qG]
      ·simp only [List.map_cons,DataW.weightsEach,IJ,aB] at hz
       exact ⟨g5 (by rw [←hy0]; exact hz.1),g6 hz.2⟩
theorem aM6 {ts:List TypeId} {ds:List (DataW H)} {K:Nat} (h:(DataW.weightsEach P ts ds).all (· ≤K)=true) {j:Nat} {t:TypeId} {d:DataW H} (ht:ts[j]?=some t) (hd:ds[j]?=some d):(d.weights P t).all (· ≤K)=true:=by
 rw [gl] at h ⊢
 intro n hn
 exact h n (DataW.weights_mem_each ht hd n hn)
theorem ax5 {r:Reach} {b0:Nat} {t:TypeId} {T:Ty} {v:Value} {d:DataW H} {ps:List MemPlace} (hT:eJ P t T=true) (ha:gK T=true) (hval:Value.okWide P w r b0 t v) (hd:DataW.Trod enc P w 0 sp held t v d ps) (hz:(d.weights P t).all (· ≤reachBytes)=true):
  ∃ x:den T,jB P w (fun _ _=>True) (.v T x) v∧fq T x∧gT reachBytes T x:=by
 obtain ⟨fuel,hf⟩:=hd
 obtain ⟨x,h1,h2,h3⟩:=(ax7 (B:=w.heap.size) reachBytes 64).1 t T fuel _ _ hT ha hf
 refine ⟨x,⟨_,h1,?_⟩,h2,h3 hz⟩
 have hTy:=eR hT
 obtain ⟨dsc,hu,hag⟩:=hTy.agg
 unfold ck
 unfold Value.okWide at hval
 by_cases hagg:fk T=true
 ·rw [if_pos hagg]
  rw [hagg] at hag
  rw [hu] at hval
  cases dsc<;>simp only [qK] at hag<;>first | (exfalso; simp at hag; done) | (obtain ⟨cs,rfl,_⟩:=hval; simp [Value.cells])
 ·rw [if_neg hagg]
  have hagg':qK dsc=false:=by rw [hag]; simpa using hagg
  have hl:v.cells.toList.length=1:=by
   have:=Flat.len P T h1
   rw [this]; cases T<;>simp_all [fk,aA]
  cases v<;>first | rfl | skip
  rename_i cs
  exfalso
  rw [hu] at hval
  cases dsc<;>simp only [qK] at hagg'<;>first | (exfalso; simp at hagg'; done) | (simp [Cell.okWide,Cell.ok,hu] at hval; done) | skip
end
end Go.Fw
