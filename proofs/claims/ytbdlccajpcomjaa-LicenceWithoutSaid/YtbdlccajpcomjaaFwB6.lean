/- Own work: the value machine, part 6. -/
import Derived.Test.YtbdlccajpcomjaaFwB5
import Derived.Laws.Cover3
import Derived.Test.YtbdlccajpcomjaaFwB4
import Derived.Test.YtbdlccajpcomjaaFwB1
import Derived.Lib.Bytealg
import Derived.IntWalk
import Derived.OpenShut
import Derived.ChangeOld
import Derived.WideKeyArgs
import Derived.SizedLaws
set_option linter.unusedVariables false
set_option linter.unusedSimpArgs false
/- Soundness, part 23: code; what a function hands back. -/
namespace Go.Fw
open Go Go.RowKit
def okC (P:Program) (n:Nat) (c:Code):AC→Bool
 | .out _ x=>okC P n c x
 | .skip=>(match c with | .skip=>true | _=>false)
 | .reg _ l=>(match c with | .region _ ops false=>okOps P n ops 0 l | _=>false)
 | .draw _ l=>(match c with | .region _ ops true=>okD P n ops l | _=>false)
 | .seq x' y'=>(match c with | .seq x y=>okC P n x x'&&okC P n y y' | _=>false)
 | .cond d x' y'=>(match c with | .cond e x y=>okOd e d&&okC P n x x'&&okC P n y y' | _=>false)
 | .block id' x'=>(match c with | .block id x=>id==id'&&okC P n x x' | _=>false)
 | .loop _ x'=>(match c with | .loop x=>okC P n x x' | _=>false)
 | .exit id'=>(match c with | .exit id=>id==id' | _=>false)
 | .ret=>(match c with | .ret=>true | _=>false)
def noZC:AC→Bool
 | .out _ x=>noZC x
 | .reg _ l=>l.all noZ
 | .draw _ l=>l.all fun i=>noZ i.ai
 | .seq x y=>noZC x&&noZC y
 | .cond _ x y=>noZC x&&noZC y
 | .block _ x=>noZC x
 | .loop _ x=>noZC x
 | _=>true
def exOf:Ex→Exit
 | .normal=>.normal
 | .exit id=>.exit id
 | .ret=>.ret
section
variable {P:Program} {B:Nat} {G0:Nat→Nat→Prop} {W0:Base} {n:Nat} {cl:Cal}
variable {R:Type} {r:R}
def KEOk (P:Program) (B:Nat) (G0:Nat→Nat→Prop) (W0:Base) (n:Nat) (a:Act) (K:KE R) (r:R) (Q:Exit→Act→World→Prop):Prop:=
 ∀ e env' tm' w' ob',Conc P B G0 W0 n env' tm' w' ob'→K e env'=some r→Q (exOf e) {a with tmps:=tm'} w'
theorem exec_sound (hgood:Good P W0.t cl) (N:Nat):∀ (ac:AC) (c:Code) (env:Env) (a:Act) (w:World) (ob:Nat→OB) (K:KE R) (Q:Exit→Act→World→Prop),okC P n c ac=true→(W0.pin=none∨noZC ac=true)→Conc P B G0 W0 n env a.tmps w ob→
  exec cl N ac env K=some r→KEOk P B G0 W0 n a K r Q→c.wp P Q a w:=by
 intro ac
 induction ac with
 | skip=>
   intro c env a w ob K Q hok hz hC h hK
   cases c<;>simp only [okC,Bool.false_eq_true] at hok
   exact wp_skip (hK .normal env a.tmps w ob hC h)
 | ret=>
   intro c env a w ob K Q hok hz hC h hK
   cases c<;>simp only [okC,Bool.false_eq_true] at hok
   exact wp_ret (hK .ret env a.tmps w ob hC h)
 | exit id=>
   intro c env a w ob K Q hok hz hC h hK
   cases c<;>simp only [okC,Bool.false_eq_true,beq_iff_eq] at hok
   subst hok
   exact wp_exit (hK (.exit _) env a.tmps w ob hC h)
 | reg live l=>
   intro c env a w ob K Q hok hz hC h hK
   have hc:∃ id ops,c=.region id ops false∧okOps P n ops 0 l=true:=by
    unfold okC at hok
    split at hok
    ·exact ⟨_,_,rfl,hok⟩
    ·simp at hok
   obtain ⟨id,ops,rfl,hok⟩:=hc
   simp only [exec] at h
   obtain ⟨ob',hC'⟩:=Conc.keep hC live
   have:=ops_sound (Q:=Q) hgood l 0 _ a w ob' hok hz hC' h (fun env' tm' w' ob' hC' hk=>hK .normal env' tm' w' ob' hC' hk)
   rw [Nat.sub_zero] at this
   refine wp_region ?_
   rw [List.range_eq_range']
   exact this
 | draw live l=>
   intro c env a w ob K Q hok hz hC h hK
   have hc:∃ id ops,c=.region id ops true∧okD P n ops l=true:=by
    unfold okC at hok
    split at hok
    ·exact ⟨_,_,rfl,hok⟩
    ·simp at hok
   obtain ⟨id,ops,rfl,hok⟩:=hc
   simp only [exec] at h
   obtain ⟨ob',hC'⟩:=Conc.keep hC live
   exact draws_sound hgood hok hz hC' h (fun env' tm' w' ob' hC' hk=>hK .normal env' tm' w' ob' hC' hk)
 | out live x ih=>
   intro c env a w ob K Q hok hz hC h hK
   simp only [exec] at h
   simp only [okC] at hok
   refine ih c env a w ob _ Q hok hz hC h (fun e env' tm' w' ob' hC' hk=>?_)
   obtain ⟨ob2,hC2⟩:=Conc.keep hC' live
   exact hK e _ tm' w' ob2 hC2 hk
 | seq x y ihx ihy=>
   intro c env a w ob K Q hok hz hC h hK
   cases c<;>simp only [okC,Bool.false_eq_true] at hok
   simp only [Bool.and_eq_true] at hok
   simp only [exec] at h
   simp only [noZC,Bool.and_eq_true] at hz
   refine wp_seq (ihx _ env a w ob _ _ hok.1 (hz.imp id And.left) hC h (fun e env' tm' w' ob' hC' hk=>?_))
   cases e with
   | normal=>
     simp only [seqK] at hk
     exact ihy _ env' {a with tmps:=tm'} w' ob' K Q hok.2 (hz.imp id And.right) hC' hk hK
   | exit id=>exact hK (.exit id) env' tm' w' ob' hC' hk
   | ret=>exact hK .ret env' tm' w' ob' hC' hk
 | cond c' x y ihx ihy=>
   intro c env a w ob K Q hok hz hC h hK
   cases c<;>simp only [okC,Bool.false_eq_true] at hok
   simp only [Bool.and_eq_true] at hok
   simp only [exec,Option.bind_eq_some_iff] at h
   obtain ⟨b,hb,h⟩:=h
   simp only [noZC,Bool.and_eq_true] at hz
   have hv:=bool_rep hC hok.1.1 hb
   cases b with
   | true=>exact wp_cond_true hv (ihx _ env a w ob K Q hok.1.2 (hz.imp id And.left) hC h hK)
   | false=>exact wp_cond_false hv (ihy _ env a w ob K Q hok.2 (hz.imp id And.right) hC h hK)
 | block id x ih=>
   intro c env a w ob K Q hok hz hC h hK
   cases c<;>simp only [okC,Bool.false_eq_true] at hok
   simp only [Bool.and_eq_true,beq_iff_eq] at hok
   obtain ⟨rfl,hok⟩:=hok
   simp only [exec] at h
   refine wp_block (ih _ env a w ob _ _ hok hz hC h (fun e env' tm' w' ob' hC' hk=>?_))
   cases e with
   | normal=>exact hK .normal env' tm' w' ob' hC' hk
   | ret=>exact hK .ret env' tm' w' ob' hC' hk
   | exit j=>
     simp only [blockK] at hk
     simp only [exOf,Exit.inBlock]
     split at hk
     ·rename_i hj _; subst hj; rw [if_pos rfl]; exact hK .normal env' tm' w' ob' hC' hk
     ·rename_i hj _; rw [if_neg hj]; exact hK (.exit j) env' tm' w' ob' hC' hk
 | loop live x ih=>
   intro c env a w ob K Q hok hz hC h hK
   cases c<;>simp only [okC,Bool.false_eq_true] at hok
   rename_i c
   simp only [exec] at h
   obtain ⟨ob',hC'⟩:=Conc.keep hC live
   refine loop_rounds (fun m a' w'=>∃ env ob tm,a'={a with tmps:=tm}∧Conc P B G0 W0 n env tm w' ob∧iter live (fun env K=>exec cl N x env K) K m env=some r) ?_ ?_ N a w ⟨_,ob',a.tmps,rfl,hC',h⟩
   ·rintro a' w' ⟨env,ob,tm,_,_,h⟩
    simp [iter] at h
   ·rintro m a' w' ⟨env,ob,tm,rfl,hC,h⟩
    simp only [iter] at h
    refine ih _ env {a with tmps:=tm} w' ob _ _ hok hz hC h (fun e env' tm' w2 ob' hC' hk=>?_)
    cases e with
    | normal=>
      obtain ⟨ob2,hC2⟩:=Conc.keep hC' live
      exact ⟨_,ob2,tm',rfl,hC2,hk⟩
    | exit id=>exact hK (.exit id) env' tm' w2 ob' hC' hk
    | ret=>exact hK .ret env' tm' w2 ob' hC' hk
inductive Each {α β:Type} (R:α→β→Prop):List α→List β→Prop
 | nil:Each R [] []
 | cons {x:α} {y:β} {xs:List α} {ys:List β}:R x y→Each R xs ys→Each R (x::xs) (y::ys)
theorem run_mapM {α β:Type} {f:α→Sem β} {w:World} {as:Array α} {vs:List β} (h:Each (fun x v=>(f x).run P w=.ok v w) as.toList vs):(as.mapM f).run P w=.ok vs.toArray w:=by
 rw [Array.mapM_eq_mapM_toList]
 have key:∀ {l:List α} {vs:List β},Each (fun x v=>(f x).run P w=.ok v w) l vs→(l.mapM f).run P w=.ok vs w:=by
  intro l vs h
  induction h with
  | nil=>rw [List.mapM_nil]; rfl
  | cons h _ ih=>
    rw [List.mapM_cons]
    simp only [Sem.run_bind,h,Result.andThen_ok,ih]
    rfl
 have:=key h
 rw [←bind_pure_comp]
 simp only [Sem.run_bind,this,Result.andThen_ok]
 rfl
def okRes (P:Program):List ResultVar→List RV→Bool
 | [],[]=>true
 | .tmp t::rs,.t k::vs=>t==k&&okRes P rs vs
 | .cell t ty::rs,.cell k T::vs=>t==k&&tyB P ty T&&okRes P rs vs
 | .tmp t::rs,.p k::vs=>t==k&&okRes P rs vs
 | _,_=>false
theorem pure_whole':∀ {o:Ann},o.pure=true→o.whole=true
 | .no,_=>rfl
 | .pair a b,h=>by
   simp only [Ann.pure,Bool.and_eq_true] at h
   simp only [Ann.whole,Bool.and_eq_true]
   exact ⟨pure_whole' h.1,pure_whole' h.2⟩
 | .hole,h=>by simp [Ann.pure] at h
 | .own ..,h=>by simp [Ann.pure] at h
def runVar (tmps:Array Value):ResultVar→Sem Value
 | .tmp t=>pure (tmps.getD t undef)
 | .cell a t=>do loadVar t (←asAddr (tmps.getD a undef))
theorem distinct_append:∀ (l m:List Nat),distinct (l++m)=true→distinct l=true∧distinct m=true∧∀ x∈l,x∉m
 | [],m,h=>⟨rfl,h,by simp⟩
 | x::l,m,h=>by
   simp only [List.cons_append,distinct,Bool.and_eq_true,Bool.not_eq_true',List.any_append,Bool.or_eq_false_iff] at h
   obtain ⟨⟨h1,h2⟩,h3⟩:=h
   obtain ⟨h4,h5,h6⟩:=distinct_append l m h3
   refine ⟨by simp only [distinct,Bool.and_eq_true,Bool.not_eq_true']; exact ⟨h1,h4⟩,h5,fun y hy=>?_⟩
   rcases List.mem_cons.1 hy with rfl | hy
   ·intro hm
    have:=List.any_eq_false.1 h2 _ hm
    simp at this
   ·exact h6 y hy
theorem run_load_loc {t:TypeId} {T:Ty} (hT:TyR P t T) {env:Env} {tm:Array Value} {w:World} {ob:Nat→OB} {k:Nat} (hC:Conc P B G0 W0 n env tm w ob) {o:Ann} {x:den T} (hk:look env k=.loc T o x):
  ∃ vs c b,(runVar tm (.cell k t)).run P w=.ok (asVal T vs) w∧Flat P T w (Gd B G0 ob) B o x vs c∧ob k=(b,0)::c:=by
 have hr:=hC.rep k
 rw [hk] at hr
 obtain ⟨b,cur,e,ob',h1,h2,h3,h4,h5⟩:=hr
 refine ⟨cur.toList,ob',b,?_,h4,h5⟩
 have:=run_loadT hT w (b:=b) (off:=0) (Flat.len P T h4) (fun j u hj=>by
  rw [Nat.zero_add,cell_of_row w b _ cur e (0,0) h3,←Array.getElem?_toList]; exact hj)
 simp [runVar,h1,asAddr,this]
theorem retL_sound {env:Env} {tm:Array Value} {w:World} {ob:Nat→OB} (hC:Conc P B G0 W0 n env tm w ob):∀ (rvs:List ResultVar) (res:List RV) (es:List E) (ks:List Nat),okRes P rvs res=true→retL env res=some (es,ks)→
  ∃ (vs:List Value) (rob:OB),Each (fun x v=>(runVar tm x).run P w=.ok v w) rvs vs∧(∀ q∈rob,∃ k∈ks,q∈ob k)∧(distinct ks=true→(blocks rob).Nodup)∧
    (∀ G':Nat→Nat→Prop,(∀ b i,b < w.heap.size→Gd B G0 ob b i→G' b i)→(∀ k∈ks,∀ g∈blocks (ob k),B≤g→g∉blocks rob→∀ i,G' g i)→distinct ks=true→TupRep (ERep1 P w G' B #[] []) es vs rob)
 | [],[],es,ks,_,h=>by
   simp only [retL,Option.some.injEq,Prod.mk.injEq] at h
   obtain ⟨rfl,rfl⟩:=h
   exact ⟨[],[],.nil,by simp,fun _=>by simp,fun _ _ _ _=>⟨rfl,rfl⟩⟩
 | [],_::_,_,_,h,_=>by simp [okRes] at h
 | .tmp _::_,[],_,_,h,_=>by simp [okRes] at h
 | .cell _ _::_,[],_,_,h,_=>by simp [okRes] at h
 | rv::rvs,re::res,es,ks,hok,h=>by
   simp only [retL,Option.bind_eq_some_iff,Option.some.injEq,Prod.mk.injEq] at h
   obtain ⟨⟨e1,ks1⟩,h1,⟨es2,ks2⟩,h2,h3,h4⟩:=h
   simp only at h3 h4
   subst h3; subst h4
   have hok2:okRes P rvs res=true:=by
    cases rv<;>cases re<;>simp only [okRes,Bool.and_eq_true,Bool.false_eq_true] at hok
    all_goals exact hok.2
   obtain ⟨vs2,rob2,i1,i2,i3,i4⟩:=retL_sound hC rvs res es2 ks2 hok2 h2
   -- the first
   have first:∃ v b,(runVar tm rv).run P w=.ok v w∧(∀ q∈b,∃ k∈ks1,q∈ob k)∧(blocks b).Nodup∧
     (∀ G':Nat→Nat→Prop,(∀ b i,b < w.heap.size→Gd B G0 ob b i→G' b i)→(∀ k∈ks1,∀ g∈blocks (ob k),B≤g→g∉blocks b→∀ i,G' g i)→ERep1 P w G' B #[] [] e1 v b):=by
    match rv,re,hok,h1 with
    | .tmp t,.t k,hok,h1=>
      simp only [okRes,Bool.and_eq_true,beq_iff_eq] at hok
      obtain ⟨rfl,_⟩:=hok
      have hrun:(runVar tm (.tmp t)).run P w=.ok (tm.getD t undef) w:=rfl
      have hr:=hC.rep t
      simp only [retE] at h1
      split at h1
      ·rename_i T x hl
       simp only [Option.some.injEq,Prod.mk.injEq] at h1
       obtain ⟨rfl,rfl⟩:=h1
       rw [hl] at hr
       obtain ⟨_,vs,k1,k2⟩:=hr
       refine ⟨_,[],hrun,by simp,by simp,fun G' hG _=>⟨rfl,vs,Flat.mono P T (fun b i hb h=>⟨hG b i hb h,rfl⟩) (Later.refl _ _) (by simp) k1,k2⟩⟩
      ·rename_i wr ed T o xs hl
       split at h1
       ·rename_i hp
        simp only [Option.some.injEq,Prod.mk.injEq] at h1
        obtain ⟨rfl,rfl⟩:=h1
        rw [hl] at hr
        refine ⟨_,ob t,hrun,fun q hq=>⟨t,by simp,hq⟩,hC.nodup t,fun G' hG _=>?_⟩
        exact Flat.mono P (.sl T) (o:=.own wr ed o) (fun b i hb h=>⟨hG b i hb h,rfl⟩) (Later.refl _ _) (fun _ _=>rfl) hr
       ·simp at h1
      ·rename_i s p hl
       simp only [Option.bind_eq_some_iff] at h1
       obtain ⟨hh,hhe,h1⟩:=h1
       split at h1
       ·rename_i hp
        simp only [Option.some.injEq,Prod.mk.injEq] at h1
        obtain ⟨rfl,rfl⟩:=h1
        rw [hl] at hr
        obtain ⟨_,hhd,_⟩:=hr
        obtain ⟨cells,b2,k1,k2,k3⟩:=held_row (a:=⟨tm,[]⟩) hC hhe hhd
        obtain ⟨rfl,_⟩:=Elems.pure P (o':=.no) hp rfl k2
        refine ⟨_,obOf (tm.getD t undef) (if hh.wr=true then 0 else hh.xs.length * cellsN hh.T),hrun,fun q hq=>⟨s,by simp,k3 q (by simpa using hq)⟩,obOf_nodup _ _,fun G' hG _=>?_⟩
        have:Flat P (.sl hh.T) w (Gd B G0 ob) B (.own hh.wr hh.e hh.o) hh.xs [tm.getD t undef] (obOf (tm.getD t undef) (if hh.wr=true then 0 else hh.xs.length * cellsN hh.T)):=by
         unfold Flat
         exact ⟨_,cells,[],rfl,k1,k2,by simp⟩
        exact Flat.mono P (.sl hh.T) (o:=.own hh.wr hh.e hh.o) (fun b i hb h=>⟨hG b i hb h,rfl⟩) (Later.refl _ _) (fun _ _=>rfl) this
       ·simp at h1
      ·simp at h1
    | .cell t ty,.cell k T,hok,h1=>
      simp only [okRes,Bool.and_eq_true,beq_iff_eq] at hok
      obtain ⟨⟨rfl,hT⟩,_⟩:=hok
      simp only [retE] at h1
      split at h1
      ·rename_i T' o x hl
       split at h1
       ·rename_i hw
        simp only [Option.bind_eq_some_iff,Option.some.injEq,Prod.mk.injEq] at h1
        obtain ⟨y,hy,rfl,rfl⟩:=h1
        have:=cast?_some hy; cases this
        obtain ⟨vs,c,b,k1,k2,k3⟩:=run_load_loc (tyB_ok hT) hC hl
        refine ⟨_,[],k1,by simp,by simp,fun G' hG hcell=>⟨rfl,vs,?_,rfl⟩⟩
        by_cases hp:o.pure=true
        ·obtain ⟨_,k4⟩:=Flat.pure P T hp (o':=.no) rfl k2
         exact Flat.mono P T (fun b i hb h=>⟨hG b i hb h,rfl⟩) (Later.refl _ _) (by simp) k4
        ·obtain ⟨c2,k4,k5⟩:=Flat.frz P T k2
         refine Flat.shared P T hw (fun b' lim i hb' _ hB=>?_) hG k4
         refine hcell t (by simp [hp]) b' ?_ hB (by simp) i
         rw [k3]; simp only [blocks_cons,List.mem_cons]
         right
         rw [←k5.1]; exact mem_blocks.2 ⟨_,hb'⟩
       ·simp at h1
      ·simp at h1
    | .tmp t,.p k,hok,h1=>
      simp only [okRes,Bool.and_eq_true,beq_iff_eq] at hok
      obtain ⟨rfl,_⟩:=hok
      have hrun:(runVar tm (.tmp t)).run P w=.ok (tm.getD t undef) w:=rfl
      have hr:=hC.rep t
      simp only [retE] at h1
      split at h1
      ·rename_i T x hl
       simp only [Option.some.injEq,Prod.mk.injEq] at h1
       obtain ⟨rfl,rfl⟩:=h1
       rw [hl] at hr
       obtain ⟨_,vs,k1,k2⟩:=hr
       refine ⟨_,[],hrun,by simp,by simp,fun G' hG _=>⟨rfl,vs,Flat.mono P T (fun b i hb h=>⟨hG b i hb h,rfl⟩) (Later.refl _ _) (by simp) k1,k2⟩⟩
      ·rename_i wr ed T o xs hl
       split at h1
       ·rename_i hp
        simp only [Option.some.injEq,Prod.mk.injEq] at h1
        obtain ⟨rfl,rfl⟩:=h1
        rw [hl] at hr
        have hr':Flat P (.sl T) w (Gd B G0 ob) B (.own wr ed o) xs [tm.getD t undef] (ob t):=hr
        refine ⟨_,[],hrun,by simp,by simp,fun G' hG hcell=>⟨rfl,[tm.getD t undef],?_,rfl⟩⟩
        obtain ⟨c2,k4,k5⟩:=Flat.frz P (.sl T) hr'
        refine Flat.shared P (.sl T) (o:=.own wr ed o) (show o.whole=true from pure_whole' hp) (fun b' lim i hb' _ hB=>?_) hG k4
        exact hcell t (by simp) b' (by rw [←k5.1]; exact mem_blocks.2 ⟨_,hb'⟩) hB (by simp) i
       ·simp at h1
      ·rename_i s p hl
       simp only [Option.bind_eq_some_iff] at h1
       obtain ⟨hh,hhe,h1⟩:=h1
       split at h1
       ·rename_i hp
        simp only [Option.some.injEq,Prod.mk.injEq] at h1
        obtain ⟨rfl,rfl⟩:=h1
        rw [hl] at hr
        obtain ⟨_,hhd,_⟩:=hr
        obtain ⟨cells,b2,k1,k2,k3⟩:=held_row (a:=⟨tm,[]⟩) hC hhe hhd
        have this:Flat P (.sl hh.T) w (Gd B G0 ob) B (.own hh.wr hh.e hh.o) hh.xs [tm.getD t undef] (obOf (tm.getD t undef) (if hh.wr=true then 0 else hh.xs.length * cellsN hh.T)++b2):=by
         unfold Flat
         exact ⟨_,cells,b2,rfl,k1,k2,rfl⟩
        refine ⟨_,[],hrun,by simp,by simp,fun G' hG hcell=>⟨rfl,[tm.getD t undef],?_,rfl⟩⟩
        obtain ⟨c2,k4,k5⟩:=Flat.frz P (.sl hh.T) this
        refine Flat.shared P (.sl hh.T) (o:=.own hh.wr hh.e hh.o) (show hh.o.whole=true from pure_whole' hp) (fun b' lim i hb' _ hB=>?_) hG k4
        have hb2:b'∈blocks (obOf (tm.getD t undef) (if hh.wr=true then 0 else hh.xs.length * cellsN hh.T)++b2):=by rw [←k5.1]; exact mem_blocks.2 ⟨_,hb'⟩
        obtain ⟨l,hl'⟩:=mem_blocks.1 hb2
        exact hcell s (by simp) b' (mem_blocks.2 ⟨_,k3 _ hl'⟩) hB (by simp) i
       ·simp at h1
      ·simp at h1
    | .cell _ _,.p _,hok,_=>simp [okRes] at hok
    | .tmp _,.cell _ _,hok,_=>simp [okRes] at hok
    | .cell _ _,.t _,hok,_=>simp [okRes] at hok
   obtain ⟨v,b,j1,j2,j3,j4⟩:=first
   refine ⟨v::vs2,b++rob2,.cons j1 i1,fun q hq=>?_,fun hd=>?_,fun G' hG hc hd=>?_⟩
   ·rcases List.mem_append.1 hq with hq | hq
    ·obtain ⟨k,m1,m2⟩:=j2 q hq; exact ⟨k,List.mem_append_left _ m1,m2⟩
    ·obtain ⟨k,m1,m2⟩:=i2 q hq; exact ⟨k,List.mem_append_right _ m1,m2⟩
   ·obtain ⟨d1,d2,d3⟩:=distinct_append _ _ hd
    rw [blocks_append,List.nodup_append]
    refine ⟨j3,i3 d2,fun x hx y hy hxy=>?_⟩
    subst hxy
    obtain ⟨l1,hx⟩:=mem_blocks.1 hx
    obtain ⟨l2,hy⟩:=mem_blocks.1 hy
    obtain ⟨k,m1,m2⟩:=j2 _ hx
    obtain ⟨k',m3,m4⟩:=i2 _ hy
    have:=hC.dist k k' x (mem_blocks.2 ⟨_,m2⟩) (mem_blocks.2 ⟨_,m4⟩)
    subst this
    exact d3 k m1 m3
   ·obtain ⟨d1,d2,d3⟩:=distinct_append _ _ hd
    refine ⟨v,vs2,b,rob2,rfl,rfl,j4 G' hG (fun k hk g hg hB hgb i=>hc k (List.mem_append_left _ hk) g hg hB ?_ i),i4 G' hG (fun k hk g hg hB hgb i=>hc k (List.mem_append_right _ hk) g hg hB ?_ i) d2⟩
    ·rw [blocks_append,List.mem_append]
     rintro (hx | hx)
     ·exact hgb hx
     ·obtain ⟨l,hx⟩:=mem_blocks.1 hx
      obtain ⟨k',m3,m4⟩:=i2 _ hx
      have:=hC.dist k k' g hg (mem_blocks.2 ⟨_,m4⟩)
      subst this
      exact d3 k hk m3
    ·rw [blocks_append,List.mem_append]
     rintro (hx | hx)
     ·obtain ⟨l,hx⟩:=mem_blocks.1 hx
      obtain ⟨k',m3,m4⟩:=j2 _ hx
      have:=hC.dist k' k g (mem_blocks.2 ⟨_,m4⟩) hg
      subst this
      exact d3 k' m3 hk
     ·exact hgb hx
end
end Go.Fw
/- Soundness, part 24: functions, calls of any depth. -/
namespace Go.Fw
open Go Go.RowKit
def okF (P:Program) (f:FuncId) (fd:FD):Bool:=
 match P.funcs[f]? with
 | some fn => !(fn.name == "runtime.NumGoroutine") && (match fn.body with | some c => okC P fn.ntmps c fd.body | none => false) && decide (fd.nargs ≤ fn.ntmps) && okRes P fn.results.toList fd.res && (!fd.lend || noZC fd.body)
 | none=>false
theorem look_params:∀ (as:List E) (j k:Nat),look (params j as) k=if j≤k then (as[k - j]?).getD .dead else .dead
 | [],j,k=>by simp [params,look]
 | e::as,j,k=>by
   rw [params,look_cons,look_params as (j+1) k]
   by_cases h:j=k
   ·subst h; simp
   ·rw [if_neg h]
    by_cases h2:j≤k
    ·rw [if_pos h2,if_pos (by omega),show k - j=(k - (j+1))+1 by omega]; simp
    ·rw [if_neg h2,if_neg (by omega)]
def restB (w:World) (lob:OB) (b:Nat):Prop:=b < w.heap.size∧b∉blocks lob
section
variable {P:Program} {t:Tabs}
theorem ArgsRep.get {w:World} {G:Nat→Nat→Prop} {as:List E} {vals:List Value} (h:ArgsRep P w G as vals):as.length=vals.length∧∀ (k:Nat) (e:E),as[k]?=some e→∃ v,vals[k]?=some v∧ARep P w G e v:=by
 induction h with
 | nil=>exact ⟨rfl,fun k e h=>by simp at h⟩
 | @cons e v es vs h1 _ ih=>
   refine ⟨by simp [ih.1],fun k e' h=>?_⟩
   cases k with
   | zero=>simp only [List.getElem?_cons_zero,Option.some.injEq] at h; subst h; exact ⟨v,by simp,h1⟩
   | succ k=>simp only [List.getElem?_cons_succ] at h ⊢; exact ih.2 k e' h
def above (n:Nat) (G:Nat→Nat→Prop) (b i:Nat):Prop:=b < n→G b i
theorem start_conc {w:World} {G:Nat→Nat→Prop} {as:List E} {vals:List Value} (ht:t.ok w) (h:ArgsRep P w G as vals) {m:Nat} (hm:as.length≤m):
  Conc P w.heap.size (above w.heap.size G) ⟨w,fun _=>False,none,fun _ _=>False,t⟩ m (params 0 as) (vals.toArray++Array.replicate (m - vals.toArray.size) undef) w (fun _=> []) where
 rep k:=by
  rw [look_params,if_pos (Nat.zero_le k),Nat.sub_zero]
  cases hk:as[k]? with
  | none=>exact rfl
  | some e=>
    obtain ⟨v,hv,hr⟩:=h.get.2 k e hk
    have hlt:k < vals.length:=(List.getElem?_eq_some_iff.1 hv).1
    have ht:(vals.toArray++Array.replicate (m - vals.toArray.size) undef).getD k undef=v:=by
     rw [Array.getD_eq_getD_getElem?,Array.getElem?_append_left (by simpa using hlt)]
     simp [hv]
    rw [ht]
    have hG:∀ b i,b < w.heap.size→G b i→Gd w.heap.size (above w.heap.size G) (fun _=> []) b i:=fun b i hb hg=>.inl ⟨hb,fun _=>hg⟩
    simp only [Option.getD_some]
    cases e<;>first | exact (hr:False).elim | skip
    ·exact rfl
    ·obtain ⟨vs,h1,h2⟩:=hr
     exact ⟨rfl,vs,Flat.mono P _ (fun b i hb hg=>⟨hG b i hb hg,rfl⟩) (Later.refl _ _) (by simp) h1,h2⟩
    ·obtain ⟨b,off,vs,h1,h2,h3⟩:=hr
     exact ⟨rfl,b,off,vs,h1,Flat.mono P _ (fun b i hb hg=>⟨hG b i hb hg,rfl⟩) (Later.refl _ _) (by simp) h2,fun j u hj=>⟨h3 j u hj,.inl (World.block_lt_of_cell? w _ (h3 j u hj))⟩⟩
 dist:=by simp
 nodup:=by simp
 low:=by simp
 below:=Below.refl _ _
 prot _ _ _ h:=h
 same _ h:=h.elim
 oldx _ h:=h.elim
 free _ _ h _ h2:=by omega
 base:=Nat.le_refl _
 size:=by have:=h.get.1; simp; omega
 pinned _ h:=by cases h
 kept _ _ h:=h.elim
 tab:=⟨ht.le,ht⟩
theorem run_results {fn:Func} {tm:Array Value} {w:World} {vs:List Value} (h:Each (fun x v=>(runVar tm x).run P w=.ok v w) fn.results.toList vs):(results fn tm).run P w=.ok (if h:vs.toArray.size=1 then vs.toArray[0] else .tuple vs.toArray) w:=by
 have e:results fn tm=(do let vs←fn.results.mapM (runVar tm); pure (if h:vs.size=1 then vs[0] else .tuple vs)):=by
  unfold results
  congr 2
 have:=run_mapM h
 rw [e]
 simp only [Sem.run_bind,this,Result.andThen_ok]
 rfl
theorem fn_tail {fn:Func} {fd:FD} (h4:okRes P fn.results.toList fd.res=true) {w w':World} {G:Nat→Nat→Prop} {m:Nat} {env':Env} {tm':Array Value} {ob':Nat→OB} {res:List E} (hC:Conc P w.heap.size (above w.heap.size G) ⟨w,fun _=>False,none,fun _ _=>False,t⟩ m env' tm' w' ob')
  (hk:retR env' fd.res []=some res):∃ v,(results fn tm').run P w'=.ok v w'∧∃ v_1 rob,Ending.returned v=.returned v_1∧Below w.heap.size w w'∧ResRep P w w' G res v_1 rob:=by
 simp only [retR,List.nil_append,Option.bind_eq_some_iff] at hk
 obtain ⟨⟨es,ks⟩,hr,hk⟩:=hk
 split at hk
 case h_2=>simp at hk
 rename_i hdb
 simp only [Option.some.injEq] at hk; subst hk
 simp only [Bool.and_eq_true] at hdb
 obtain ⟨vs,rob,i1,i2,i3,i4⟩:=retL_sound hC fn.results.toList fd.res es ks h4 hr
 refine ⟨_,run_results i1,_,rob,rfl,hC.below,?_⟩
 have hT:=i4 (Gr w.heap.size G rob) (fun b i _ hg=>?_) (fun k _ g _ hB hg i=>.inr ⟨hB,fun lim hl=>absurd (mem_blocks.2 ⟨lim,hl⟩) hg⟩) hdb.1
 ·refine ⟨?_,hdb.2,i3 hdb.1,fun b hb=>?_⟩
  ·match es,hdb.2,hT with
   | [e],hb,hT=>
     obtain ⟨v,r,b1,b2,rfl,rfl,k1,⟨rfl,rfl⟩⟩:=hT
     simp only [List.all_cons,List.all_nil,Bool.and_true] at hb
     have:(if h:([v]:List Value).toArray.size=1 then ([v]:List Value).toArray[0] else .tuple ([v]:List Value).toArray)=v:=by simp
     rw [List.append_nil] at k1
     rw [this,List.append_nil]
     cases e with
     | v T x=>exact k1
     | own wr ed T o xs=>exact k1
     | _=>simp [E.back] at hb
   | [],hb,hT=>
     obtain ⟨rfl,rfl⟩:=hT
     exact ⟨by simp,#[],rfl,rfl,rfl⟩
   | e1::e2::es,hb,hT=>
     have hb':∀ e∈(e1::e2::es),∀ s,leads s e=false:=by
      intro e he s
      have:=List.all_eq_true.1 hb e he
      cases e<;>first | rfl | (exfalso; simp [E.back] at this; done)
     have hl:vs.length≠1:=by
      obtain ⟨v,r,b1,b2,rfl,_,_,k⟩:=hT
      obtain ⟨v',r',_,_,rfl,_,_,_⟩:=k
      simp
     have:(if h:vs.toArray.size=1 then vs.toArray[0] else .tuple vs.toArray)=.tuple vs.toArray:=by
      rw [dif_neg (by simpa using hl)]
     rw [this]
     exact ⟨hb',vs.toArray,rfl,by simpa using hT⟩
  ·obtain ⟨l,hb⟩:=mem_blocks.1 hb
   obtain ⟨k,_,hq⟩:=i2 _ hb
   exact hC.low k b (mem_blocks.2 ⟨_,hq⟩)
 ·rcases hg with hg | ⟨hg1,hg0,hg2⟩
  ·exact .inl ⟨hg.1,hg.2 hg.1⟩
  ·refine .inr ⟨hg1,fun lim hl=>?_⟩
   obtain ⟨k,_,hq⟩:=i2 _ hl
   exact hg2 k lim hq
theorem fn_sound {cl:Cal} (hgood:Good P t cl) (N:Nat) {f:FuncId} {fd:FD} (hok:okF P f fd=true) {as res:List E} (hlen:as.length=fd.nargs) (hnl:fd.lend=false) (h:exec cl N fd.body (params 0 as) (retK fd)=some res) (w:World) (G:Nat→Nat→Prop) (vals:List Value) (ht:t.ok w) (hA:ArgsRep P w G as vals):
  Callable P f∧Calls P f vals.toArray w fun e w'=>∃ v rob,e=.returned v∧Below w.heap.size w w'∧ResRep P w w' G res v rob:=by
 unfold okF at hok
 split at hok
 case h_2=>simp at hok
 rename_i fn hfn
 simp only [Bool.and_eq_true,Bool.not_eq_true',decide_eq_true_eq] at hok
 obtain ⟨⟨⟨⟨h1,h2⟩,h3⟩,h4⟩,_⟩:=hok
 split at h2
 case h_2=>simp at h2
 rename_i c hc
 refine ⟨⟨fn,hfn,h1,by rw [hc]; rfl⟩,calls_of_wp hfn hc ?_⟩
 refine exec_sound hgood N fd.body c _ _ w _ _ _ h2 (.inl rfl) (start_conc ht hA (by omega)) h (fun e env' tm' w' ob' hC hk=>?_)
 have key:retR env' fd.res []=some res→∃ v,(results fn tm').run P w'=.ok v w'∧∃ v_1 rob,Ending.returned v=.returned v_1∧Below w.heap.size w w'∧ResRep P w w' G res v_1 rob:=by
  intro hk; exact fn_tail h4 hC hk
 unfold retK at hk; rw [hnl] at hk
 cases e with
 | exit id=>simp at hk
 | normal=>exact ⟨rfl,key hk⟩
 | ret=>exact ⟨rfl,key hk⟩
theorem start_lent {w:World} {G:Nat→Nat→Prop} {T:Ty} {o:Ann} {x:den T} {v:Value} {lob:OB} {as:List E} {vals:List Value} {m:Nat} (htt:t.ok w) (htb:∀ b∈blocks lob,t.tb≤b) (hn:noFnT T=true) (hL:LRep P w G T o x v lob) (hnd:(blocks lob).Nodup) (hlt:∀ b∈blocks lob,b < w.heap.size)
  (hG:∀ b lim i,(b,lim)∈lob→G b i→i < lim) (h:ArgsRep P w G as vals) (ha:as.all lentArg=true) (hm:as.length+1≤m):
  Conc P t.tb (fun b i=>restB w lob b→G b i) ⟨w,restB w lob,some v,fun b i=>b < w.heap.size∧G b i,t⟩ m (params 0 (.loc T o x::as)) ((v::vals).toArray++Array.replicate (m - (v::vals).toArray.size) undef) w (fun k=>if k=0 then lob else []) where
 rep k:=by
  have hGd:∀ b i,b < w.heap.size→G b i→Gd t.tb (fun b i=>restB w lob b→G b i) (fun k=>if k=0 then lob else []) b i:=fun b i _ hg=>by
   rcases Nat.lt_or_ge b t.tb with hb | hb
   ·exact .inl ⟨hb,fun _=>hg⟩
   refine .inr ⟨hb,fun _=>hg,fun j lim hj=>?_⟩
   by_cases h0:j=0
   ·simp only [h0,if_true] at hj; exact hG b lim i hj hg
   ·simp [h0] at hj
  rw [look_params,if_pos (Nat.zero_le k),Nat.sub_zero]
  cases k with
  | zero=>
    obtain ⟨b,cur,e,ob',h1,h2,h3,h4⟩:=hL
    simp only [List.getElem?_cons_zero,Option.getD_some,if_true]
    have ht:((v::vals).toArray++Array.replicate (m - (v::vals).toArray.size) undef).getD 0 undef=v:=by
     rw [Array.getD_eq_getD_getElem?,Array.getElem?_append_left (by simp)]
     simp
    rw [ht]
    exact ⟨b,cur,e,ob',h1,htb b (by rw [h4]; simp),h2,Flat.mono P T (fun b i hb hg=>⟨hGd b i hb hg,rfl⟩) (Later.refl _ _) (fun _ _=>rfl) (Flat.lift P T hn (fun g hg=>htb g (by rw [h4]; simp [hg])) h3),h4⟩
  | succ k=>
    simp only [List.getElem?_cons_succ,Nat.add_eq_zero_iff,Nat.one_ne_zero,and_false,if_false]
    cases hk:as[k]? with
    | none=>exact rfl
    | some e=>
      obtain ⟨u,hv,hr⟩:=h.get.2 k e hk
      have hlt:k < vals.length:=(List.getElem?_eq_some_iff.1 hv).1
      have ht:((v::vals).toArray++Array.replicate (m - (v::vals).toArray.size) undef).getD (k+1) undef=u:=by
       rw [Array.getD_eq_getD_getElem?,Array.getElem?_append_left (by simp; omega)]
       simp [hv]
      rw [ht]
      have hae:=List.all_eq_true.1 ha e (List.mem_of_getElem? hk)
      simp only [Option.getD_some]
      cases e<;>simp only [lentArg,Bool.false_eq_true] at hae
      ·exact rfl
      ·obtain ⟨vs,h1,h2⟩:=hr
       exact ⟨rfl,vs,Flat.mono P _ (fun b i hb hg=>⟨hGd b i hb hg,rfl⟩) (Later.refl _ _) (by simp) (Flat.down P _ hae htt.le h1),h2⟩
 dist j k b hj hk:=by
  by_cases h1:j=0<;>by_cases h2:k=0
  ·rw [h1,h2]
  ·simp [h2] at hk
  ·simp [h1] at hj
  ·simp [h1] at hj
 nodup k:=by
  by_cases h1:k=0
  ·simp only [h1,if_true]; exact hnd
  ·simp [h1]
 low k b hb:=by
  by_cases h1:k=0
  ·simp only [h1,if_true] at hb; exact ⟨htb b hb,hlt b hb⟩
  ·simp [h1] at hb
 below:=Below.refl _ _
 prot k b hb hx:=by
  by_cases h1:k=0
  ·simp only [h1,if_true] at hb; exact hx.2 hb
  ·simp [h1] at hb
 same _ _:=rfl
 oldx _ h:=h.1
 free _ _ _ h h2:=absurd h2 h
 base:=htt.le
 size:=by have:=h.get.1; simp; omega
 pinned u hu:=by
  cases hu
  rw [Array.getD_eq_getD_getElem?,Array.getElem?_append_left (by simp)]
  simp
 tab:=⟨Nat.le_refl _,htt⟩
 kept b i hb:=by
  rcases Nat.lt_or_ge b t.tb with hx | hx
  ·exact ⟨hb.1,.inl ⟨hx,fun _=>hb.2⟩,rfl⟩
  refine ⟨hb.1,.inr ⟨hx,fun _=>hb.2,fun j lim hj=>?_⟩,rfl⟩
  by_cases h0:j=0
  ·simp only [h0,if_true] at hj; exact hG b lim i hj hb.2
  ·simp [h0] at hj
theorem retR_some {env:Env} {res:List RV} {ks:List Nat} {l:List E} (h:retR env res ks=some l):∃ qs,retL env res=some (l,qs)∧distinct (ks++qs)=true∧l.all E.back=true:=by
 simp only [retR,Option.bind_eq_some_iff] at h
 obtain ⟨⟨es,qs⟩,hr,hk⟩:=h
 split at hk
 case h_2=>simp at hk
 rename_i hdb
 simp only [Option.some.injEq] at hk; subst hk
 simp only [Bool.and_eq_true] at hdb
 exact ⟨qs,hr,hdb.1,hdb.2⟩
theorem back_down {w':World} {G:Nat→Nat→Prop} {B:Nat}:∀ {es:List E} {vs:List Value} {rob:OB},es.all E.back=true→TupRep (ERep1 P w' G B #[] []) es vs rob→TupRep (ERep1 P w' G 0 #[] []) es vs rob
 | [],_,_,_,h=>h
 | e::es,_,_,hb,h=>by
   obtain ⟨v,r,b1,b2,rfl,rfl,k1,k2⟩:=h
   simp only [List.all_cons,Bool.and_eq_true] at hb
   refine ⟨v,r,b1,b2,rfl,rfl,?_,back_down hb.2 k2⟩
   cases e with
   | v T x=>
     obtain ⟨h0,vs,h1,h2⟩:=k1
     exact ⟨h0,vs,Flat.down P T hb.1 (Nat.zero_le _) h1,h2⟩
   | own wr ed T o xs=>
     simp only [E.back,Bool.and_eq_true] at hb
     exact Flat.down P (.sl T) hb.1.1 (Nat.zero_le _) k1
   | _=>simp [E.back] at hb
theorem res_rep {w':World} {G:Nat→Nat→Prop} {B:Nat} {es:List E} {vs:List Value} {rob:OB} (hb:es.all E.back=true) (hT:TupRep (ERep1 P w' G B #[] []) es vs rob):
  ERep P w' G B #[] [] (resE es) (if h:vs.toArray.size=1 then vs.toArray[0] else .tuple vs.toArray) rob:=by
 match es,hb,hT with
 | [e],hb,hT=>
   obtain ⟨v,r,b1,b2,rfl,rfl,k1,⟨rfl,rfl⟩⟩:=hT
   simp only [List.all_cons,List.all_nil,Bool.and_true] at hb
   have:(if h:([v]:List Value).toArray.size=1 then ([v]:List Value).toArray[0] else .tuple ([v]:List Value).toArray)=v:=by simp
   rw [List.append_nil,this]
   cases e with
   | v T x=>exact k1
   | own wr ed T o xs=>exact k1
   | _=>simp [E.back] at hb
 | [],hb,hT=>
   obtain ⟨rfl,rfl⟩:=hT
   exact ⟨by simp,#[],rfl,rfl,rfl⟩
 | e1::e2::es,hb,hT=>
   have hb':∀ e∈(e1::e2::es),∀ s,leads s e=false:=by
    intro e he s
    have:=List.all_eq_true.1 hb e he
    cases e<;>first | rfl | (exfalso; simp [E.back] at this; done)
   have hl:vs.length≠1:=by
    obtain ⟨v,r,b1,b2,rfl,_,_,k⟩:=hT
    obtain ⟨v',r',_,_,rfl,_,_,_⟩:=k
    simp
   rw [dif_neg (by simpa using hl)]
   exact ⟨hb',vs.toArray,rfl,by simpa using hT⟩
theorem lent_tail {fn:Func} {fd:FD} (h4:okRes P fn.results.toList fd.res=true) {w w':World} {G:Nat→Nat→Prop} {m:Nat} {env':Env} {tm':Array Value} {ob':Nat→OB} {res:List E} {v:Value} {lob:OB}
  (ht:t.ok w) (htb:∀ b∈blocks lob,t.tb≤b) (hC:Conc P t.tb (fun b i=>restB w lob b→G b i) ⟨w,restB w lob,some v,fun b i=>b < w.heap.size∧G b i,t⟩ m env' tm' w' ob') {T:Ty} {o:Ann} {x:den T} (hn:noFnT T=true) (hl:look env' 0=.loc T o x)
  (hk:retR env' fd.res [0]=some res):∃ u,(results fn tm').run P w'=.ok u w'∧∃ rv lob' rob,Ending.returned u=.returned rv∧LentOut P w w' G lob lob' T o x v res rv rob:=by
 obtain ⟨ks,hr,hdis,hback⟩:=retR_some hk
 obtain ⟨vs,rob,i1,i2,i3,i4⟩:=retL_sound hC fn.results.toList fd.res res ks h4 hr
 obtain ⟨_,hdk,h0k⟩:=distinct_append [0] ks hdis
 have h0:0∉ks:=h0k 0 (by simp)
 have hr0:=hC.rep 0
 rw [hl] at hr0
 obtain ⟨b0,cur,e,ob2,k1,_,k3,k4,k5⟩:=hr0
 have hv:v=.pointer (some ⟨b0,0,none⟩):=by rw [←hC.pinned v rfl]; exact k1
 have hmem:∀ b lim,(b,lim)∈ob' 0++rob→∃ k,(b,lim)∈ob' k:=by
  intro b lim h
  rcases List.mem_append.1 h with h | h
  ·exact ⟨0,h⟩
  ·obtain ⟨k,_,hq⟩:=i2 _ h; exact ⟨k,hq⟩
 have hGl:∀ b i,Gd t.tb (fun b i=>restB w lob b→G b i) ob' b i→Gl w G lob (ob' 0++rob) b i:=by
  intro b i h
  rcases h with ⟨h,h1⟩ | ⟨_,h1,h2⟩
  ·have hb:b∉blocks lob:=fun hm=>by have:=htb b hm; omega
   have hs:=Nat.lt_of_lt_of_le h ht.le
   exact .inl ⟨hs,hb,h1 ⟨hs,hb⟩⟩
  ·by_cases hx:restB w lob b
   ·exact .inl ⟨hx.1,hx.2,h1 hx⟩
   ·refine .inr ⟨?_,fun lim hl=>?_⟩
    ·by_cases hb:b∈blocks lob
     ·exact .inr hb
     ·exact .inl (by
       rcases Nat.lt_or_ge b w.heap.size with h | h
       ·exact absurd ⟨h,hb⟩ hx
       ·exact h)
    ·obtain ⟨k,hq⟩:=hmem b lim hl; exact h2 k lim hq
 have hnew:∀ b∈blocks (ob' 0++rob),b < w'.heap.size∧(b∈blocks lob∨w.heap.size≤b):=by
  intro b hb
  obtain ⟨l,hb⟩:=mem_blocks.1 hb
  obtain ⟨k,hq⟩:=hmem b l hb
  have hq':=mem_blocks.2 ⟨_,hq⟩
  refine ⟨(hC.low k b hq').2,?_⟩
  have hx:=hC.prot k b hq'
  by_cases hb:b∈blocks lob
  ·exact .inl hb
  ·right
   rcases Nat.lt_or_ge b w.heap.size with h | h
   ·exact absurd ⟨h,hb⟩ hx
   ·exact h
 have hT:=i4 (Gl w G lob (ob' 0++rob)) (fun b i _ hg=>hGl b i hg) (fun k hk g hg _ hgr i=>by
  have hx:=hC.prot k g hg
  refine .inr ⟨?_,fun lim hl=>?_⟩
  ·by_cases hb:g∈blocks lob
   ·exact .inr hb
   ·left
    rcases Nat.lt_or_ge g w.heap.size with h | h
    ·exact absurd ⟨h,hb⟩ hx
    ·exact h
  ·exfalso
   rcases List.mem_append.1 hl with hl | hl
   ·exact h0 (hC.dist 0 k g (mem_blocks.2 ⟨_,hl⟩) hg▸hk)
   ·exact hgr (mem_blocks.2 ⟨_,hl⟩)) hdk
 refine ⟨_,run_results i1,_,ob' 0,rob,rfl,hC.below.os,hC.below.tape,hC.below.output,hC.below.size,fun b hb hn=>hC.same b ⟨hb,hn⟩,fun b i hb hg=>?_,?_,res_rep hback (back_down hback hT),hback,?_,hnew⟩
 ·obtain ⟨_,h2,h3⟩:=hC.kept b i ⟨hb,hg⟩
  refine ⟨h3,fun lim hl=>?_⟩
  obtain ⟨k,hq⟩:=hmem b lim hl
  rcases h2 with ⟨h2,_⟩ | ⟨_,_,h2⟩
  ·have:=(hC.low k b (mem_blocks.2 ⟨_,hq⟩)).1; omega
  ·exact h2 k lim hq
 ·exact ⟨b0,cur,e,ob2,hv,k3,Flat.mono P T (fun b i _ h=>⟨hGl b i h,rfl⟩) (Later.refl _ _) (fun _ _=>rfl) (Flat.down P T hn (Nat.zero_le _) k4),k5⟩
 ·rw [blocks_append,List.nodup_append]
  refine ⟨hC.nodup 0,i3 hdk,fun a ha b hb hab=>?_⟩
  subst hab
  obtain ⟨l,hb⟩:=mem_blocks.1 hb
  obtain ⟨k,hk,hq⟩:=i2 _ hb
  exact h0 (hC.dist 0 k a ha (mem_blocks.2 ⟨_,hq⟩)▸hk)
theorem fn_lent {cl:Cal} (hgood:Good P t cl) (N:Nat) {f:FuncId} {fd:FD} (hok:okF P f fd=true) {T:Ty} {o:Ann} {x:den T} {as res:List E} (hlen:as.length+1=fd.nargs) (hnl:fd.lend=true) (h:exec cl N fd.body (params 0 (.loc T o x::as)) (retK fd)=some res):
  Callable P f∧
  ∀ (w:World) (G:Nat→Nat→Prop) (v:Value) (vals:List Value) (lob:OB),noFnT T=true→t.ok w→(∀ b∈blocks lob,t.tb≤b)→LRep P w G T o x v lob→(blocks lob).Nodup→(∀ b∈blocks lob,b < w.heap.size)→(∀ b lim i,(b,lim)∈lob→G b i→i < lim)→
    ArgsRep P w G as vals→as.all lentArg=true→
    Calls P f (v::vals).toArray w fun e w'=>∃ (T':Ty) (o':Ann) (x':den T') (rs:List E) (rv:Value) (lob' rob:OB),res=.loc T' o' x'::rs∧e=.returned rv∧LentOut P w w' G lob lob' T' o' x' v rs rv rob:=by
 unfold okF at hok
 split at hok
 case h_2=>simp at hok
 rename_i fn hfn
 simp only [Bool.and_eq_true,Bool.not_eq_true',decide_eq_true_eq] at hok
 obtain ⟨⟨⟨⟨h1,h2⟩,h3⟩,h4⟩,h5⟩:=hok
 split at h2
 case h_2=>simp at h2
 rename_i c hc
 have hz:noZC fd.body=true:=by rw [hnl] at h5; simpa using h5
 -- what comes back has the record in front
 have key:∀ e env',retK fd e env'=some res→e≠.exit 0→∃ (T':Ty) (o':Ann) (x':den T') (rs:List E),res=.loc T' o' x'::rs∧look env' 0=.loc T' o' x'∧retR env' fd.res [0]=some rs∧noFnT T'=true:=by
  intro e env' hk _
  have hk':(match look env' 0 with
   | .loc T o x=>(match noFnT T with | true=>(retR env' fd.res [0]).bind fun l=>some (.loc T o x::l) | false=>none)
   | _=>none)=some res:=by
   unfold retK at hk; rw [hnl] at hk
   cases e with
   | exit id=>simp at hk
   | normal=>exact hk
   | ret=>exact hk
  split at hk'
  ·rename_i T' o' x' hl
   split at hk'
   ·simp only [Option.bind_eq_some_iff,Option.some.injEq] at hk'
    obtain ⟨l,h1,rfl⟩:=hk'
    exact ⟨T',o',x',l,rfl,hl,h1,by assumption⟩
   ·simp at hk'
  ·simp at hk'
 refine ⟨⟨fn,hfn,h1,by rw [hc]; rfl⟩,fun w G v vals lob hn0 ht htb hL hnd hlt hG hA hla=>calls_of_wp hfn hc ?_⟩
 have hsz:=hA.get.1
 refine exec_sound hgood N fd.body c _ _ w _ _ _ h2 (.inr hz) (start_lent ht htb hn0 hL hnd hlt hG hA hla (m:=fn.ntmps) (by omega)) h (fun e env' tm' w' ob' hC hk=>?_)
 have fin:∀ e,retK fd e env'=some res→e≠.exit 0→∃ u,(results fn tm').run P w'=.ok u w'∧∃ (T':Ty) (o':Ann) (x':den T') (rs:List E) (rv:Value) (lob' rob:OB),res=.loc T' o' x'::rs∧Ending.returned u=.returned rv∧LentOut P w w' G lob lob' T' o' x' v rs rv rob:=by
  intro e hk he
  obtain ⟨T',o',x',rs,k1,k2,k3,kn⟩:=key e env' hk he
  obtain ⟨u,k4,rv,lob',rob,k5,k6⟩:=lent_tail h4 ht htb hC kn k2 k3
  exact ⟨u,k4,T',o',x',rs,rv,lob',rob,k1,k5,k6⟩
 cases e with
 | exit id=>unfold retK at hk; simp at hk
 | normal=>exact ⟨rfl,fin _ hk (by simp)⟩
 | ret=>exact ⟨rfl,fin _ hk (by simp)⟩
theorem noLoc {w:World} {G:Nat→Nat→Prop} {as:List E} {vals:List Value} (h:ArgsRep P w G as vals):headLoc as=false:=by
 cases h with
 | nil=>rfl
 | @cons e v es vs h1 _=>cases e<;>first | rfl | exact (h1:False).elim
theorem acall_good {tb:Table} {pr:Prims} (N:Nat) (htb:∀ f fd,pr f=none→tb f=some fd→okF P f fd=true) (hpr:Good P t (.of fun f as=>(pr f).bind fun p=>p as)):∀ D,Good P t (acall tb pr N D)
 | 0=>⟨fun f as res h=>by simp [acall,Cal.of] at h,fun f e T xs res h=>by simp [acall,Cal.of] at h,fun f T o x as res h=>by simp [acall,Cal.of] at h,fun f e T xs A C gf res h=>by simp [acall,Cal.of] at h,fun f t e s x res h=>by simp [acall,Cal.of] at h,fun f t e s res h=>by simp [acall,Cal.of] at h⟩
 | D+1=>⟨fun f as res h w G vals ht hA=>by
   simp only [acall,Cal.of] at h
   split at h
   ·rename_i p hp
    exact hpr.call f as res (by simp only [Cal.of,hp,Option.bind_some]; exact h) w G vals ht hA
   ·rename_i hp
    split at h
    ·simp at h
    ·split at h
     ·rename_i fd hfd
      split at h
      ·rename_i hl _
       split at h
       ·rename_i hd
        rw [noLoc hA] at hd
        exact fn_sound (acall_good N htb hpr D) N (htb f fd hp hfd) hl (by simpa using hd) h w G vals ht hA
       ·simp at h
      ·simp at h
     ·simp at h,fun f e T xs res h=>by
   simp only [acall,Cal.of] at h
   split at h
   ·rename_i p hp
    exact hpr.wr f e T xs res (by simp only [Cal.of,hp,Option.bind_some]; exact h)
   ·simp [headUnd] at h,fun f T o x as res h=>by
   simp only [acall,Cal.of] at h
   split at h
   ·rename_i p hp
    exact hpr.lend f T o x as res (by simp only [Cal.of,hp,Option.bind_some]; exact h)
   ·rename_i hp
    split at h
    ·simp at h
    ·split at h
     ·rename_i fd hfd
      split at h
      ·rename_i hl _
       split at h
       ·rename_i hd
        exact fn_lent (acall_good N htb hpr D) N (htb f fd hp hfd) (by simpa using hl) (by simpa [headLoc] using hd) h
       ·simp at h
      ·simp at h
     ·simp at h,fun f e T xs A C gf res h=>by
   simp only [acall,Cal.of] at h
   split at h
   ·rename_i p hp
    exact hpr.hod f e T xs A C gf res (by simp only [Cal.of,hp,Option.bind_some]; exact h)
   ·simp [headUnd] at h,fun f t e s x res h=>by
   simp only [acall,Cal.of] at h
   split at h
   ·rename_i p hp
    exact hpr.sbw f t e s x res (by simp only [Cal.of,hp,Option.bind_some]; exact h)
   ·simp [headUnd] at h,fun f t e s res h=>by
   simp only [acall,Cal.of] at h
   split at h
   ·rename_i p hp
    exact hpr.sbs f t e s res (by simp only [Cal.of,hp,Option.bind_some]; exact h)
   ·simp [headUnd] at h⟩
theorem recC_good {n:FuncId} {fd:FD} {N:Nat} {base:Cal} (hb:Good P t base) (hok:okF P n fd=true):∀ m,Good P t (recC n fd N base m)
 | 0=>hb
 | m+1=>⟨fun f as res h w G vals ht hA=>by
   simp only [recC,Cal.of] at h
   split at h
   ·rename_i hf _
    subst hf
    split at h
    ·simp at h
    ·split at h
     ·rename_i hl _
      split at h
      ·rename_i hd
       rw [noLoc hA] at hd
       exact fn_sound (recC_good hb hok m) N hok hl (by simpa using hd) h w G vals ht hA
      ·simp at h
     ·simp at h
   ·exact hb.call f as res h w G vals ht hA,fun f e T xs res h=>by
   simp only [recC,Cal.of] at h
   split at h
   ·simp [headUnd] at h
   ·exact hb.wr f e T xs res h,fun f T o x as res h=>by
   simp only [recC,Cal.of] at h
   split at h
   ·rename_i hf _
    subst hf
    split at h
    ·simp at h
    ·split at h
     ·rename_i hl _
      split at h
      ·rename_i hd
       exact fn_lent (recC_good hb hok m) N hok (by simpa using hl) (by simpa [headLoc] using hd) h
      ·simp at h
     ·simp at h
   ·exact hb.lend f T o x as res h,fun f e T xs A C gf res h=>by
   simp only [recC,Cal.of] at h
   split at h
   ·simp [headUnd] at h
   ·exact hb.hod f e T xs A C gf res h,fun f t e s x res h=>by
   simp only [recC,Cal.of] at h
   split at h
   ·simp [headUnd] at h
   ·exact hb.sbw f t e s x res h,fun f t e s res h=>by
   simp only [recC,Cal.of] at h
   split at h
   ·simp [headUnd] at h
   ·exact hb.sbs f t e s res h⟩
end
end Go.Fw
/- The glue: a call that the machine says is true. -/
namespace Go.Fw
open Go Go.RowKit
def isTrue:Option (List E)→Bool
 | some [.v .bool true]=>true
 | _=>false
theorem isTrue_some {x:Option (List E)} (h:isTrue x=true):x=some [.v .bool true]:=by
 unfold isTrue at h
 split at h
 ·rfl
 ·simp at h
theorem call_trueT {P:Program} {t:Tabs} {cl:Cal} {f:FuncId} {es:List E} {vals:List Value} {w:World} {G:Nat→Nat→Prop} (hg:Good P t cl) (ht:t.ok w) (h:isTrue (cl f es)=true) (hA:ArgsRep P w G es vals):
  Calls P f vals.toArray w (fun e w'=>e=.returned (.bool true)∧Below w.heap.size w w'):=by
 refine Calls.mono (hg.call f es _ (isTrue_some h) w G vals ht hA).2 ?_
 rintro e w' ⟨v,rob,rfl,hb,hres⟩
 obtain ⟨rs,rfl,h1⟩:=hres.scal rfl
 have h2:=h1 w' (fun _ _=>True) 0
 unfold Flat at h2
 obtain ⟨rfl,_⟩:=h2
 exact ⟨rfl,hb⟩
theorem call_true {P:Program} {cl:Cal} {f:FuncId} {es:List E} {vals:List Value} {w:World} {G:Nat→Nat→Prop} (hg:Good P Tabs.nil cl) (h:isTrue (cl f es)=true) (hA:ArgsRep P w G es vals):
  Calls P f vals.toArray w (fun e w'=>e=.returned (.bool true)∧Below w.heap.size w w'):=call_trueT hg (Tabs.ok_nil w) h hA
theorem wf_inR {k:IntKind} {m:Int} (h:(Lit.int k m).wf=true):inR k m:=by
 unfold inR; simpa only [Lit.wf,Bool.and_eq_true,decide_eq_true_eq] using h
theorem arg_int {P:Program} {w:World} {G:Nat→Nat→Prop} {k:IntKind} {m:Int} (h:inR k m):ARep P w G (.v (.int k) m) (.int k m):=⟨[.int k m],by unfold Flat; exact ⟨rfl,h,rfl⟩,rfl⟩
theorem arg_bool {P:Program} {w:World} {G:Nat→Nat→Prop} (b:Bool):ARep P w G (.v .bool b) (.bool b):=⟨[.bool b],by unfold Flat; exact ⟨rfl,rfl⟩,rfl⟩
end Go.Fw
/- slices.Clone, at any type of elements: its contract, proved from its body (which asks whether a slice is nil: the machine's values do not say). -/
namespace Go.Fw
open Go Go.RowKit
def cl0:Cal:=.of fun _ _=>none
theorem cl0_good {P:Program} {t:Tabs}:Good P t cl0:=⟨fun f es res h=>by simp [cl0,Cal.of] at h,fun f e T xs res h=>by simp [cl0,Cal.of] at h,fun f T o x as res h=>by simp [cl0,Cal.of] at h,fun f e T xs A C gf res h=>by simp [cl0,Cal.of] at h,fun f t e s x res h=>by simp [cl0,Cal.of] at h,fun f t e s res h=>by simp [cl0,Cal.of] at h⟩
def cloA (e:TypeId) (T:Ty):AC:=.reg [0] [{dst:=some 2,op:=.asg (.nil e T)}]
def cloIf (e:TypeId) (T:Ty):AC:=.cond (.t 4) (.seq (.reg [] [{dst:=some 2,op:=.asg (.nil e T)}]) .ret) .skip
def cloR' (e:TypeId) (T:Ty) (lim:Nat):AC:=.seq (.reg [0] [{dst:=some 5,op:=.buildSlice e T []},{dst:=some 6,op:=.mv (.t 0)},{dst:=some 7,op:=.append e T lim (.t 5) (.t 6)},{dst:=some 2,op:=.asg (.t 7)}]) .ret
def cloFD:FD:={nargs:=1,body:=.skip,res:=[.t 2]}
def cloK (e:TypeId) (T:Ty) (lim:Nat):KE (List E):=seqK (fun env=>exec cl0 0 (cloR' e T lim) env (retK cloFD)) (retK cloFD)
def cloE (e:TypeId) (T:Ty) (b:Bool) (xs:List (den T)):Env:=[(4,.v .bool b),(3,.v (.sl T) xs),(0,.v (.sl T) xs),(2,.own true e T .no [])]
def cloneOk (P:Program) (f:FuncId) (e:TypeId) (T:Ty) (lim:Nat):Bool:=
 match P.funcs[f]? with
 | some fn => !(fn.name == "runtime.NumGoroutine") && decide (5 ≤ fn.ntmps) && okRes P fn.results.toList [.t 2] && (match fn.body with
   | some (.seq c0 (.seq (.seq (.region _ ops false) cif) cr))=>okC P fn.ntmps c0 (cloA e T)&&okC P fn.ntmps cif (cloIf e T)&&okC P fn.ntmps cr (cloR' e T lim)&&
     (match ops.toList with
      | [o1,o2]=>okAI P fn.ntmps o1 {dst:=some 3,op:=.mv (.t 0)}&&o1.guard.isNone&&o2.guard.isNone&&decide (o2.dst=some 4)&&
       (match o2.op with | .binOp .eql t (.tmp 3) (.const (.slice none 0 0)) _=>slB P t e | _=>false)
      | _=>false)
   | _=>false)
 | none=>false
theorem clone_good {P:Program} {f:FuncId} {e:TypeId} {T:Ty} {lim:Nat} (hok:cloneOk P f e T lim=true)
  (e1:exec cl0 0 (cloIf e T) (cloE e T true []) (cloK e T lim)=some [.own true e T .no []])
  (e2:∀ xs:List (den T),exec cl0 0 (cloIf e T) (cloE e T false xs) (cloK e T lim)=if ([]:List (den T)).length+xs.length≤lim then some [.own true e T .no xs] else none)
  (xs:List (den T)) (hx:xs.length≤lim) (w:World) (G:Nat→Nat→Prop) (vals:List Value) (hA:ArgsRep P w G [.v (.sl T) xs] vals):
  Callable P f∧Calls P f vals.toArray w fun en w'=>∃ v rob,en=.returned v∧Below w.heap.size w w'∧ResRep P w w' G [.own true e T .no xs] v rob:=by
 unfold cloneOk at hok
 split at hok
 case h_2=>simp at hok
 rename_i fn hfn
 simp only [Bool.and_eq_true,Bool.not_eq_true',decide_eq_true_eq] at hok
 obtain ⟨⟨⟨h1,h2⟩,h3⟩,h4⟩:=hok
 split at h4
 case h_2=>simp at h4
 rename_i c0 id1 ops cif cr hc
 simp only [Bool.and_eq_true] at h4
 obtain ⟨⟨⟨k0,k1⟩,k2⟩,k3⟩:=h4
 split at k3
 case h_2=>simp at k3
 rename_i o1 o2 hops
 simp only [Bool.and_eq_true,Option.isNone_iff_eq_none,decide_eq_true_eq] at k3
 obtain ⟨⟨⟨⟨j1,j2⟩,j3⟩,j4⟩,j5⟩:=k3
 split at j5
 case h_2=>simp at j5
 rename_i t yt hop
 have hu:=slB_ok j5
 have hops2:ops=#[o1,o2]:=arr2 hops
 subst hops2
 refine ⟨⟨fn,hfn,h1,by rw [hc]; rfl⟩,calls_of_wp hfn hc ?_⟩
 have hC0:=start_conc (Tabs.ok_nil w) hA (m:=fn.ntmps) (by simp; omega)
 refine wp_seq (exec_sound (R:=Env) (r:=[(2,.own true e T .no []),(0,.v (.sl T) xs)]) cl0_good 0 (cloA e T) c0 _ _ w _ (fun ex env=>match ex with | .normal=>some env | _=>none) _ k0 (.inl rfl) hC0 rfl (fun ex env' tm' w' ob' hC hk=>?_))
 cases ex<;>simp only [Option.some.injEq] at hk<;>first | (exfalso; simp at hk; done) | skip
 subst hk
 refine wp_seq (wp_seq (wp_region ?_))
 show wpOps P #[o1,o2] _ [0,1] _ w'
 have w1:Region.wanted o1 (yielded #[o1,o2] tm')=true:=by simp [Region.wanted,j2]
 simp only [wpOps]
 show (if Region.wanted o1 (yielded #[o1,o2] tm')=true then _ else _)
 rw [if_pos w1]
 refine .inl (st_ok (R:=Env) (r:=[(3,.v (.sl T) xs),(2,.own true e T .no []),(0,.v (.sl T) xs)]) (K:=some) cl0_good hC (fun env2 tm2 w2 ob2 hC2 hk2=>?_) j1 (.inl rfl) rfl)
 simp only [Option.some.injEq] at hk2
 subst hk2
 show (if Region.wanted o2 (yielded #[o1,o2] tm2)=true then _ else _)
 rw [if_pos (by simp [Region.wanted,j3])]
 have hr:=hC2.rep 3
 obtain ⟨_,vs,f1,f2⟩:=hr
 unfold Flat at f1
 obtain ⟨_,A,cp,rfl,hle,hmx,hcells⟩:=f1
 have hv:tm2.getD 3 undef=.slice A xs.length cp:=f2
 -- what the comparison says
 have fin:∀ b,b=A.isNone→exec cl0 0 (cloIf e T) (cloE e T b xs) (cloK e T lim)=some [.own true e T .no xs]:=by
  intro b hb
  cases b with
  | true=>
    have hx0:xs=[]:=by
     rcases hcells with h | ⟨b,off,cells,hA',_⟩
     ·exact h
     ·rw [hA'] at hb; simp at hb
    subst hx0; exact e1
  | false=>rw [e2 xs,if_pos (by simpa using hx)]
 have hrun:(execOp ({tmps:=tm2,defers:=[]}:Act).eval o2).run P w2=.ok (.value (.bool A.isNone)) w2:=by
  have ev:({tmps:=tm2,defers:=[]}:Act).eval (.tmp 3)=.slice A xs.length cp:=by
   rw [←hv]; rfl
  have e0:execOp ({tmps:=tm2,defers:=[]}:Act).eval o2=(do pure (.value (←(do eqGuard .eql t (.tmp 3) (.const (.slice none 0 0)) (({tmps:=tm2,defers:=[]}:Act).eval (.tmp 3)) (.slice none 0 0); binOp .eql t (({tmps:=tm2,defers:=[]}:Act).eval (.tmp 3)) (.slice none 0 0)))):Sem Next):=by
   unfold execOp; rw [hop]; rfl
  rw [e0,ev]
  have b0:binOp .eql t (.slice A xs.length cp) (.slice none 0 0)=(do pure (.bool (←Op.equal t (.slice A xs.length cp) (.slice none 0 0))):Sem Value):=rfl
  have g0:(eqGuard .eql t (.tmp 3) (.const (.slice none 0 0)) (.slice A xs.length cp) (.slice none 0 0)).run P w2=.ok () w2:=rfl
  simp only [Sem.run_bind,g0,Result.andThen_ok,b0,run_equal_slice_nil w2 t e A xs.length cp hu,Sem.run_pure]
 refine .inl (wp_value hrun ?_)
 have h4n:∀ k,o2.dst=some k→k < fn.ntmps:=by intro k hk; rw [j4] at hk; have:=Option.some.inj hk; exact this▸h2
 obtain ⟨ob3,hC3⟩:=Conc.putO (e:=.v .bool A.isNone) hC2 (fun k hk=>⟨h4n k hk,.inl rfl⟩) (Grows.refl w2) (v_bool _ _ _) ({tmps:=tm2,defers:=[]}:Act) rfl
 have hC4:∃ ob4,Conc P w.heap.size (above w.heap.size G) ⟨w,fun _=>False,none,fun _ _=>False,Tabs.nil⟩ fn.ntmps (cloE e T A.isNone xs) (({tmps:=tm2,defers:=[]}:Act).put o2.dst (.bool A.isNone)).tmps w2 ob4:=by
  refine Conc.ext hC3 (fun k=>?_)
  rw [j4]
  have hp:putO [(3,.v (.sl T) xs),(2,.own true e T .no []),(0,.v (.sl T) xs)] (some 4) (.v .bool A.isNone)=[(4,.v .bool A.isNone),(3,.v (.sl T) xs),(2,.own true e T .no []),(0,.v (.sl T) xs)]:=rfl
  rw [hp]
  simp only [cloE,look_cons]
  by_cases q4:4=k
  ·subst q4; rfl
  ·by_cases q3:3=k
   ·subst q3; rfl
   ·by_cases q2:2=k
    ·subst q2; rfl
    ·by_cases q0:0=k
     ·subst q0; rfl
     ·simp only [if_neg q4,if_neg q3,if_neg q2,if_neg q0]
 obtain ⟨ob4,hC4⟩:=hC4
 refine exec_sound cl0_good 0 (cloIf e T) cif _ (({tmps:=tm2,defers:=[]}:Act).put o2.dst (.bool A.isNone)) w2 ob4 (cloK e T lim) _ k1 (.inl rfl) hC4 (fin _ rfl) (fun ex env5 tm5 w5 ob5 hC5 hk5=>?_)
 have done:∀ (ex:Ex) (env6:Env) (tm6:Array Value) (w6:World) (ob6:Nat→OB),Conc P w.heap.size (above w.heap.size G) ⟨w,fun _=>False,none,fun _ _=>False,Tabs.nil⟩ fn.ntmps env6 tm6 w6 ob6→retK cloFD ex env6=some [.own true e T .no xs]→bodyPost P fn (fun en w'=>∃ v rob,en=.returned v∧Below w.heap.size w w'∧ResRep P w w' G [.own true e T .no xs] v rob) (exOf ex) {({tmps:=tm2,defers:=[]}:Act).put o2.dst (.bool A.isNone) with tmps:=tm6} w6:=by
  intro ex env6 tm6 w6 ob6 hC6 hk6
  have key:=fn_tail (fn:=fn) (fd:=cloFD) h3 hC6 (res:=[.own true e T .no xs])
  cases ex with
  | exit id=>simp [retK] at hk6
  | normal=>exact ⟨by rw [j4]; rfl,key hk6⟩
  | ret=>exact ⟨by rw [j4]; rfl,key hk6⟩
 cases ex with
 | normal=>
   simp only [cloK,seqK] at hk5
   refine exec_sound cl0_good 0 (cloR' e T lim) cr _ {({tmps:=tm2,defers:=[]}:Act).put o2.dst (.bool A.isNone) with tmps:=tm5} w5 ob5 _ _ k2 (.inl rfl) hC5 hk5 (fun ex6 env6 tm6 w6 ob6 hC6 hk6=>?_)
   exact done ex6 env6 tm6 w6 ob6 hC6 hk6
 | exit id=>
   simp only [cloK,seqK] at hk5
   simp [retK] at hk5
 | ret=>
   simp only [cloK,seqK] at hk5
   exact done .ret env5 tm5 w5 ob5 hC5 hk5
end Go.Fw
/- What follows a code may be put behind its answer. -/
namespace Go.Fw
open Go Go.RowKit
section
variable {cl:Cal} {N:Nat}
theorem step_bindK (i:AI) (env:Env) {R R':Type} (K:Kont R) (h:R→Option R'):(step cl i env K).bind h=step cl i env (fun env=>(K env).bind h):=by
 rw [step_bind cl i env K,step_bind cl i env (fun env=>(K env).bind h),Option.bind_assoc]
theorem brB_bind {R R':Type} (b:Bool) (x y:Option R) (h:R→Option R'):(brB b x y).bind h=brB b (x.bind h) (y.bind h):=by cases b<;>rfl
theorem guardX_bind (g:Option (Nat×Bool)) (env:Env) {R R':Type} (y n:Kont R) (h:R→Option R'):(guardX g env y n).bind h=guardX g env (fun env=>(y env).bind h) (fun env=>(n env).bind h):=by
 cases g with
 | none=>rfl
 | some q=>
   obtain ⟨s,pol⟩:=q
   simp only [guardX]
   split
   ·cases pol<;>exact brB_bind _ _ _ _
   ·rfl
   ·rfl
theorem ops_bind {R R':Type} (K:Kont R) (h:R→Option R'):∀ (l:List AI) (env:Env),(ops cl l env K).bind h=ops cl l env (fun env=>(K env).bind h)
 | [],env=>rfl
 | i::r,env=>by
   simp only [ops]
   rw [guardX_bind]
   congr 1
   ·funext env
    rw [step_bindK]
    congr 1
    funext env
    exact ops_bind K h r env
   ·funext env
    exact ops_bind K h r _
theorem draws_bind {R R':Type} (K:Kont R) (h:R→Option R'):∀ (l:List DI) (env:Env),(draws cl l env K).bind h=draws cl l env (fun env=>(K env).bind h)
 | [],env=>rfl
 | i::r,env=>by
   have yes:∀ env',((wrR cl i.ai.dst i.ai.op).runK (hid i.hide (look env)) fun δ=>match okW i env δ with
     | true=>draws cl r (δ++env') K
     | false=>none).bind h=(wrR cl i.ai.dst i.ai.op).runK (hid i.hide (look env)) fun δ=>match okW i env δ with
     | true=>draws cl r (δ++env') (fun env=>(K env).bind h)
     | false=>none:=by
    intro env'
    rw [Rd.eqn,Rd.eqn,Option.bind_assoc]
    congr 1
    funext δ
    split
    ·exact draws_bind K h r _
    ·rfl
   have nope:∀ env',(match okW i env (one i.ai.dst .und) with
     | true=>draws cl r (one i.ai.dst .und++env') K
     | false=>none).bind h=match okW i env (one i.ai.dst .und) with
     | true=>draws cl r (one i.ai.dst .und++env') (fun env=>(K env).bind h)
     | false=>none:=by
    intro env'
    split
    ·exact draws_bind K h r _
    ·rfl
   simp only [draws]
   split
   ·split
    ·rw [step_bindK]
     congr 1
     funext env
     split
     ·exact draws_bind K h r env
     ·rfl
    ·rfl
   ·split
    ·exact yes env
    ·rename_i s pol _
     split
     ·rw [brB_bind]
      cases pol
      ·simp only [Bool.false_eq_true,if_false]; congr 1
       ·exact nope _
       ·exact yes _
      ·simp only [if_true]; congr 1
       ·exact yes _
       ·exact nope _
     ·exact nope env
     ·rfl
theorem iter_bind {R R':Type} (live:List Nat) (body:{R:Type}→Env→KE R→Option R) (hb:∀ {R R':Type} (env:Env) (K:KE R) (h:R→Option R'),(body env K).bind h=body env (fun e env=>(K e env).bind h)) (K:KE R) (h:R→Option R'):
  ∀ (m:Nat) (env:Env),(iter live (fun env K=>body env K) K m env).bind h=iter live (fun env K=>body env K) (fun e env=>(K e env).bind h) m env
 | 0,env=>rfl
 | m+1,env=>by
   simp only [iter]
   rw [hb]
   congr 1
   funext e env
   cases e with
   | normal=>exact iter_bind live body hb K h m _
   | exit=>rfl
   | ret=>rfl
theorem exec_bind:∀ (c:AC) {R R':Type} (env:Env) (K:KE R) (h:R→Option R'),(exec cl N c env K).bind h=exec cl N c env (fun e env=>(K e env).bind h)
 | .skip,_,_,_,_,_=>rfl
 | .ret,_,_,_,_,_=>rfl
 | .exit _,_,_,_,_,_=>rfl
 | .reg live l,_,_,env,K,h=>ops_bind _ _ _ _
 | .draw live l,_,_,env,K,h=>draws_bind _ _ _ _
 | .seq a b,_,_,env,K,h=>by
   simp only [exec]
   rw [exec_bind a]
   congr 1
   funext e env
   cases e with
   | normal=>exact exec_bind b env K h
   | exit=>rfl
   | ret=>rfl
 | .cond c x y,_,_,env,K,h=>by
   simp only [exec]
   rw [Option.bind_assoc]
   congr 1
   funext q
   rw [brB_bind,exec_bind x,exec_bind y]
 | .block id b,_,_,env,K,h=>by
   simp only [exec]
   rw [exec_bind b]
   congr 1
   funext e env
   cases e with
   | normal=>rfl
   | ret=>rfl
   | exit j=>
     simp only [blockK]
     cases Nat.decEq j id<;>rfl
 | .loop live b,_,_,env,K,h=>iter_bind live (fun env K=>exec cl N b env K) (fun env K h=>exec_bind b env K h) K h N _
 | .out live b,_,_,env,K,h=>by
   simp only [exec]
   exact exec_bind b env _ h
def decO (T:Ty):E→Option (List (den T))
 | .own _ _ T' _ xs=>cast? (.sl T) ⟨.sl T',xs⟩
 | _=>none
theorem fn_of {fd:FD} {env:Env} {B:Type} {ent:B→List E} {dr:List E→Option B} (hd:∀ b,dr (ent b)=some b) (g:{R:Type}→(B→Option R)→Option R)
  (hg:∀ {R:Type} (k:List E→Option R),exec cl N fd.body env (fun e env=>(retK fd e env).bind k)=g (fun b=>k (ent b))):
  exec cl N fd.body env (retK fd)=(g some).bind fun b=>some (ent b):=by
 have h1:exec cl N fd.body env (retK fd)=g (fun b=>some (ent b)):=by
  rw [←hg (k:=some)]
  congr 1
  funext e env
  cases retK fd e env<;>rfl
 have h2:g some=exec cl N fd.body env (fun e env=>(retK fd e env).bind dr):=by
  rw [hg (k:=dr)]
  congr 1
  funext b
  exact (hd b).symm
 have h3:(fun (e:Ex) (env:Env)=>((retK fd e env).bind dr).bind fun b=>some (ent b))=fun e env=>(retK fd e env).bind fun es=>(dr es).bind fun b=>some (ent b):=by
  funext e env
  rw [Option.bind_assoc]
 rw [h1,h2,exec_bind,h3,hg]
 congr 1
 funext b
 rw [hd]; rfl
end
end Go.Fw
/- strings.IndexByte's kernel: what is known of it, as the machine's. -/
namespace Go.Fw
open Go Go.RowKit
theorem indexByte_bounds:∀ (l:List UInt8) (c:UInt8),-1≤Lib.indexByte l c∧Lib.indexByte l c≤(l.length:Int)
 | [],_=>by simp [Lib.indexByte]
 | b::l,c=>by
   have ih:=indexByte_bounds l c
   simp only [Lib.indexByte]
   split
   ·simp
    omega
   ·split
    ·simp
     omega
    ·rename_i h
     simp only [beq_iff_eq] at h
     simp only [List.length_cons]
     omega
theorem idx_good {P:Program} {f:FuncId} (hcall:∀ (s:ByteArray) (c:Int) (w:World),Calls P f #[.string s,.int .u8 c] w fun e w'=>e=.returned (.int .i64 (Lib.indexByte s.data.toList c.toNat.toUInt8))∧w'=w) (hc:Callable P f)
  (s:List UInt8) (c:Int) (w:World) (G:Nat→Nat→Prop) (vals:List Value) (hA:ArgsRep P w G [.v .str s,.v (.int .u8) c] vals):
  Callable P f∧Calls P f vals.toArray w fun en w'=>∃ v rob,en=.returned v∧Below w.heap.size w w'∧ResRep P w w' G [.v (.int .i64) (Lib.indexByte s c.toNat.toUInt8)] v rob:=by
 cases hA with
 | cons h1 hA=>
   cases hA with
   | cons h2 hA=>
     cases hA
     obtain ⟨v1,f1,rfl⟩:=h1
     obtain ⟨v2,f2,rfl⟩:=h2
     unfold Flat at f1 f2
     obtain ⟨rfl,hl,_⟩:=f1
     obtain ⟨rfl,hr,_⟩:=f2
     refine ⟨hc,(hcall ⟨⟨s⟩⟩ c w).mono fun en w' ⟨he,hw⟩=>?_⟩
     subst hw
     refine ⟨_,[],he,Below.refl _ _,⟨?_,rfl,by simp,by simp⟩⟩
     refine ⟨rfl,[.int .i64 (Lib.indexByte s c.toNat.toUInt8)],?_,rfl⟩
     unfold Flat
     have hb:=indexByte_bounds s c.toNat.toUInt8
     refine ⟨rfl,?_,rfl⟩
     unfold maxLen at hl
     constructor
     ·show (-9223372036854775808:Int)≤_; omega
     ·show _≤(9223372036854775807:Int); omega
end Go.Fw
/- Plain facts for loops over lists by a number. -/
namespace Go.Fw
open Go
abbrev BIG:Nat:=4611686018427387904
theorem wrap_id {n:Int} (h: -9223372036854775808≤n∧n≤9223372036854775807):IntKind.i64.wrap n=n:=IntWalk.i64_in n h
section
variable {α:Type} (pre ys:List α) (y d:α)
theorem at_cons:(pre++y::ys).getD (Int.toNat (pre.length:Int)) d=y:=by simp
theorem lt_cons:(decide ((pre.length:Int) < ((pre++y::ys).length:Int)))=true:=by simp; omega
theorem lt_nil:(decide ((pre.length:Int) < ((pre++([]:List α)).length:Int)))=false:=by simp
theorem in_cons:(0≤(pre.length:Int)∧(pre.length:Int) < ((pre++y::ys).length:Int))=True:=by simp; omega
theorem app_cons:pre++y::ys=(pre++[y])++ys:=by simp
theorem wrap_snoc (h:(pre++y::ys).length≤BIG):IntKind.i64.wrap ((pre.length:Int)+1)=((pre++[y]).length:Int):=by
 rw [wrap_id]
 ·simp
 ·simp only [List.length_append,List.length_cons,BIG] at h; omega
theorem len_snoc:((pre++[y]).length:Int)=(pre.length:Int)+1:=by simp
end
def keepN {α:Type} (p:α×Unit→Option Bool):List α→Option (List α)
 | []=>some []
 | x::r=>(p (x,())).bind fun b=>(keepN p r).bind fun l=>some (if b then l else x::l)
end Go.Fw
/- The glue, generic: what a reading of the arguments says in the machine's values. -/
namespace Go.Fw
open Go Go.RowKit
def InR:(T:Ty)→den T→Prop
 | .int k,n=>inR k n
 | .str,s=>s.length≤maxLen
 | .sl T,xs=>xs.length≤maxLen∧∀ x∈xs,InR T x
 | .pair A B,x=>InR A x.1∧InR B x.2
 | .arr n T,xs=>xs.length=n∧∀ x∈xs,InR T x
 | _,_=>True
def argT:Ty→Bool
 | .int _ | .bool | .str | .unit=>true
 | .sl T=>argT T&&!(cellsN T==0)
 | .pair A B=>argT A&&argT B
 | .arr _ T=>argT T
 | _=>false
section
variable {H:Type} {enc:TypeId×Value→H} {P:Program} {w:World} {sp:Nat→Bool} {held:Bool} {B:Nat}
theorem cellsOf_ty {t:TypeId} {T:Ty} {n:Nat} (h:tyOk P n t T=true):P.cellsOf t=cellsN T:=by
 obtain ⟨i,hi,hs⟩:=TyR.size (P:=P) (t:=t) (T:=T) ⟨⟨n,h⟩⟩
 simp [Program.cellsOf,hi,hs]
theorem picks {α:Type} {Q:Nat→α→Prop}:∀ (n:Nat),(∀ i,i < n→∃ q,Q i q)→∃ L:List α,L.length=n∧∀ i q,L[i]?=some q→Q i q
 | 0,_=>⟨[],rfl,by simp⟩
 | n+1,h=>by
   obtain ⟨L,hl,hq⟩:=picks n (fun i hi=>h i (by omega))
   obtain ⟨q,hn⟩:=h n (by omega)
   refine ⟨L++[q],by simp [hl],fun i r hr=>?_⟩
   by_cases hi:i < n
   ·rw [List.getElem?_append_left (by omega)] at hr; exact hq i r hr
   ·have:i < (L++[q]).length:=(List.getElem?_eq_some_iff.1 hr).1
    simp [hl] at this
    have hin:i=n:=by omega
    subst hin
    rw [List.getElem?_append_right (by omega)] at hr
    simp [hl] at hr
    subst hr; exact hn
theorem elems_of {α:Type} {R:α→List Value→OB→Prop}:∀ (L:List (List Value×α)),(∀ q∈L,R q.2 q.1 [])→Elems R (L.map (·.2)) ((L.map (·.1)).flatten) []
 | [],_=>⟨rfl,rfl⟩
 | q::L,h=>⟨q.1,(L.map (·.1)).flatten,[],[],rfl,rfl,h q (by simp),elems_of L (fun r hr=>h r (by simp [hr]))⟩
theorem flat_chunks {α:Type} {c:Nat}:∀ (L:List (List Value×α)) (cs:List Value),(∀ i q,L[i]?=some q→q.1=(cs.drop (i * c)).take c)→cs.length=L.length * c→(L.map (·.1)).flatten=cs
 | [],cs,_,h=>by
   have:cs=[]:=List.eq_nil_of_length_eq_zero (by simpa using h)
   rw [this]; rfl
 | q::L,cs,h,hl=>by
   have h0:=h 0 q rfl
   rw [List.length_cons,Nat.add_mul,Nat.one_mul] at hl
   have ih:=flat_chunks (c:=c) L (cs.drop c) (fun i q' hq=>by
    have:=h (i+1) q' (by simpa using hq)
    rw [this,List.drop_drop,Nat.add_mul,Nat.one_mul,Nat.add_comm c]) (by rw [List.length_drop]; omega)
   rw [List.map_cons,List.flatten_cons,ih,h0]
   simp
theorem flat_get {c:Nat}:∀ (L:List (List Value)),(∀ l∈L,l.length=c)→∀ (j:Nat) (v:Value),L.flatten[j]?=some v→∃ i r l,j=i * c+r∧r < c∧L[i]?=some l∧l[r]?=some v
 | [],_,j,v,h=>by simp at h
 | l::L,hl,j,v,h=>by
   rw [List.flatten_cons] at h
   have hc:=hl l (by simp)
   by_cases hj:j < c
   ·rw [List.getElem?_append_left (by omega)] at h
    exact ⟨0,j,l,by omega,hj,rfl,h⟩
   ·rw [List.getElem?_append_right (by omega),hc] at h
    obtain ⟨i,r,l',h1,h2,h3,h4⟩:=flat_get L (fun l hl'=>hl l (by simp [hl'])) (j - c) v h
    refine ⟨i+1,r,l',?_,h2,by simpa using h3,h4⟩
    rw [Nat.add_mul]; omega
theorem add_add (a:Addr) (i j:Nat) (h:(a.add i).spot=none):((a.add i).add j)=⟨a.block,a.off+i+j,none⟩:=by
 obtain ⟨b,off,s⟩:=a
 unfold Addr.add at h ⊢
 by_cases h1:i=0<;>by_cases h2:j=0<;>simp_all
theorem spot_none {w:World} {a:Addr} {v:Value} (h:w.cell? a=some v):a.spot=none:=by
 unfold World.cell? at h
 split at h
 ·cases hs:a.spot with
  | none=>rfl
  | some s=>simp [hs] at h
 ·simp at h
theorem open_flat:∀ (m:Nat),
  (∀ (t:TypeId) (T:Ty) (fuel:Nat) (cs:List Value) (x:DataW H×List MemPlace),tyOk P m t T=true→argT T=true→DataW.trod enc P w 0 sp held fuel t cs=some x→∃ v,Flat P T w (fun _ _=>True) B .no v cs []∧InR T v)∧
  (∀ (fs:List Field) (T:Ty) (off:Nat) (cs:List Value),fldOk P m fs T off=true→argT T=true→cs.length=off+cellsN T→
   (∀ (i:Nat) (f:Field),fs[i]?=some f→∃ n y,DataW.trod enc P w 0 sp held n f.type ((cs.drop f.offset).take (P.cellsOf f.type))=some y)→∃ v,Flat P T w (fun _ _=>True) B .no v (cs.drop off) []∧InR T v):=by
 intro m
 induction m with
 | zero=>exact ⟨fun t T fuel cs x h=>by simp [tyOk] at h,fun fs T off cs h=>by simp [fldOk] at h⟩
 | succ m ih=>
   obtain ⟨ih1,ih2⟩:=ih
   refine ⟨fun t T fuel cs x h ha hd=>?_,fun fs T off cs h ha hl hd=>?_⟩
   ·have hT:TyR P t T:=⟨⟨m+1,h⟩⟩
    cases T with
    | int k=>
      obtain ⟨n,rfl,_,hw⟩:=DataW.trod_int hT.int hd
      exact ⟨n,by unfold Flat; exact ⟨rfl,wf_inR hw,rfl⟩,wf_inR hw⟩
    | bool=>
      unfold tyOk at h
      simp only [Bool.and_eq_true] at h
      have h2:=h.2
      split at h2<;>first | (simp at h2; done) | skip
      ·rename_i hu
       obtain ⟨b,rfl,_⟩:=DataW.trod_bool hu hd
       exact ⟨b,by unfold Flat; exact ⟨rfl,rfl⟩,trivial⟩
      ·cases m with
       | zero=>simp [fldOk] at h2
       | succ m=>unfold fldOk at h2; split at h2<;>simp at h2
    | str=>
      obtain ⟨s,rfl,_,hw⟩:=DataW.trod_string hT.str hd
      obtain ⟨⟨s⟩⟩:=s
      exact ⟨s,by unfold Flat; exact ⟨rfl,hw,rfl⟩,hw⟩
    | unit=>
      unfold tyOk at h
      simp only [Bool.and_eq_true] at h
      have h2:=h.2
      split at h2<;>first | (simp at h2; done) | skip
      rename_i fs hu
      obtain ⟨xs,n,_,_,hlen,hxl,_⟩:=DataW.trod_struct hu hd
      rw [cellsOf_ty (n:=m+1) (T:=.unit) (by unfold tyOk; simp only [Bool.and_eq_true]; refine ⟨h.1,?_⟩; rw [hu]; exact h2)] at hlen
      have:cs=[]:=List.eq_nil_of_length_eq_zero hlen
      subst this
      exact ⟨(),by unfold Flat; exact ⟨rfl,rfl⟩,trivial⟩
    | pair A C=>
      have hsz:=cellsOf_ty h
      unfold tyOk at h
      simp only [Bool.and_eq_true] at h
      have h2:=h.2
      split at h2<;>first | (simp at h2; done) | skip
      rename_i fs hu
      obtain ⟨xs,n,_,_,hlen,hxl,hf⟩:=DataW.trod_struct hu hd
      have:=ih2 fs.toList (.pair A C) 0 cs h2 ha (by rw [hlen,hsz]; omega) (fun i f hi=>by
       have hi':fs[i]?=some f:=by simpa using hi
       have hlt:i < xs.length:=by rw [hxl]; exact (Array.getElem?_eq_some_iff.1 hi').1
       exact ⟨n,xs[i],by rw [hf i f hi']; exact List.getElem?_eq_getElem hlt⟩)
      simpa using this
    | sl T=>
      simp only [argT,Bool.and_eq_true,Bool.not_eq_true',beq_eq_false_iff_ne] at ha
      obtain ⟨e,hu,_⟩:=hT.slice
      have he:tyOk P m e T=true:=by
       unfold tyOk at h
       simp only [Bool.and_eq_true] at h
       have h2:=h.2
       rw [hu] at h2
       exact h2
      have hc:P.cellsOf e=cellsN T:=cellsOf_ty he
      rcases DataW.trod_slice hu hd with ⟨rfl,_⟩ | ⟨a,len,cap,elems,rest,n,_,rfl,_,hb,hl,hm,hlen,hel,_⟩
      ·refine ⟨[],?_,by simp [InR]⟩
       unfold Flat
       exact ⟨rfl,none,0,rfl,Nat.le_refl _,by simp,.inl rfl⟩
      ·have key:∀ i,i < len→∃ q:List Value×den T,(q.1.length=cellsN T∧(∀ r,r < cellsN T→w.cell? ((a.add (i * cellsN T)).add r)=q.1[r]?))∧Flat P T w (fun _ _=>True) B .no q.2 q.1 []∧InR T q.2:=by
        intro i hi
        have:=hel i hi
        rw [List.getElem?_eq_getElem (by omega)] at this
        obtain ⟨cs',hcs,hy⟩:=Option.bind_eq_some_iff.1 this
        obtain ⟨v,hv1,hv2⟩:=ih1 e T n cs' _ he ha.1 hy
        obtain ⟨_,k1,k2⟩:=World.cells?_some hcs
        rw [hc] at k1 k2
        exact ⟨(cs',v),⟨k1,k2⟩,hv1,hv2⟩
       obtain ⟨L,hL,hq⟩:=picks len key
       refine ⟨L.map (·.2),?_,?_⟩
       ·unfold Flat
        refine ⟨rfl,some a,cap,by simp [hL],by simpa [hL] using hl,hm,?_⟩
        by_cases h0:len=0
        ·left; have:L=[]:=List.eq_nil_of_length_eq_zero (by omega); simp [this]
        ·right
         have hpos:0 < cellsN T:=Nat.pos_of_ne_zero ha.2
         have hcell:∀ i r q,L[i]?=some q→r < cellsN T→∃ v,q.1[r]?=some v∧w.cell? ((a.add (i * cellsN T)).add r)=some v:=by
          intro i r q hi hr
          have:=(hq i q hi).1
          refine ⟨q.1[r]'(by omega),List.getElem?_eq_getElem _,?_⟩
          rw [this.2 r hr]; exact List.getElem?_eq_getElem _
         have hsp:a.spot=none:=by
          obtain ⟨v,_,hv⟩:=hcell 0 0 (L[0]'(by omega)) (List.getElem?_eq_getElem _) hpos
          have:=spot_none hv
          simpa [Addr.add] using this
         obtain ⟨b,off,s⟩:=a
         simp only at hsp
         subst hsp
         refine ⟨b,off,(L.map (·.1)).flatten,rfl,elems_of L (fun q hq'=>?_),fun j v hj=>⟨?_,trivial⟩⟩
         ·obtain ⟨i,hi⟩:=List.getElem?_of_mem hq'
          exact (hq i q hi).2.1
         ·obtain ⟨i,r,l,rfl,hr,hi,hv⟩:=flat_get _ (fun l hl'=>by
           obtain ⟨q,hq',rfl⟩:=List.mem_map.1 hl'
           obtain ⟨i,hi⟩:=List.getElem?_of_mem hq'
           exact (hq i q hi).1.1) j v hj
          rw [List.getElem?_map,Option.map_eq_some_iff] at hi
          obtain ⟨q,hi,rfl⟩:=hi
          obtain ⟨v',hv1,hv2⟩:=hcell i r q hi hr
          rw [hv] at hv1; cases hv1
          rw [WideShapes.add_plain,WideShapes.add_plain,Nat.add_assoc] at hv2
          exact hv2
       ·unfold InR
        refine ⟨by simp [hL]; omega,fun x hx=>?_⟩
        obtain ⟨q,hq',rfl⟩:=List.mem_map.1 hx
        obtain ⟨i,hi⟩:=List.getElem?_of_mem hq'
        exact (hq i q hi).2.2
    | arr n T=>
      have hsz:=cellsOf_ty h
      unfold tyOk at h
      simp only [Bool.and_eq_true] at h
      have h2:=h.2
      split at h2<;>first | (simp at h2; done) | skip
      ·rename_i n' e hu
       simp only [Bool.and_eq_true,beq_iff_eq] at h2
       obtain ⟨rfl,he⟩:=h2
       simp only [argT] at ha
       have hc:P.cellsOf e=cellsN T:=cellsOf_ty he
       obtain ⟨xs,k,_,_,hlen,hxl,hel⟩:=DataW.trod_array hu hd
       have key:∀ i,i < n'→∃ q:List Value×den T,q.1=(cs.drop (i * cellsN T)).take (cellsN T)∧Flat P T w (fun _ _=>True) B .no q.2 q.1 []∧InR T q.2:=by
        intro i hi
        have:=hel i hi
        rw [List.getElem?_eq_getElem (by omega),hc] at this
        obtain ⟨v,hv1,hv2⟩:=ih1 e T k _ _ he ha this
        exact ⟨(_,v),rfl,hv1,hv2⟩
       obtain ⟨L,hL,hq⟩:=picks n' key
       refine ⟨L.map (·.2),?_,?_⟩
       ·unfold Flat
        refine ⟨by simp [hL],?_⟩
        have:=elems_of (R:=Flat P T w (fun _ _=>True) B .no) L (fun q hq'=>by
         obtain ⟨i,hi⟩:=List.getElem?_of_mem hq'
         exact (hq i q hi).2.1)
        rwa [flat_chunks (c:=cellsN T) L cs (fun i q hi=>(hq i q hi).1) (by rw [hlen,hsz,hL]; rfl)] at this
       ·unfold InR
        refine ⟨by simp [hL],fun x hx=>?_⟩
        obtain ⟨q,hq',rfl⟩:=List.mem_map.1 hx
        obtain ⟨i,hi⟩:=List.getElem?_of_mem hq'
        exact (hq i q hi).2.2
      ·cases m with
       | zero=>simp [fldOk] at h2
       | succ m=>unfold fldOk at h2; split at h2<;>simp at h2
    | fn A C=>simp [argT] at ha
   ·cases fs with
    | nil=>
      unfold fldOk at h
      cases T<;>first | (exfalso; simp at h; done) | skip
      refine ⟨(),?_,trivial⟩
      unfold Flat
      exact ⟨by apply List.drop_eq_nil_of_le; simp [cellsN] at hl; omega,rfl⟩
    | cons f fs=>
      unfold fldOk at h
      cases T<;>first | (exfalso; simp at h; done) | skip
      rename_i A C
      simp only [Bool.and_eq_true,beq_iff_eq] at h
      obtain ⟨⟨h1,h2⟩,h3⟩:=h
      simp only [argT,Bool.and_eq_true] at ha
      simp only [cellsN] at hl
      obtain ⟨n,y,hy⟩:=hd 0 f rfl
      obtain ⟨v1,g1,g2⟩:=ih1 f.type A n _ y h2 ha.1 hy
      obtain ⟨v2,g3,g4⟩:=ih2 fs C (off+cellsN A) cs h3 ha.2 (by omega) (fun i f' hi=>hd (i+1) f' (by simpa using hi))
      refine ⟨(v1,v2),?_,g2,g4⟩
      unfold Flat
      refine ⟨_,_,[],[],?_,rfl,g1,g3⟩
      rw [h1,cellsOf_ty h2,←List.drop_drop,List.take_append_drop]
theorem open_arg {r:Reach} {b0:Nat} {t:TypeId} {T:Ty} {v:Value} {d:DataW H} {ps:List MemPlace} (hT:tyB P t T=true) (ha:argT T=true) (hval:Value.okWide P w r b0 t v) (hd:DataW.Trod enc P w 0 sp held t v d ps):
  ∃ x:den T,ARep P w (fun _ _=>True) (.v T x) v∧InR T x:=by
 obtain ⟨fuel,hf⟩:=hd
 obtain ⟨x,h1,h2⟩:=(open_flat (B:=w.heap.size) 64).1 t T fuel _ _ hT ha hf
 refine ⟨x,⟨_,h1,?_⟩,h2⟩
 have hTy:=tyB_ok hT
 obtain ⟨dsc,hu,hag⟩:=hTy.agg
 unfold asVal
 unfold Value.okWide at hval
 by_cases hagg:isAggT T=true
 ·rw [if_pos hagg]
  rw [hagg] at hag
  rw [hu] at hval
  cases dsc<;>simp only [aggD] at hag<;>first | (exfalso; simp at hag; done) | (obtain ⟨cs,rfl,_⟩:=hval; simp [Value.cells])
 ·rw [if_neg hagg]
  have hagg':aggD dsc=false:=by rw [hag]; simpa using hagg
  have hl:v.cells.toList.length=1:=by
   have:=Flat.len P T h1
   rw [this]; cases T<;>simp_all [isAggT,cellsN]
  cases v<;>first | rfl | skip
  rename_i cs
  exfalso
  rw [hu] at hval
  cases dsc<;>simp only [aggD] at hagg'<;>first | (exfalso; simp at hagg'; done) | (simp [Cell.okWide,Cell.ok,hu] at hval; done) | skip
theorem args_stay {W W':World} (hl:laidOutB P=true) (hB:Below W.heap.size W W'):∀ (ts:List TypeId) (vs:List Value) (ds:List (DataW H)) (ps:List MemPlace),(ts.all fun t=>P.readableRec t&&decide (t < P.types.size))=true→
  DataW.TrodAll enc P W 0 (fun _=>true) true ts vs ds ps→DataW.TrodAll enc P W' 0 (fun b=>decide (b < W.heap.size)) true ts vs ds ps
 | [],vs,ds,ps,_,h=>by
   obtain ⟨rfl,rfl,rfl⟩:=ChangeShapes.trodAll_nil h
   exact ChangeShapes.trodAll_mk0
 | t::ts,vs,ds,ps,ht,h=>by
   obtain ⟨v,vs',d,ds',p,q,rfl,rfl,rfl,h1,h2⟩:=ChangeShapes.trodAll_cons h
   simp only [List.all_cons,Bool.and_eq_true,decide_eq_true_eq] at ht
   have lt:∀ x∈p,x.block < W.heap.size:=by
    obtain ⟨n,hn⟩:=h1
    exact DataW.trod_lt n _ _ _ hn
   exact ⟨p,q,WideElems.Trod_stays hl ht.1.1 ht.1.2 h1 (fun x hx=>hB.same (lt x hx)) (fun x hx=>by simpa using lt x hx),args_stay hl hB ts vs' ds' q ht.2 h2,rfl⟩
end
end Go.Fw
/- The glue, generic: how long the arguments' texts are. -/
namespace Go.Fw
open Go Go.RowKit
def InZ (K:Nat):(T:Ty)→den T→Prop
 | .str,s=>s.length≤K
 | .sl T,xs=>∀ x∈xs,InZ K T x
 | .pair A B,x=>InZ K A x.1∧InZ K B x.2
 | .arr _ T,xs=>∀ x∈xs,InZ K T x
 | _,_=>True
section
variable {H:Type} {enc:TypeId×Value→H} {P:Program} {w:World} {sp:Nat→Bool} {held:Bool} {B:Nat}
theorem weights_all {e:TypeId} {K:Nat}:∀ {l:List (DataW H)} {i:Nat} {d:DataW H},l[i]?=some d→(DataW.weightsAll P e l).all (· ≤K)=true→(d.weights P e).all (· ≤K)=true
 | [],i,d,h,_=>by simp at h
 | x::l,0,d,h,hz=>by
   simp only [List.getElem?_cons_zero,Option.some.injEq] at h
   subst h
   simp only [DataW.weightsAll,List.all_append,Bool.and_eq_true] at hz
   exact hz.1
 | x::l,i+1,d,h,hz=>by
   simp only [DataW.weightsAll,List.all_append,Bool.and_eq_true] at hz
   exact weights_all (by simpa using h) hz.2
theorem open_flatZ (K:Nat):∀ (m:Nat),
  (∀ (t:TypeId) (T:Ty) (fuel:Nat) (cs:List Value) (x:DataW H×List MemPlace),tyOk P m t T=true→argT T=true→DataW.trod enc P w 0 sp held fuel t cs=some x→∃ v,Flat P T w (fun _ _=>True) B .no v cs []∧InR T v∧((x.1.weights P t).all (· ≤K)=true→InZ K T v))∧
  (∀ (fs:List Field) (T:Ty) (off:Nat) (cs:List Value) (ds:List (DataW H)),fldOk P m fs T off=true→argT T=true→cs.length=off+cellsN T→
   (∀ (i:Nat) (f:Field),fs[i]?=some f→∃ n y,DataW.trod enc P w 0 sp held n f.type ((cs.drop f.offset).take (P.cellsOf f.type))=some y∧ds[i]?=some y.1)→∃ v,Flat P T w (fun _ _=>True) B .no v (cs.drop off) []∧InR T v∧((DataW.weightsEach P (fs.map (·.type)) ds).all (· ≤K)=true→InZ K T v)):=by
 intro m
 induction m with
 | zero=>exact ⟨fun t T fuel cs x h=>by simp [tyOk] at h,fun fs T off cs ds h=>by simp [fldOk] at h⟩
 | succ m ih=>
   obtain ⟨ih1,ih2⟩:=ih
   refine ⟨fun t T fuel cs x h ha hd=>?_,fun fs T off cs ds h ha hl hd=>?_⟩
   ·have hT:TyR P t T:=⟨⟨m+1,h⟩⟩
    cases T with
    | int k=>
      obtain ⟨n,rfl,_,hw⟩:=DataW.trod_int hT.int hd
      exact ⟨n,by unfold Flat; exact ⟨rfl,wf_inR hw,rfl⟩,wf_inR hw,fun _=>trivial⟩
    | bool=>
      unfold tyOk at h
      simp only [Bool.and_eq_true] at h
      have h2:=h.2
      split at h2<;>first | (simp at h2; done) | skip
      ·rename_i hu
       obtain ⟨b,rfl,_⟩:=DataW.trod_bool hu hd
       exact ⟨b,by unfold Flat; exact ⟨rfl,rfl⟩,trivial,fun _=>trivial⟩
      ·cases m with
       | zero=>simp [fldOk] at h2
       | succ m=>unfold fldOk at h2; split at h2<;>simp at h2
    | str=>
      obtain ⟨s,rfl,hx,hw⟩:=DataW.trod_string hT.str hd
      obtain ⟨⟨s⟩⟩:=s
      refine ⟨s,by unfold Flat; exact ⟨rfl,hw,rfl⟩,hw,fun hz=>?_⟩
      rw [hx] at hz
      simpa [DataW.weights,InZ] using hz
    | unit=>
      unfold tyOk at h
      simp only [Bool.and_eq_true] at h
      have h2:=h.2
      split at h2<;>first | (simp at h2; done) | skip
      rename_i fs hu
      obtain ⟨xs,n,_,_,hlen,hxl,_⟩:=DataW.trod_struct hu hd
      rw [cellsOf_ty (n:=m+1) (T:=.unit) (by unfold tyOk; simp only [Bool.and_eq_true]; refine ⟨h.1,?_⟩; rw [hu]; exact h2)] at hlen
      have:cs=[]:=List.eq_nil_of_length_eq_zero hlen
      subst this
      exact ⟨(),by unfold Flat; exact ⟨rfl,rfl⟩,trivial,fun _=>trivial⟩
    | pair A C=>
      have hsz:=cellsOf_ty h
      unfold tyOk at h
      simp only [Bool.and_eq_true] at h
      have h2:=h.2
      split at h2<;>first | (simp at h2; done) | skip
      rename_i fs hu
      obtain ⟨xs,n,_,hx,hlen,hxl,hf⟩:=DataW.trod_struct hu hd
      obtain ⟨v,g1,g2,g3⟩:=ih2 fs.toList (.pair A C) 0 cs (xs.map (·.1)) h2 ha (by rw [hlen,hsz]; omega) (fun i f hi=>by
       have hi':fs[i]?=some f:=by simpa using hi
       have hlt:i < xs.length:=by rw [hxl]; exact (Array.getElem?_eq_some_iff.1 hi').1
       exact ⟨n,xs[i],by rw [hf i f hi']; exact List.getElem?_eq_getElem hlt,by rw [List.getElem?_map,List.getElem?_eq_getElem hlt]; rfl⟩)
      refine ⟨v,by simpa using g1,g2,fun hz=>g3 ?_⟩
      rw [hx] at hz
      simpa only [DataW.weights,hu] using hz
    | sl T=>
      simp only [argT,Bool.and_eq_true,Bool.not_eq_true',beq_eq_false_iff_ne] at ha
      obtain ⟨e,hu,_⟩:=hT.slice
      have he:tyOk P m e T=true:=by
       unfold tyOk at h
       simp only [Bool.and_eq_true] at h
       have h2:=h.2
       rw [hu] at h2
       exact h2
      have hc:P.cellsOf e=cellsN T:=cellsOf_ty he
      rcases DataW.trod_slice hu hd with ⟨rfl,_⟩ | ⟨a,len,cap,elems,rest,n,_,rfl,hx,hb,hl,hm,hlen,hel,_⟩
      ·refine ⟨[],?_,by simp [InR],fun _=>by simp [InZ]⟩
       unfold Flat
       exact ⟨rfl,none,0,rfl,Nat.le_refl _,by simp,.inl rfl⟩
      ·have key:∀ i,i < len→∃ q:List Value×den T,(q.1.length=cellsN T∧(∀ r,r < cellsN T→w.cell? ((a.add (i * cellsN T)).add r)=q.1[r]?))∧Flat P T w (fun _ _=>True) B .no q.2 q.1 []∧InR T q.2∧∃ y,elems[i]?=some y∧((y.1.weights P e).all (· ≤K)=true→InZ K T q.2):=by
        intro i hi
        have:=hel i hi
        rw [List.getElem?_eq_getElem (by omega)] at this
        obtain ⟨cs',hcs,hy⟩:=Option.bind_eq_some_iff.1 this
        obtain ⟨v,hv1,hv2,hv3⟩:=ih1 e T n cs' _ he ha.1 hy
        obtain ⟨_,k1,k2⟩:=World.cells?_some hcs
        rw [hc] at k1 k2
        exact ⟨(cs',v),⟨k1,k2⟩,hv1,hv2,_,List.getElem?_eq_getElem _,hv3⟩
       obtain ⟨L,hL,hq⟩:=picks len key
       refine ⟨L.map (·.2),?_,?_,fun hz=>?_⟩
       ·unfold Flat
        refine ⟨rfl,some a,cap,by simp [hL],by simpa [hL] using hl,hm,?_⟩
        by_cases h0:len=0
        ·left; have:L=[]:=List.eq_nil_of_length_eq_zero (by omega); simp [this]
        ·right
         have hpos:0 < cellsN T:=Nat.pos_of_ne_zero ha.2
         have hcell:∀ i r q,L[i]?=some q→r < cellsN T→∃ v,q.1[r]?=some v∧w.cell? ((a.add (i * cellsN T)).add r)=some v:=by
          intro i r q hi hr
          have:=(hq i q hi).1
          refine ⟨q.1[r]'(by omega),List.getElem?_eq_getElem _,?_⟩
          rw [this.2 r hr]; exact List.getElem?_eq_getElem _
         have hsp:a.spot=none:=by
          obtain ⟨v,_,hv⟩:=hcell 0 0 (L[0]'(by omega)) (List.getElem?_eq_getElem _) hpos
          have:=spot_none hv
          simpa [Addr.add] using this
         obtain ⟨b,off,s⟩:=a
         simp only at hsp
         subst hsp
         refine ⟨b,off,(L.map (·.1)).flatten,rfl,elems_of L (fun q hq'=>?_),fun j v hj=>⟨?_,trivial⟩⟩
         ·obtain ⟨i,hi⟩:=List.getElem?_of_mem hq'
          exact (hq i q hi).2.1
         ·obtain ⟨i,r,l,rfl,hr,hi,hv⟩:=flat_get _ (fun l hl'=>by
           obtain ⟨q,hq',rfl⟩:=List.mem_map.1 hl'
           obtain ⟨i,hi⟩:=List.getElem?_of_mem hq'
           exact (hq i q hi).1.1) j v hj
          rw [List.getElem?_map,Option.map_eq_some_iff] at hi
          obtain ⟨q,hi,rfl⟩:=hi
          obtain ⟨v',hv1,hv2⟩:=hcell i r q hi hr
          rw [hv] at hv1; cases hv1
          rw [WideShapes.add_plain,WideShapes.add_plain,Nat.add_assoc] at hv2
          exact hv2
       ·unfold InR
        refine ⟨by simp [hL]; omega,fun x hx=>?_⟩
        obtain ⟨q,hq',rfl⟩:=List.mem_map.1 hx
        obtain ⟨i,hi⟩:=List.getElem?_of_mem hq'
        exact (hq i q hi).2.2.1
       ·unfold InZ
        intro x hx2
        obtain ⟨q,hq',rfl⟩:=List.mem_map.1 hx2
        obtain ⟨i,hi⟩:=List.getElem?_of_mem hq'
        obtain ⟨y,hy1,hy2⟩:=(hq i q hi).2.2.2
        apply hy2
        rw [hx] at hz
        simp only [DataW.weights,hu,List.all_cons,List.all_append,Bool.and_eq_true] at hz
        exact weights_all (by rw [List.getElem?_map,hy1]; rfl) hz.2.1
    | arr n T=>
      have hsz:=cellsOf_ty h
      unfold tyOk at h
      simp only [Bool.and_eq_true] at h
      have h2:=h.2
      split at h2<;>first | (simp at h2; done) | skip
      ·rename_i n' e hu
       simp only [Bool.and_eq_true,beq_iff_eq] at h2
       obtain ⟨rfl,he⟩:=h2
       simp only [argT] at ha
       have hc:P.cellsOf e=cellsN T:=cellsOf_ty he
       obtain ⟨xs,k,_,hx,hlen,hxl,hel⟩:=DataW.trod_array hu hd
       have key:∀ i,i < n'→∃ q:List Value×den T,q.1=(cs.drop (i * cellsN T)).take (cellsN T)∧Flat P T w (fun _ _=>True) B .no q.2 q.1 []∧InR T q.2∧∃ y,xs[i]?=some y∧((y.1.weights P e).all (· ≤K)=true→InZ K T q.2):=by
        intro i hi
        have:=hel i hi
        rw [List.getElem?_eq_getElem (by omega),hc] at this
        obtain ⟨v,hv1,hv2,hv3⟩:=ih1 e T k _ _ he ha this
        exact ⟨(_,v),rfl,hv1,hv2,_,List.getElem?_eq_getElem _,hv3⟩
       obtain ⟨L,hL,hq⟩:=picks n' key
       refine ⟨L.map (·.2),?_,?_,fun hz=>?_⟩
       ·unfold Flat
        refine ⟨by simp [hL],?_⟩
        have:=elems_of (R:=Flat P T w (fun _ _=>True) B .no) L (fun q hq'=>by
         obtain ⟨i,hi⟩:=List.getElem?_of_mem hq'
         exact (hq i q hi).2.1)
        rwa [flat_chunks (c:=cellsN T) L cs (fun i q hi=>(hq i q hi).1) (by rw [hlen,hsz,hL]; rfl)] at this
       ·unfold InR
        refine ⟨by simp [hL],fun x hx=>?_⟩
        obtain ⟨q,hq',rfl⟩:=List.mem_map.1 hx
        obtain ⟨i,hi⟩:=List.getElem?_of_mem hq'
        exact (hq i q hi).2.2.1
       ·unfold InZ
        intro x hx2
        obtain ⟨q,hq',rfl⟩:=List.mem_map.1 hx2
        obtain ⟨i,hi⟩:=List.getElem?_of_mem hq'
        obtain ⟨y,hy1,hy2⟩:=(hq i q hi).2.2.2
        apply hy2
        rw [hx] at hz
        simp only [DataW.weights,hu] at hz
        exact weights_all (by rw [List.getElem?_map,hy1]; rfl) hz
      ·cases m with
       | zero=>simp [fldOk] at h2
       | succ m=>unfold fldOk at h2; split at h2<;>simp at h2
    | fn A C=>simp [argT] at ha
   ·cases fs with
    | nil=>
      unfold fldOk at h
      cases T<;>first | (exfalso; simp at h; done) | skip
      refine ⟨(),?_,trivial,fun _=>trivial⟩
      unfold Flat
      exact ⟨by apply List.drop_eq_nil_of_le; simp [cellsN] at hl; omega,rfl⟩
    | cons f fs=>
      unfold fldOk at h
      cases T<;>first | (exfalso; simp at h; done) | skip
      rename_i A C
      simp only [Bool.and_eq_true,beq_iff_eq] at h
      obtain ⟨⟨h1,h2⟩,h3⟩:=h
      simp only [argT,Bool.and_eq_true] at ha
      simp only [cellsN] at hl
      obtain ⟨n,y,hy,hy0⟩:=hd 0 f rfl
      obtain ⟨v1,g1,g2,g5⟩:=ih1 f.type A n _ y h2 ha.1 hy
      obtain ⟨d0,ds',rfl⟩:∃ d0 ds',ds=d0::ds':=by
       cases ds with
       | nil=>simp at hy0
       | cons d r=>exact ⟨d,r,rfl⟩
      simp only [List.getElem?_cons_zero,Option.some.injEq] at hy0
      obtain ⟨v2,g3,g4,g6⟩:=ih2 fs C (off+cellsN A) cs ds' h3 ha.2 (by omega) (fun i f' hi=>by simpa using hd (i+1) f' (by simpa using hi))
      refine ⟨(v1,v2),?_,⟨g2,g4⟩,fun hz=>?_⟩
      ·unfold Flat
       refine ⟨_,_,[],[],?_,rfl,g1,g3⟩
       rw [h1,cellsOf_ty h2,←List.drop_drop,List.take_append_drop]
      ·simp only [List.map_cons,DataW.weightsEach,List.all_append,Bool.and_eq_true] at hz
       exact ⟨g5 (by rw [←hy0]; exact hz.1),g6 hz.2⟩
theorem weight_at {ts:List TypeId} {ds:List (DataW H)} {K:Nat} (h:(DataW.weightsEach P ts ds).all (· ≤K)=true) {j:Nat} {t:TypeId} {d:DataW H} (ht:ts[j]?=some t) (hd:ds[j]?=some d):(d.weights P t).all (· ≤K)=true:=by
 rw [List.all_eq_true] at h ⊢
 intro n hn
 exact h n (DataW.weights_mem_each ht hd n hn)
theorem open_argZ {r:Reach} {b0:Nat} {t:TypeId} {T:Ty} {v:Value} {d:DataW H} {ps:List MemPlace} (hT:tyB P t T=true) (ha:argT T=true) (hval:Value.okWide P w r b0 t v) (hd:DataW.Trod enc P w 0 sp held t v d ps) (hz:(d.weights P t).all (· ≤reachBytes)=true):
  ∃ x:den T,ARep P w (fun _ _=>True) (.v T x) v∧InR T x∧InZ reachBytes T x:=by
 obtain ⟨fuel,hf⟩:=hd
 obtain ⟨x,h1,h2,h3⟩:=(open_flatZ (B:=w.heap.size) reachBytes 64).1 t T fuel _ _ hT ha hf
 refine ⟨x,⟨_,h1,?_⟩,h2,h3 hz⟩
 have hTy:=tyB_ok hT
 obtain ⟨dsc,hu,hag⟩:=hTy.agg
 unfold asVal
 unfold Value.okWide at hval
 by_cases hagg:isAggT T=true
 ·rw [if_pos hagg]
  rw [hagg] at hag
  rw [hu] at hval
  cases dsc<;>simp only [aggD] at hag<;>first | (exfalso; simp at hag; done) | (obtain ⟨cs,rfl,_⟩:=hval; simp [Value.cells])
 ·rw [if_neg hagg]
  have hagg':aggD dsc=false:=by rw [hag]; simpa using hagg
  have hl:v.cells.toList.length=1:=by
   have:=Flat.len P T h1
   rw [this]; cases T<;>simp_all [isAggT,cellsN]
  cases v<;>first | rfl | skip
  rename_i cs
  exfalso
  rw [hu] at hval
  cases dsc<;>simp only [aggD] at hagg'<;>first | (exfalso; simp at hagg'; done) | (simp [Cell.okWide,Cell.ok,hu] at hval; done) | skip
end
end Go.Fw
