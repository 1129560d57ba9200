/- Own work. -/
import Derived.Test.YtooiookccchmeaaGreatFwMc13
import Derived.Test.YtooiookccchmeaaGreatFwB6
import Derived.Test.YtooiookccchmeaaGreatFwB7
set_option linter.unusedVariables false
set_option linter.unusedSimpArgs false
open Bool renaming not_true → dE, not_false → fv, and_eq_true → au, true_or → tS, false_or → nr, or_eq_true → ns, false_eq_true → ep, and_true → gO, eq_iff_iff → qB, true_and → fa, false_and → hN, not_eq_true' → dA, and_false → zW
open Eq renaming trans → dF
open Int renaming toNat → eI, lt_trichotomy → MJ
open List renaming length_pos_iff → Aa, all_eq_true → fj, mem_range → Er, map_nil → qF, map_cons → fU, append_assoc → bK, singleton_append → MR, length_append → b6, length_cons → dY, length_map → nv, length_nil → dd, nil_append → cW, replicate → gn, any_nil → tX, any_cons → nu, length_eq_zero_iff → kG, length → kF, all_cons → dq, all_nil → kD, length_singleton → gD, mem_append → dG, mem_singleton → iR, mem_cons_of_mem → fk, eq_nil_or_concat → tZ, concat_eq_append → tY, all_eq_false → ML, mem_map → dt, mem_cons → cV, getD_eq_getElem?_getD → z8, getElem?_eq_getElem → fb, getElem_mem → MO, append_nil → jk, length_replicate → MQ, length_drop → oH, flatMap_cons → z7, mem_flatMap → Ep, pairwise_cons → Ab, drop_drop → z6, drop_left → Eh, all_append → nt
open List.cons renaming injEq → gC
open Nat renaming zero_add → lf
open Option renaming bind_some → aq
open Prod.mk renaming injEq → eJ
open UInt8 renaming ofNat → kI
namespace Go.Fw.L19
open Go Go.Fw
set_option maxRecDepth 100000
abbrev Yn:Type:=Int×(Int×(List (List UInt8)×Unit))
abbrev Lic:Type:=List UInt8×(List Yn×Unit)
def sm (c:Int):Bool:=decide (c≥97)&&decide (c≤122)
def dg (c:Int):Bool:=decide (c≥48)&&decide (c≤57)
theorem X9 (c:Int):cM 2000 c=some (sm c):=by
 unfold cM sm
 simp only [KC,C8]
 cases decide (c≥97)<;>rfl
theorem My (c:Int):cJ 2000 c=some (sm c):=by
 unfold cJ sm
 simp only [Ks,CY]
 cases decide (c≥97)<;>rfl
theorem auy (c:Int):dw 2000 c=some (dg c):=by
 unfold dw dg
 simp only [KD,C9]
 cases decide (c≥48)<;>rfl
theorem X8 (c:Int):bA 2000 c=some (dg c):=by
 unfold bA dg
 simp only [Kt,CZ]
 cases decide (c≥48)<;>rfl
theorem agd (s:List UInt8) (hs:s.length≤bp) {R:Type} (k:Int→Option R):
  ∀ (m:Nat) (i:Int),0≤i→i≤s.length+1→zq (cM 2000) (dw 2000) k (fun _ i=>k i) m s i=pY (cJ 2000) (bA 2000) (fun _ i=>k i) m s i:=by
 intro m
 induction m with
 | zero=>intro i _ _; rfl
 | succ m ih=>
   intro i h0 h1
   unfold zq pY
   simp only [C4,C1,C2,C3,C5,wb,vw,vr,vt,vu,vx,rS,X9,auy,My,X8,aq]
   by_cases hi:i < (s.length:Int)
   ·have d:decide (i < (s.length:Int))=true:=decide_eq_true hi
    have hb:0≤i∧i < (s.length:Int):=⟨h0,hi⟩
    have w1:IntKind.i64.wrap (i+1)=i+1:=gk (by unfold bp at hs; omega)
    have w2:IntKind.i64.wrap (i+2)=i+2:=gk (by unfold bp at hs; omega)
    simp only [d,aK,if_pos hb,w1,w2]
    generalize hc:((s.getD i.toNat 0).toNat:Int)=c
    cases h3:sm c with
    | true=>simp only [aK]; exact ih (i+1) (by omega) (by omega)
    | false=>
      simp only [aB]
      cases h4:dg c with
      | true=>simp only [aK]; exact ih (i+1) (by omega) (by omega)
      | false=>
        simp only [aB]
        by_cases h5:c=45
        ·have e1:(c==(45:Int))=true:=by simpa using h5
         have e2:(c != (45:Int))=false:=by simp [h5]
         simp only [e1,e2,aK,aB]
         by_cases h6:i+1 < (s.length:Int)
         ·have e3:decide (i+1 < (s.length:Int))=true:=decide_eq_true h6
          have e4:((i+1)==(s.length:Int))=false:=by
           simp only [beq_eq_false_iff_ne,ne_eq]; omega
          have hb2:0≤i+1∧i+1 < (s.length:Int):=by omega
          simp only [e3,e4,aK,aB,if_pos hb2]
          generalize ((s.getD (i+1).toNat 0).toNat:Int)=c2
          cases h7:sm c2 with
          | true=>simp only [aK,dE,aB]; exact ih (i+2) (by omega) (by omega)
          | false=>
            simp only [aB,fv,aK]
            cases h8:dg c2 with
            | true=>simp only [aK,dE,aB]; exact ih (i+2) (by omega) (by omega)
            | false=>simp only [aB,fv,aK]
         ·have e3:decide (i+1 < (s.length:Int))=false:=decide_eq_false h6
          have e4:((i+1)==(s.length:Int))=true:=by
           simp only [beq_iff_eq]; omega
          simp only [e3,e4,aK,aB]
        ·have e1:(c==(45:Int))=false:=by simpa using h5
         have e2:(c != (45:Int))=true:=by simpa using h5
         simp only [e1,e2,aK,aB]
   ·have d:decide (i < (s.length:Int))=false:=decide_eq_false hi
    simp only [d,aB]
theorem age (s:List UInt8) (hs:s.length≤bp):
  ∀ (m:Nat) (i:Int),0≤i→i≤s.length+1→(s.length:Int)+1 - i < m→∃ n,pY (cJ 2000) (bA 2000) (fun _ i=>some i) m s i=some n:=by
 intro m
 induction m with
 | zero=>intro i h0 h1 h2; omega
 | succ m ih=>
   intro i h0 h1 h2
   unfold pY
   simp only [vw,vr,vt,vu,vx,rS,My,X8,aq]
   by_cases hi:i < (s.length:Int)
   ·have d:decide (i < (s.length:Int))=true:=decide_eq_true hi
    have hb:0≤i∧i < (s.length:Int):=⟨h0,hi⟩
    have w1:IntKind.i64.wrap (i+1)=i+1:=gk (by unfold bp at hs; omega)
    have w2:IntKind.i64.wrap (i+2)=i+2:=gk (by unfold bp at hs; omega)
    simp only [d,aK,if_pos hb,w1,w2]
    generalize hc:((s.getD i.toNat 0).toNat:Int)=c
    cases h3:sm c with
    | true=>simp only [aK]; exact ih (i+1) (by omega) (by omega) (by omega)
    | false=>
      simp only [aB]
      cases h4:dg c with
      | true=>simp only [aK]; exact ih (i+1) (by omega) (by omega) (by omega)
      | false=>
        simp only [aB]
        cases e2:(c != (45:Int)) with
        | true=>exact ⟨i,by simp only [aK]⟩
        | false=>
          simp only [aB]
          by_cases h6:i+1 < (s.length:Int)
          ·have e4:((i+1)==(s.length:Int))=false:=by
            simp only [beq_eq_false_iff_ne,ne_eq]; omega
           have hb2:0≤i+1∧i+1 < (s.length:Int):=by omega
           simp only [e4,aB,if_pos hb2]
           generalize ((s.getD (i+1).toNat 0).toNat:Int)=c2
           cases h7:sm c2 with
           | true=>simp only [dE,aB]; exact ih (i+2) (by omega) (by omega) (by omega)
           | false=>
             simp only [fv,aK]
             cases h8:dg c2 with
             | true=>simp only [dE,aB]; exact ih (i+2) (by omega) (by omega) (by omega)
             | false=>exact ⟨i,by simp only [fv,aK]⟩
          ·have e4:((i+1)==(s.length:Int))=true:=by
            simp only [beq_iff_eq]; omega
           exact ⟨i,by simp only [e4,aK]⟩
   ·have d:decide (i < (s.length:Int))=false:=decide_eq_false hi
    exact ⟨i,by simp only [d,aB]⟩
theorem v141 (s:List UInt8) (hs:s.length < 1900):∃ n,hY 2000 s=some n∧hQ 2000 s=some n:=by
 have hb:s.length≤bp:=by unfold bp; omega
 have e1:=agd s hb (R:=Int) some 2000 1 (by omega) (by omega)
 obtain ⟨n,e2⟩:=age s hb 2000 1 (by omega) (by omega) (by omega)
 unfold hY hQ
 simp only [C4,C1,C2,C3,C5,wb,vw,vr,vt,vu,vx,rS,X9,My,aq]
 cases h0:(s==([]:List UInt8)) with
 | true=>exact ⟨0,by simp only [aK],by simp only [aK]⟩
 | false=>
   have hne:s≠[]:=by simpa using h0
   have hp:0 < s.length:=Aa.2 hne
   have hb0:(0:Int)≤0∧(0:Int) < (s.length:Int):=by omega
   simp only [aB,if_pos hb0]
   cases sm ((s.getD (0:Int).toNat 0).toNat:Int) with
   | false=>exact ⟨0,by simp only [fv,aK],by simp only [fv,aK]⟩
   | true=>
     refine ⟨n,?_,?_⟩
     ·simp only [dE,aB]
      rw [e2] at e1; exact e1
     ·simp only [dE,aB]
      exact e2
theorem auq (s:List UInt8):∃ b,fm 2000 s=some b∧fe 2000 s=some b:=by
 unfold fm fe
 simp only [Kn,CV,Lc,Du]
 cases h0:(s != ([]:List UInt8)) with
 | false=>exact ⟨false,by simp only [aB],by simp only [aB]⟩
 | true=>
   simp only [aK]
   by_cases h1:(s.length:Int)≤20
   ·obtain ⟨n,e1,e2⟩:=v141 s (by omega)
    have d:decide ((s.length:Int)≤20)=true:=decide_eq_true h1
    exact ⟨n==(s.length:Int),by simp only [d,aK,e1,aq],by simp only [d,aK,e2,aq]⟩
   ·have d:decide ((s.length:Int)≤20)=false:=decide_eq_false h1
    exact ⟨false,by simp only [d,aB],by simp only [d,aB]⟩
def cY (c:Int):Bool:=match bz 2000 c with | some b=>b | none=>false
theorem afW:((List.range 256).all fun n=>ck 2000 (n:Int)==some (cY (n:Int))&&bz 2000 (n:Int)==some (cY (n:Int)))=true:=by kernel_rfl
theorem Eb (b:UInt8):ck 2000 (b.toNat:Int)=some (cY (b.toNat:Int))∧bz 2000 (b.toNat:Int)=some (cY (b.toNat:Int)):=by
 have:=fj.1 afW b.toNat (Er.2 b.toNat_lt)
 simp only [au,beq_iff_eq] at this
 exact this
def fl (b:UInt8):UInt8:=if 65≤b.toNat∧b.toNat≤90 then kI (b.toNat+32) else b
def fold (s:List UInt8):List UInt8:=s.map fl
theorem Tb (b:UInt8) (h:65≤b.toNat∧b.toNat≤90):IntKind.u8.wrap (IntKind.u8.wrap ((b.toNat:Int) - 65)+97)=((fl b).toNat:Int):=by
 have e:(fl b).toNat=b.toNat+32:=by
  unfold fl; rw [if_pos h]
  simp [UInt8.toNat_ofNat]
  omega
 rw [e]
 have w:∀ n:Int,0≤n→n≤255→IntKind.u8.wrap n=n:=by
  intro n h0 h1
  simp only [IntKind.wrap,IntKind.signed,IntKind.bits]
  simp
  omega
 rw [w ((b.toNat:Int) - 65) (by omega) (by omega),w ((b.toNat:Int) - 65+97) (by omega) (by omega)]
 omega
theorem Nh (s:List UInt8):(s.map fun b=>(b.toNat:Int)).map (fun n=>kI n.toNat)=s:=by
 rw [List.map_map]
 conv=>rhs; rw [←List.map_id s]
 apply List.map_congr_left
 intro b _
 simp
theorem XF {α:Type} (pre ys:List α) (y z:α):(pre++y::ys).set (eI (pre.length:Int)) z=pre++z::ys:=by simp
theorem tu {α:Type} (pre ys:List α) (y:α):(eI (pre.length:Int) < (pre++y::ys).length)=True:=by simp
theorem af4 {R:Type} (k0:List Int→Int→Int→Option R):
  ∀ (ys:List UInt8) (pre:List Int) (m:Nat),ys.length < m→(pre++ys.map fun b=>(b.toNat:Int)).length≤bp→
    tk k0 m (pre++ys.map fun b=>(b.toNat:Int)) ((pre++ys.map fun b=>(b.toNat:Int)).length:Int) (pre.length:Int)=k0 (pre++(fold ys).map fun b=>(b.toNat:Int)) ((pre++ys.map fun b=>(b.toNat:Int)).length:Int) ((pre++ys.map fun b=>(b.toNat:Int)).length:Int):=by
 intro ys
 induction ys with
 | nil=>
   intro pre m hm hb
   cases m with
   | zero=>simp at hm
   | succ m=>
     unfold tk
     simp only [yG,yC,yD,yE,yF,yH,sI,qF,dW,aB]
     simp [fold]
 | cons y ys ih=>
   intro pre m hm hb
   cases m with
   | zero=>simp at hm
   | succ m=>
     rw [fU] at hb ⊢
     unfold tk
     simp only [yG,yC,yD,yE,yF,yH,sI,dJ,cX,cI,if_true,aK,tu,XF,dX pre _ _ hb]
     by_cases h1:65≤y.toNat∧y.toNat≤90
     ·have d1:decide ((y.toNat:Int)≥65)=true:=decide_eq_true (by omega)
      have d2:decide ((y.toNat:Int)≤90)=true:=decide_eq_true (by omega)
      simp only [d1,d2,aK,Tb y h1]
      have:=ih (pre++[((fl y).toNat:Int)]) m (by simpa using hm) (by simpa using hb)
      simp only [bK,MR,b6,dY,nv,dd] at this ⊢
      simp only [fold,fU] at this ⊢
      exact this
     ·have hf:fl y=y:=by unfold fl; rw [if_neg h1]
      have step:=ih (pre++[(y.toNat:Int)]) m (by simpa using hm) (by simpa using hb)
      simp only [bK,MR,b6,dY,nv,dd] at step ⊢
      simp only [fold,fU,hf] at step ⊢
      by_cases h2:65≤y.toNat
      ·have d1:decide ((y.toNat:Int)≥65)=true:=decide_eq_true (by omega)
       have d2:decide ((y.toNat:Int)≤90)=false:=decide_eq_false (by omega)
       simp only [d1,d2,aK,aB]
       exact step
      ·have d1:decide ((y.toNat:Int)≥65)=false:=decide_eq_false (by omega)
       simp only [d1,aB]
       exact step
theorem v72 (s:List UInt8) (hs:s.length < 2000):ez 2000 s=some (fold s):=by
 unfold ez
 have:=af4 (R:=List UInt8) (fun x _ _=>some (x.map fun n=>kI n.toNat)) s [] 2000 hs (by unfold bp; simp; omega)
 simp only [yG,yC,yD,yE,yF,yH,sI]
 simp only [cW,dd,Nh] at this
 exact this
theorem af5 {R:Type} (k0:List UInt8→List Int→Int→Option R):
  ∀ (ys pre:List UInt8) (m:Nat),ys.length < m→(pre++ys).length≤bp→
    sU k0 m (pre++ys) ((fold pre).map (fun b=>(b.toNat:Int))++gn ys.length 0) (pre.length:Int)=k0 (pre++ys) ((fold (pre++ys)).map fun b=>(b.toNat:Int)) ((pre++ys).length:Int):=by
 intro ys
 induction ys with
 | nil=>
   intro pre m hm hb
   cases m with
   | zero=>simp at hm
   | succ m=>
     unfold sU
     simp only [vp,vl,vm,vn,vo,vq,rR,dW,aB]
     simp
 | cons y ys ih=>
   intro pre m hm hb
   cases m with
   | zero=>simp at hm
   | succ m=>
     have hpl:((fold pre).map (fun b=>(b.toNat:Int))).length=pre.length:=by simp [fold]
     have e1:∀ z:Int,(((fold pre).map (fun b=>(b.toNat:Int))++z::gn ys.length 0).length:Int)=((pre++y::ys).length:Int):=by intro z; simp [fold]
     have e2:∀ z z2:Int,((fold pre).map (fun b=>(b.toNat:Int))++z::gn ys.length 0).set (eI (pre.length:Int)) z2=(fold pre).map (fun b=>(b.toNat:Int))++z2::gn ys.length 0:=by
      intro z z2
      have:=XF ((fold pre).map (fun b=>(b.toNat:Int))) (gn ys.length 0) z z2
      rw [hpl] at this; exact this
     have e3:∀ z:Int,(eI (pre.length:Int) < ((fold pre).map (fun b=>(b.toNat:Int))++z::gn ys.length 0).length)=True:=by intro z; simp [fold]
     rw [dY,List.replicate_succ]
     unfold sU
     simp only [vp,vl,vm,vn,vo,vq,rR,e1,e2,e3,dJ,cX,cI,if_true,aK,dX pre _ _ hb]
     have fin:(fold (pre++[y])).map (fun b=>(b.toNat:Int))=(fold pre).map (fun b=>(b.toNat:Int))++[((fl y).toNat:Int)]:=by simp [fold]
     have step:=ih (pre++[y]) m (by simpa using hm) (by simpa using hb)
     rw [fin] at step
     simp only [bK,MR] at step
     by_cases h1:65≤y.toNat∧y.toNat≤90
     ·have d1:decide ((y.toNat:Int)≥65)=true:=decide_eq_true (by omega)
      have d2:decide ((y.toNat:Int)≤90)=true:=decide_eq_true (by omega)
      simp only [d1,d2,aK,Tb y h1]
      exact step
     ·have hf:fl y=y:=by unfold fl; rw [if_neg h1]
      rw [hf] at step
      by_cases h2:65≤y.toNat
      ·have d1:decide ((y.toNat:Int)≥65)=true:=decide_eq_true (by omega)
       have d2:decide ((y.toNat:Int)≤90)=false:=decide_eq_false (by omega)
       simp only [d1,d2,aK,aB]
       exact step
      ·have d1:decide ((y.toNat:Int)≥65)=false:=decide_eq_false (by omega)
       simp only [d1,aB]
       exact step
theorem auo (s:List UInt8) (hs:s.length < 2000):fw 2000 s=some (fold s):=by
 unfold fw
 have:=af5 (R:=List UInt8) (fun _ x _=>some (x.map fun n=>kI n.toNat)) s [] 2000 hs (by unfold bp; simp; omega)
 have hb:0≤(s.length:Int)∧(s.length:Int)≤(s.length:Int)∧(s.length:Int)≤((140737488355328:Nat):Int):=by omega
 simp only [vp,vl,vm,vn,vo,vq,rR,if_pos hb,Int.toNat_natCast]
 simp only [cW,dd,Nh,fold,qF] at this
 exact this
abbrev bO:Type:=Int×(Int×(List UInt8×Unit))
abbrev s0:bO:=((0:Int),((0:Int),([],())))
def gL (s:bO):Bool:=s.1==1 || s.1==2
theorem v87 (s:bO):c6 2000 s=some (gL s):=by
 unfold c6
 simp only [K8,sM,gL]
 cases h:(s.1==(1:Int))<;>simp only [aK,aB,tS,nr]
theorem X7 (s:bO):cB 2000 s=some (gL s):=by
 unfold cB
 simp only [Ki,CU,gL]
 cases h:(s.1==(1:Int))<;>simp only [aK,aB,tS,nr]
def avq (l:List bO):Int:=
 if 0 < l.length∧gL (l.getD (l.length - 1) s0)=true then 1
 else if 1 < l.length∧gL (l.getD (l.length - 2) s0)=true∧(l.getD (l.length - 1) s0).1=5∧(l.getD (l.length - 1) s0).2.2.1=[109] then 2
 else 0
theorem avJ {n k:Nat} (h:k≤n) (hb:n≤bp):IntKind.i64.wrap ((n:Int) - (k:Int))=((n - k:Nat):Int):=by
 rw [gk]
 ·omega
 ·unfold bp at hb; omega
def nb (s:bO):Bool:=s.1 != 9
def jB (p:bO→Bool):List bO→Nat→Int
 | [],_=> -1
 | y::ys,i=>if p y then (i:Int) else jB p ys (i+1)
def avx (l:List bO):Int:=if jB nb l 0 < 0 then (l.length:Int) else jB nb l 0
def uv:List bO→Nat→Int
 | [],_=> -1
 | y::ys,i=>if gL y then (i:Int) else if nb y then -1 else uv ys (i+1)
def avd (l:List bO):Bool:=decide (0≤uv l 0)
theorem S7 (p:bO→Bool):∀ (l:List bO) (i:Nat),jB p l i= -1∨((i:Int)≤jB p l i∧jB p l i < (i:Int)+l.length)
 | [],i=>.inl rfl
 | y::ys,i=>by
   simp only [jB]
   split
   ·right; simp; omega
   ·rcases S7 p ys (i+1) with h | h
    ·exact .inl h
    ·right; simp only [dY]; omega
theorem ahC {s:bO} (h:gL s=true):nb s=true:=by
 unfold gL at h; unfold nb
 simp only [ns,beq_iff_eq] at h
 simp only [bne_iff_ne,ne_eq]
 omega
theorem YS:∀ (l:List bO) (i:Nat),(uv l i=if 0≤jB nb l i∧gL (l.getD (jB nb l i - i).toNat s0)=true then jB nb l i else -1)
 | [],i=>by simp [uv,jB]
 | y::ys,i=>by
   simp only [uv,jB]
   by_cases h1:gL y=true
   ·simp only [h1,ahC h1,if_true]
    have:(0:Int)≤(i:Int):=by omega
    simp [this,h1]
   ·have h1:gL y=false:=by simpa using h1
    simp only [h1,ep,if_false]
    by_cases h2:nb y=true
    ·simp only [h2,if_true]
     simp [h1]
    ·have h2:nb y=false:=by simpa using h2
     simp only [h2,ep,if_false]
     rw [YS ys (i+1)]
     rcases S7 nb ys (i+1) with h | h
     ·rw [h]; simp
     ·have e:(jB nb ys (i+1) - (i:Int)).toNat=(jB nb ys (i+1) - ((i+1:Nat):Int)).toNat+1:=by omega
      rw [e]
      simp only [List.getD_cons_succ]
def jO (c:Int):Bool:=(decide (c≥97)&&decide (c≤122)) || ((decide (c≥48)&&decide (c≤57)) || ((c==95) || ((c==94) || (c==39))))
def fq (s:List UInt8):Bool:=s.any fun b=>!jO (b.toNat:Int)
theorem auA (c:Int):ic 2000 c=some (jO c):=by
 unfold ic jO
 simp only [KI,Dd]
 cases decide (c≥97)<;>cases decide (c≤122)<;>cases decide (c≥48)<;>cases decide (c≤57)<;>cases (c==95)<;>cases (c==94)<;>rfl
theorem auv (c:Int):dB 2000 c=some (jO c):=by
 unfold dB jO
 simp only [Ku,C0]
 cases decide (c≥97)<;>cases decide (c≤122)<;>cases decide (c≥48)<;>cases decide (c≤57)<;>cases (c==95)<;>cases (c==94)<;>rfl
theorem Yi {c:Int} (h:128≤c):jO c=false:=by
 unfold jO
 have h1:decide (c≤122)=false:=decide_eq_false (by omega)
 have h2:decide (c≤57)=false:=decide_eq_false (by omega)
 have h3:(c==95)=false:=by simp; omega
 have h4:(c==94)=false:=by simp; omega
 have h5:(c==39)=false:=by simp; omega
 rw [h1,h2,h3,h4,h5]; simp
theorem v154 (c:Int):ib 2000 c=some (!jO c):=by
 unfold ib
 simp only [KH,Dc,auA,aq]
theorem Y6 (s:ByteArray) (i:Nat) (h:128≤(s.get! (i+0)).toNat):128≤(Utf8.decode s i).1:=by
 unfold Utf8.decode
 simp only [Utf8.runeError]
 rw [if_neg (by omega)]
 repeat' split
 all_goals first | (simp only; omega) | (simp only [ge_iff_le,au,decide_eq_true_eq] at *; omega)
theorem Y8 (s:ByteArray) (i:Nat) (h:(s.get! (i+0)).toNat < 128):Utf8.decode s i=((s.get! (i+0)).toNat,1):=by
 unfold Utf8.decode
 simp only
 rw [if_pos h]
theorem get_at (pre ys:List UInt8) (y:UInt8):(⟨⟨pre++y::ys⟩⟩:ByteArray).get! (pre.length+0)=y:=by
 show (⟨pre++y::ys⟩:Array UInt8)[pre.length+0]! =y
 simp
theorem af7 (f:Int×Unit→Option Bool) (hf:∀ c,f (c,())=some (!jO c)) {R:Type} (k0:Int→Option R) (k2:(Int×Unit→Option Bool)→Bool→List UInt8→Nat→Bool→Option R) (e:Option R) (hk:∀ a b c d g,k2 a b c d g=e):
  ∀ (ys pre:List UInt8) (m:Nat),ys.length < m→
    ∃ j:Int,0≤j∧s4 k0 k2 m f true (pre++ys) pre.length=(if fq ys=true then k0 j else e):=by
 intro ys
 induction ys with
 | nil=>
   intro pre m hm
   cases m with
   | zero=>simp at hm
   | succ m=>
     refine ⟨0,by omega,?_⟩
     have h:decide (pre.length < (pre++([]:List UInt8)).length)=false:=by simp
     unfold s4
     simp only [wL,wM,wN,wO,wP,wQ,r7,h,aB,hk,fq,tX,ep,if_false]
 | cons y ys ih=>
   intro pre m hm
   cases m with
   | zero=>simp at hm
   | succ m=>
     have h:decide (pre.length < (pre++y::ys).length)=true:=by simp
     unfold s4
     simp only [wL,wM,wN,wO,wP,wQ,r7,h,aK,hf,aq]
     by_cases hy:y.toNat < 128
     ·have hd:Utf8.decode ⟨⟨pre++y::ys⟩⟩ pre.length=(y.toNat,1):=by
       have:=Y8 ⟨⟨pre++y::ys⟩⟩ pre.length (by rw [get_at]; exact hy)
       rwa [get_at] at this
      simp only [hd]
      cases hw:jO (y.toNat:Int) with
      | false=>
        refine ⟨(pre.length:Int),by omega,?_⟩
        have:fq (y::ys)=true:=by unfold fq; rw [nu,hw]; rfl
        simp only [fv,beq_self_eq_true,aK,this,if_true]
      | true=>
        obtain ⟨j,hj,h2⟩:=ih (pre++[y]) m (by simpa using hm)
        refine ⟨j,hj,?_⟩
        have e1:fq (y::ys)=fq ys:=by unfold fq; rw [nu,hw]; rfl
        have e2:((!true)==true)=false:=rfl
        have e3:pre.length+1=(pre++[y]).length:=by simp
        simp only [e2,aB]
        rw [e1,←h2,←bg pre ys y,←e3]
     ·have hd:128≤(Utf8.decode ⟨⟨pre++y::ys⟩⟩ pre.length).1:=Y6 _ _ (by rw [get_at]; omega)
      have hw1:jO ((Utf8.decode ⟨⟨pre++y::ys⟩⟩ pre.length).1:Int)=false:=Yi (by omega)
      have hw2:jO (y.toNat:Int)=false:=Yi (by omega)
      have:fq (y::ys)=true:=by unfold fq; rw [nu,hw2]; rfl
      refine ⟨(pre.length:Int),by omega,?_⟩
      simp only [hw1,fv,beq_self_eq_true,aK,this,if_true]
theorem auz (f:Int×Unit→Option Bool) (hf:∀ c,f (c,())=some (!jO c)) (s:List UInt8) (hs:s.length < 2000):ia 2000 s f=some (fq s):=by
 obtain ⟨j,hj,h⟩:=af7 f hf (R:=Int) some (fun _ _ _ _ _=>some (-1)) (some (-1)) (fun _ _ _ _ _=>rfl) s [] 2000 hs
 have h1:ij 2000 s f true=(if fq s=true then some j else some (-1)):=by
  unfold ij
  simp only [wL,wM,wN,wO,wP,wQ,r7]
  simpa using h
 have h2:ig 2000 s f=(if fq s=true then some j else some (-1)):=by
  unfold ig
  simp only [KJ,De,h1]
  split<;>rfl
 unfold ia
 simp only [KG,Db,h2]
 cases fq s with
 | true=>
   have:decide (j≥0)=true:=decide_eq_true hj
   simp only [if_true,aq,this]
 | false=>
   simp only [ep,if_false,aq]
   rfl
def qo (s:bO):Bool:=cond (s.1==1) (decide (s.2.1≥1)&&decide (s.2.1≤3)) (cond (s.1==2) (s.2.1==2) (s.2.1==0))
def oB (s:bO):Int:=cond (decide (s.1 < 1)) 1 (cond (decide (s.1 > 9)) 1 (cond (!qo s) 6 (cond (s.2.2.1==[]) 7 (cond (decide ((s.2.2.1.length:Int) > 8)) 3 (cond (fq s.2.2.1) 2 0)))))
theorem v152 (s:bO):hZ 2000 s=some (qo s):=by
 unfold hZ qo
 simp only [KF,Da]
 cases (s.1==1)<;>cases (s.1==2)<;>cases decide (s.2.1≥1)<;>rfl
theorem au2 (s:bO):dC 2000 s=some (oB s):=by
 unfold dC oB
 simp only [KA,C7,v152,aq]
 cases decide (s.1 < 1) with
 | true=>rfl
 | false=>
   simp only [aB,cond_false]
   cases decide (s.1 > 9) with
   | true=>rfl
   | false=>
     simp only [aB,cond_false]
     cases qo s with
     | false=>rfl
     | true=>
       simp only [dE,aB,cond_false]
       cases (s.2.2.1==[]) with
       | true=>rfl
       | false=>
         simp only [aB,cond_false]
         cases hd:decide ((s.2.2.1.length:Int) > 8) with
         | true=>rfl
         | false=>
           simp only [aB,cond_false]
           have hl:s.2.2.1.length≤8:=by
            have:=of_decide_eq_false hd
            omega
           rw [auz _ (fun c=>by simp only [v154,aq,j0]; rfl) s.2.2.1 (by omega)]
           simp only [aq]
           cases fq s.2.2.1<;>rfl
theorem ahq {R:Type} (k0:Int→Option R) (k1:bO→Int→Option R) (e:Option R) (hk:∀ a b,k1 a b=e) (a b:Int) (u:Unit):
  ∀ (ys pre:List UInt8) (m:Nat),ys.length < m→(pre++ys).length≤bp→
    sW (dB 2000) k0 k1 m (a,b,(pre++ys),u) (pre.length:Int)=(if fq ys=true then k0 2 else e):=by
 intro ys
 induction ys with
 | nil=>
   intro pre m hm hb
   cases m with
   | zero=>simp at hm
   | succ m=>
     unfold sW
     simp only [vJ,vI,vE,vF,vG,vH,vK,rU,dW,aB,hk,fq,tX,ep,if_false]
 | cons y ys ih=>
   intro pre m hm hb
   cases m with
   | zero=>simp at hm
   | succ m=>
     unfold sW
     simp only [vJ,vI,vE,vF,vG,vH,vK,rU,dJ,cX,cI,if_true,aK,auv,aq]
     cases hw:jO (y.toNat:Int) with
     | false=>
       have:fq (y::ys)=true:=by unfold fq; rw [nu,hw]; rfl
       simp only [fv,aK,this,if_true]
     | true=>
       have e1:fq (y::ys)=fq ys:=by unfold fq; rw [nu,hw]; rfl
       simp only [dE,aB,dX pre ys y hb]
       rw [e1,bg pre ys y,ih (pre++[y]) m (by simpa using hm) (by rw [←bg]; exact hb)]
theorem v117 (s:bO):bN 2000 s=some (oB s):=by
 unfold bN oB
 obtain ⟨a,b,t,u⟩:=s
 simp only [vJ,vI,vE,vF,vG,vH,vK,rU]
 cases decide (a < 1) with
 | true=>rfl
 | false=>
   simp only [aB,cond_false]
   cases decide (a > 9) with
   | true=>rfl
   | false=>
     simp only [aB,cond_false]
     have hq:∀ (K:Bool→Option Int),ad (a==1) (ad (decide (b≥1)) (ad (a==2) (K (b==2)) (K (decide (b≤3)))) (ad (a==2) (K (b==2)) (K false))) (ad (a==2) (K (b==2)) (K (b==0)))=K (qo (a,b,t,u)):=by
      intro K
      unfold qo
      by_cases h1:a=1
      ·subst h1
       have e:((1:Int)==2)=false:=rfl
       have e':((1:Int)==1)=true:=rfl
       simp only [e,e',aK,aB,cond_true]
       cases decide (b≥1)<;>rfl
      ·have e:(a==1)=false:=by simpa using h1
       simp only [e,aB,cond_false]
       cases (a==2)<;>rfl
     rw [hq fun q=>ad (!q) _ _]
     cases qo (a,b,t,u) with
     | false=>rfl
     | true=>
       simp only [dE,aB,cond_false]
       cases (t==[]) with
       | true=>rfl
       | false=>
         simp only [aB,cond_false]
         cases hd:decide ((t.length:Int) > 8) with
         | true=>rfl
         | false=>
           simp only [aB,cond_false]
           have hl:t.length≤8:=by
            have:=of_decide_eq_false hd
            omega
           have:=ahq (R:=Int) some (fun _ _=>some 0) (some 0) (fun _ _=>rfl) a b u t [] 2000 (by omega) (by unfold bp; simp; omega)
           simp only [cW,dd,Int.natCast_zero] at this
           rw [this]
           cases fq t<;>rfl
def jN:List bO→Int
 | []=>0
 | s::r=>cond (oB s != 0) (oB s) (jN r)
theorem afY {R:Type} (k0:Bool→Option R) (k1:List bO→Int→Option R) (hk:∀ a b,k1 a b=k0 true):
  ∀ (ys pre:List bO) (m:Nat),ys.length < m→(pre++ys).length≤bp→∃ b,tj k0 k1 m (pre++ys) (pre.length:Int)=k0 b:=by
 intro ys
 induction ys with
 | nil=>
   intro pre m hm hb
   cases m with
   | zero=>simp at hm
   | succ m=>
     refine ⟨true,?_⟩
     unfold tj
     simp only [sF,sB,sC,sD,sE,sG,pI,dW,aB,hk]
 | cons y ys ih=>
   intro pre m hm hb
   cases m with
   | zero=>simp at hm
   | succ m=>
     unfold tj
     simp only [sF,sB,sC,sD,sE,sG,pI,dJ,cX,cI,if_true,aK]
     cases decide ((y.2.2.1.length:Int) > 40) with
     | true=>exact ⟨false,by simp only [aK]⟩
     | false=>
       obtain ⟨b,h⟩:=ih (pre++[y]) m (by simpa using hm) (by rw [←bg]; exact hb)
       refine ⟨b,?_⟩
       simp only [aB,dX pre ys y hb]
       rw [bg pre ys y,h]
abbrev dh:Type:=List UInt8×(List bO×(Int×(Int×Unit)))
abbrev aO:Type:=List UInt8×(List dh×Unit)
abbrev g0:dh:=([],([],((0:Int),((0:Int),()))))
theorem No:∀ s:List UInt8,Op.bytesLess s s=false
 | []=>rfl
 | b::s=>by
   simp only [Op.bytesLess]
   simp [No s]
def mF (a b:bO):Bool:=(a.1==b.1)&&((a.2.1==b.2.1)&&((a.2.2.1==b.2.2.1)&&true))
def fh:List bO→List bO→Bool
 | [],[]=>true
 | x::xs,y::ys=>mF x y&&fh xs ys
 | _,_=>false
theorem amR {a b:bO} (h:mF a b=true):a=b:=by
 obtain ⟨a1,a2,a3,a4⟩:=a; obtain ⟨b1,b2,b3,b4⟩:=b
 simp only [mF,gO,au,beq_iff_eq] at h
 obtain ⟨h1,h2,h3⟩:=h
 subst h1; subst h2; subst h3; rfl
theorem amS (a:bO):mF a a=true:=by simp [mF]
theorem D6:∀ {a b:List bO},fh a b=true↔a=b
 | [],[]=>by simp [fh]
 | [],_::_=>by simp [fh]
 | _::_,[]=>by simp [fh]
 | x::xs,y::ys=>by
   simp only [fh,au,gC,D6 (a:=xs) (b:=ys)]
   exact ⟨fun h=>⟨amR h.1,h.2⟩,fun h=>⟨by rw [h.1]; exact amS y,h.2⟩⟩
theorem amT (a b:List bO):fh a b=fh b a:=by
 rw [qB,D6,D6]; exact eq_comm
def DS (a b:Int):Int:=ad (decide (a < b)) (-1) (ad (decide (a > b)) 1 0)
theorem v86 (a b:Int):gS 2000 a b=some (DS a b):=by
 unfold gS DS
 simp only [K7,Dr]
 cases decide (a < b)<;>cases decide (a > b)<;>rfl
theorem Mj (a b:Int):(DS a b != 0)=!(a==b):=by
 unfold DS
 by_cases h:a < b
 ·rw [decide_eq_true h]; have:(a==b)=false:=beq_eq_false_iff_ne.2 (by omega)
  rw [this]; rfl
 ·by_cases h2:a > b
  ·rw [decide_eq_false h,decide_eq_true h2]; have:(a==b)=false:=beq_eq_false_iff_ne.2 (by omega)
   rw [this]; rfl
  ·rw [decide_eq_false h,decide_eq_false h2]; have:(a==b)=true:=beq_iff_eq.2 (by omega)
   rw [this]; rfl
theorem v59 (a b:bO):∃ n,dD 2000 a b=some n∧(n != 0)=!mF a b:=by
 unfold dD mF
 simp only [KT,Dl,v86,aq,Mj]
 cases h1:a.1==b.1 with
 | false=>exact ⟨_,rfl,by rw [Mj,h1]; rfl⟩
 | true=>
   cases h2:a.2.1==b.2.1 with
   | false=>exact ⟨_,rfl,by rw [Mj,h2]; rfl⟩
   | true=>
     simp only [dE,aB,fa,gO]
     cases h3:a.2.2.1==b.2.2.1 with
     | true=>
       have h4:a.2.2.1=b.2.2.1:=by simpa using h3
       rw [h4,No]
       exact ⟨_,rfl,rfl⟩
     | false=>
       cases Op.bytesLess a.2.2.1 b.2.2.1 with
       | true=>exact ⟨_,rfl,rfl⟩
       | false=>exact ⟨_,rfl,rfl⟩
theorem agq {R:Type} (k0:Bool→Option R) (K:Option R):
  ∀ (ys pre zs pre2:List bO) (m:Nat),ys.length < m→(pre++ys).length≤bp→pre.length=pre2.length→ys.length=zs.length→
    s6 (dD 2000) k0 (fun _ _ _=>K) m (pre++ys) (pre2++zs) (pre.length:Int)=ad (fh ys zs) K (k0 false):=by
 intro ys
 induction ys with
 | nil=>
   intro pre zs pre2 m hm hb hp hz
   have:zs=[]:=kG.1 hz.symm
   subst this
   cases m with
   | zero=>omega
   | succ m=>
     unfold s6
     simp only [wV,wR,wS,wT,wU,wW,r8,dW,aB,fh,aK]
 | cons y ys ih=>
   intro pre zs pre2 m hm hb hp hz
   obtain ⟨z,zs,rfl⟩:∃ z zs',zs=z::zs':=by
    cases zs with
    | nil=>simp at hz
    | cons z zs=>exact ⟨z,zs,rfl⟩
   cases m with
   | zero=>omega
   | succ m=>
     have hwr:=dX pre ys y hb
     obtain ⟨n,h1,h2⟩:=v59 y z
     have i2:(0≤(pre.length:Int)∧(pre.length:Int) < ((pre2++z::zs).length:Int))=True:=by rw [hp]; exact cX _ _ _
     have a2:(pre2++z::zs).getD (eI (pre.length:Int)) s0=z:=by rw [hp]; exact cI _ _ _ _
     unfold s6
     simp only [wV,wR,wS,wT,wU,wW,r8,dJ,cX,cI,if_true,aK,hwr,i2,a2,h1,aq,h2,fh]
     cases h:mF y z with
     | false=>simp only [fv,aK,hN,aB]
     | true=>
       simp only [dE,aB,fa]
       rw [bg pre ys y,bg pre2 zs z]
       exact ih (pre++[y]) zs (pre2++[z]) m (by simpa using hm) (by rw [←bg]; exact hb) (by simp [hp]) (by simpa using hz)
theorem XP {a b:List bO} (h:a.length≠b.length):fh a b=false:=by
 cases h2:fh a b with
 | false=>rfl
 | true=>exact absurd (congrArg kF (D6.1 h2)) h
theorem v28 (a b:List bO) (h:a.length < 2000):bL 2000 a b=some (fh a b):=by
 unfold bL
 simp only [wV,wR,wS,wT,wU,wW,r8]
 by_cases hl:a.length=b.length
 ·have e:((a.length:Int) != (b.length:Int))=false:=by simp [hl]
  have:=agq (R:=Bool) some (some true) a [] b [] 2000 h (by unfold bp; simp; omega) rfl hl
  simp only [cW,dd] at this
  simp only [e,aB]
  refine dF this ?_
  cases fh a b<;>rfl
 ·have e:((a.length:Int) != (b.length:Int))=true:=bne_iff_ne.2 (by omega)
  simp only [e,aK]
  rw [XP hl]
theorem afS {R:Type} (k0:Bool→Option R) (K:Option R):
  ∀ (ys pre zs pre2:List bO) (m:Nat),ys.length < m→(pre++ys).length≤bp→pre.length=pre2.length→ys.length=zs.length→
    sY k0 (fun _ _ _ _=>K) m (pre++ys) (pre2++zs) ((pre++ys).length:Int) (pre.length:Int)=ad (fh ys zs) K (k0 false):=by
 intro ys
 induction ys with
 | nil=>
   intro pre zs pre2 m hm hb hp hz
   have:zs=[]:=kG.1 hz.symm
   subst this
   cases m with
   | zero=>omega
   | succ m=>
     unfold sY
     simp only [vV,vR,vS,vT,vU,vW,rW,dW,aB,fh,aK]
 | cons y ys ih=>
   intro pre zs pre2 m hm hb hp hz
   obtain ⟨z,zs,rfl⟩:∃ z zs',zs=z::zs':=by
    cases zs with
    | nil=>simp at hz
    | cons z zs=>exact ⟨z,zs,rfl⟩
   cases m with
   | zero=>omega
   | succ m=>
     have hwr:=dX pre ys y hb
     have i2:(0≤(pre.length:Int)∧(pre.length:Int) < ((pre2++z::zs).length:Int))=True:=by rw [hp]; exact cX _ _ _
     have a2:(pre2++z::zs).getD (eI (pre.length:Int)) s0=z:=by rw [hp]; exact cI _ _ _ _
     unfold sY
     simp only [vV,vR,vS,vT,vU,vW,rW,dJ,cX,cI,if_true,aK,hwr,i2,a2,fh]
     have e:(y.1==z.1&&(y.2.1==z.2.1&&(y.2.2.1==z.2.2.1&&true)))=mF y z:=rfl
     rw [e]
     cases h:mF y z with
     | false=>simp only [fv,aK,hN,aB]
     | true=>
       simp only [dE,aB,fa]
       rw [bg pre ys y,bg pre2 zs z]
       exact ih (pre++[y]) zs (pre2++[z]) m (by simpa using hm) (by rw [←bg]; exact hb) (by simp [hp]) (by simpa using hz)
theorem aut (a b:List bO) (h:a.length < 2000):hX 2000 a b=some (fh a b):=by
 unfold hX
 simp only [vV,vR,vS,vT,vU,vW,rW]
 by_cases hl:a.length=b.length
 ·have e:((a.length:Int) != (b.length:Int))=false:=by simp [hl]
  have:=afS (R:=Bool) some (some true) a [] b [] 2000 h (by unfold bp; simp; omega) rfl hl
  simp only [cW,dd] at this
  simp only [e,aB]
  refine dF this ?_
  cases fh a b<;>rfl
 ·have e:((a.length:Int) != (b.length:Int))=true:=bne_iff_ne.2 (by omega)
  simp only [e,aK]
  rw [XP hl]
def up (b:UInt8):Bool:=decide ((b.toNat:Int)≥65)&&decide ((b.toNat:Int)≤90)
def jE (b:UInt8):Bool:=cY (b.toNat:Int)&&!up b
def tE (s:List UInt8):Int:=cond (s==[]) 7 (cond (decide ((s.length:Int) > 4)) 3 (cond (s.all jE) 0 2))
theorem Zf (b:UInt8):(fl b=b)↔up b=false:=by
 unfold fl up
 by_cases h:65≤b.toNat∧b.toNat≤90
 ·rw [if_pos h,decide_eq_true (show (b.toNat:Int)≥65 by omega),decide_eq_true (show (b.toNat:Int)≤90 by omega)]
  constructor
  ·intro e
   have e2:=congrArg UInt8.toNat e
   simp only [UInt8.toNat_ofNat'] at e2
   omega
  ·intro e; cases e
 ·rw [if_neg h]
  have:(decide ((b.toNat:Int)≥65)&&decide ((b.toNat:Int)≤90))=false:=by
   rw [Bool.and_eq_false_iff]
   by_cases h1:65≤b.toNat
   ·exact .inr (decide_eq_false (by omega))
   ·exact .inl (decide_eq_false (by omega))
  rw [this]; simp
theorem CQ:∀ s:List UInt8,(fold s==s)=s.all fun b=>!up b
 | []=>rfl
 | b::s=>by
   rw [qB]
   have ih:=CQ s
   rw [qB] at ih
   simp only [fold,fU,dq,au,beq_iff_eq,gC,dA] at ih ⊢
   rw [Zf,ih]
theorem ahp {R:Type} (k0:Int→Option R) (K:Option R):
  ∀ (ys pre:List UInt8) (m:Nat),ys.length < m→(pre++ys).length≤bp→
    sV (bz 2000) k0 (fun _ _=>K) m (pre++ys) (pre.length:Int)=cond (ys.all jE) K (k0 2):=by
 intro ys
 induction ys with
 | nil=>
   intro pre m hm hb
   cases m with
   | zero=>omega
   | succ m=>
     unfold sV
     simp only [vC,vy,vz,vA,vB,vD,rT,dW,aB,kD,cond_true]
 | cons y ys ih=>
   intro pre m hm hb
   cases m with
   | zero=>omega
   | succ m=>
     have hwr:=dX pre ys y hb
     unfold sV
     simp only [vC,vy,vz,vA,vB,vD,rT,dJ,cX,cI,if_true,aK,hwr,(Eb y).2,aq,dq,jE,up]
     have hgo:=ih (pre++[y]) m (by simpa using hm) (by rw [←bg]; exact hb)
     rw [←bg] at hgo
     cases cY (y.toNat:Int) with
     | false=>simp only [fv,aK,hN,cond_false]
     | true=>
       simp only [dE,aB,fa]
       cases decide ((y.toNat:Int)≥65) with
       | false=>simp only [aB,hN,fv,fa]; exact hgo
       | true=>
         simp only [aK,fa]
         cases decide ((y.toNat:Int)≤90) with
         | false=>simp only [aB,fv,fa]; exact hgo
         | true=>simp only [aK,dE,hN,cond_false]
theorem aup (s:List UInt8):fx 2000 s=some (tE s):=by
 unfold fx tE
 simp only [vC,vy,vz,vA,vB,vD,rT]
 cases h0:s==[] with
 | true=>rfl
 | false=>
   cases h1:decide ((s.length:Int) > 4) with
   | true=>rfl
   | false=>
     have h2:¬ (s.length:Int) > 4:=of_decide_eq_false h1
     have:=ahp (R:=Int) some (some 0) s [] 2000 (by omega) (by unfold bp; simp; omega)
     simp only [cW,dd] at this
     simp only [aB,cond_false]
     refine dF this ?_
     cases s.all jE<;>rfl
def qn (v:Int):Bool:=!decide (v < 32)&&!decide (v > 126)
theorem ahr {R:Type} (k0:Int→Option R) (K:Option R):
  ∀ (ys pre:List Int) (m:Nat),ys.length < m→(pre++ys).length≤bp→
    sZ k0 (fun _ _ _=>K) m (pre++ys) ((pre++ys).length:Int) (pre.length:Int)=cond (ys.all qn) K (k0 2):=by
 intro ys
 induction ys with
 | nil=>
   intro pre m hm hb
   cases m with
   | zero=>omega
   | succ m=>
     unfold sZ
     simp only [wC,wx,wz,wA,wB,wD,r6,dW,aB,kD,cond_true]
 | cons y ys ih=>
   intro pre m hm hb
   cases m with
   | zero=>omega
   | succ m=>
     have hwr:=dX pre ys y hb
     have hl:(eI (pre.length:Int) < (pre++y::ys).length)=True:=tu pre ys y
     unfold sZ
     simp only [wC,wx,wz,wA,wB,wD,r6,dJ,cX,cI,if_true,aK,hwr,hl,dq,qn]
     have hgo:=ih (pre++[y]) m (by simpa using hm) (by rw [←bg]; exact hb)
     rw [←bg] at hgo
     cases decide (y < 32) with
     | true=>simp only [aK,dE,hN,cond_false]
     | false=>
       cases decide (y > 126) with
       | true=>simp only [aK,aB,dE,fv,fa,hN,cond_false]
       | false=>simp only [aB,fv,fa]; exact hgo
def ch (b:UInt8):Int:=(b.toNat:Int)
theorem auB (s:List UInt8) (h:s.length≤120):fB 2000 s=some (cond ((s.map ch).all qn) 0 2):=by
 unfold fB
 have h1:decide ((s.length:Int) > 120)=false:=decide_eq_false (by omega)
 simp only [wC,wx,wz,wA,wB,wD,r6,h1,aB]
 have:=ahr (R:=Int) some (some 0) (s.map ch) [] 2000 (by simp; omega) (by unfold bp; simp; omega)
 simp only [cW,dd] at this
 refine dF this ?_
 cases (s.map ch).all qn<;>rfl
abbrev mL:Type:=Int×(Int×Unit)
structure Jw (P:List Int) (out:List mL):Prop where
 yes:P.all cY=true→out=if P=[] then [] else [(0,((P.length:Nat):Int),())]
 no:P.all cY=false→out.length≠1∨∃ a b,out=[(a,b,())]∧b - a < (P.length:Int)
 bd:∀ x∈out,0≤x.1∧x.1≤(P.length:Int)∧0≤x.2.1∧x.2.1≤(P.length:Int)
 len:out.length≤P.length
theorem uk (P:List Int) (y:Int):(P++[y]).all cY=(P.all cY&&cY y):=by simp
theorem Jw.skip {P:List Int} {out:List mL} {y:Int} (h:Jw P out) (hy:cY y=false):Jw (P++[y]) out:=by
 have ha:(P++[y]).all cY=false:=by rw [uk,hy,zW]
 refine ⟨fun e=>by rw [ha] at e; (cases e),fun _=>?_,fun x hx=>?_,by have:=h.len; simp; omega⟩
 ·cases hp:P.all cY with
  | true=>
    rw [h.yes hp]
    split
    ·exact .inl (by simp)
    ·exact .inr ⟨_,_,rfl,by simp; omega⟩
  | false=>
    rcases h.no hp with h1 | ⟨a,b,h1,h2⟩
    ·exact .inl h1
    ·exact .inr ⟨a,b,h1,by simp; omega⟩
 ·have:=h.bd x hx
  simp only [b6,gD]; omega
theorem Jw.ext {P:List Int} {o:List mL} {a:Int} {y:Int} (h:Jw P (o++[(a,((P.length:Nat):Int),())])) (hy:cY y=true):Jw (P++[y]) (o++[(a,((P.length:Nat):Int)+1,())]):=by
 refine ⟨fun e=>?_,fun e=>?_,fun x hx=>?_,by have:=h.len; simp at this ⊢; omega⟩
 ·rw [uk,hy,gO] at e
  have h1:=h.yes e
  split at h1
  ·simp at h1
  ·have h2:o=[]:=by
    have:=congrArg kF h1
    simp at this; exact kG.1 (by simpa using this)
   subst h2
   simp only [cW,gC,eJ,and_true] at h1
   rw [if_neg (by simp),h1]
   simp
 ·rw [uk,hy,gO] at e
  rcases h.no e with h1 | ⟨a',b',h1,h2⟩
  ·exact .inl (by simpa using h1)
  ·have h3:o=[]:=by
    have:=congrArg kF h1
    simp at this; exact kG.1 (by simpa using this)
   subst h3
   simp only [cW,gC,eJ,and_true] at h1
   exact .inr ⟨a,_,rfl,by simp; omega⟩
 ·simp only [b6,gD]
  rcases dG.1 hx with h1 | h1
  ·have:=h.bd x (List.mem_append_left _ h1); omega
  ·have h2:=h.bd (a,((P.length:Nat):Int),()) (by simp)
   simp only [iR] at h1
   subst h1
   simp only at h2 ⊢; omega
theorem Jw.new {P:List Int} {out:List mL} {y:Int} (h:Jw P out) (hy:cY y=true) (hn:∀ o a,out≠o++[(a,((P.length:Nat):Int),())]):Jw (P++[y]) (out++[(((P.length:Nat):Int),((P.length:Nat):Int)+1,())]):=by
 refine ⟨fun e=>?_,fun e=>?_,fun x hx=>?_,by have:=h.len; simp; omega⟩
 ·rw [uk,hy,gO] at e
  have h1:=h.yes e
  split at h1
  ·rename_i hp; subst hp; subst h1; simp
  ·exact absurd h1 (hn [] 0)
 ·rw [uk,hy,gO] at e
  cases out with
  | nil=>
    refine .inr ⟨_,_,rfl,?_⟩
    cases P with
    | nil=>cases e
    | cons p P=>simp; omega
  | cons x o=>exact .inl (by simp)
 ·simp only [b6,gD]
  rcases dG.1 hx with h1 | h1
  ·have:=h.bd x h1; omega
  ·simp only [iR] at h1
   subst h1
   simp only; omega
theorem aht {R:Type} (K:List mL→Option R):
  ∀ (ys pre:List Int) (m:Nat) (out:List mL),ys.length < m→(pre++ys).length≤120→(∀ v∈ys,ck 2000 v=some (cY v))→Jw pre out→
    ∃ o,Jw (pre++ys) o∧p6 (ck 2000) (fun o _ _ _=>K o) m out (pre++ys) ((pre++ys).length:Int) (pre.length:Int)=K o:=by
 intro ys
 induction ys with
 | nil=>
   intro pre m out hm hb hs hJ
   cases m with
   | zero=>omega
   | succ m=>
     refine ⟨out,by simpa using hJ,?_⟩
     unfold p6
     simp only [wu,wk,wm,wo,wq,wv,rZ,dW,aB]
 | cons y ys ih=>
   intro pre m out hm hb hs hJ
   cases m with
   | zero=>omega
   | succ m=>
     have hwr:=dX pre ys y (by unfold bp; omega)
     have hl:(eI (pre.length:Int) < (pre++y::ys).length)=True:=tu pre ys y
     have hy:=hs y (by simp)
     have hbp:pre.length < 120:=by simp at hb; omega
     have hgo:∀ o,Jw (pre++[y]) o→∃ o',Jw (pre++y::ys) o'∧p6 (ck 2000) (fun o _ _ _=>K o) m o (pre++y::ys) ((pre++y::ys).length:Int) ((pre++[y]).length:Int)=K o':=by
      intro o ho
      have:=ih (pre++[y]) m o (by simpa using hm) (by rw [←bg]; exact hb) (fun v hv=>hs v (fk _ hv)) ho
      rwa [←bg] at this
     unfold p6
     simp only [wu,wk,wm,wo,wq,wv,rZ,dJ,cX,cI,if_true,aK,hl,hwr,hy,aq]
     cases hly:cY y with
     | false=>
       simp only [fv,aK]
       exact hgo out (hJ.skip hly)
     | true=>
       simp only [dE,aB]
       have h3:(((pre++[y]).length:Nat):Int)=(pre.length:Int)+1:=by simp
       rcases tZ out with h0 | ⟨o,x,h0⟩
       ·subst h0
        have d:decide ((([]:List mL).length:Int) > 0)=false:=rfl
        have hl2:(([]:List mL).length+[((pre.length:Int),(((pre++[y]).length:Nat):Int),())].length≤8796093022208)=True:=by simp
        have hn:=hJ.new hly (by intro o a; simp)
        rw [←h3] at hn
        simp only [d,aB,hl2,if_true]
        exact hgo _ hn
       ·rw [tY] at h0
        subst h0
        have hol:(o++[x]).length≤pre.length:=hJ.len
        have hol':o.length < 120:=by simp at hol; omega
        have d:decide ((((o++[x]).length:Nat):Int) > 0)=true:=decide_eq_true (by simp only [b6,gD]; omega)
        have w2:IntKind.i64.wrap ((((o++[x]).length:Nat):Int) - 1)=(o.length:Int):=by
         have:(((o++[x]).length:Nat):Int) - 1=(o.length:Int):=by simp
         rw [this]; exact gk (by omega)
        have i1:(0≤(o.length:Int)∧(o.length:Int) < (((o++[x]).length:Nat):Int))=True:=by rw [eq_iff_iff,iff_true]; simp only [b6,gD]; omega
        have i2:(eI (o.length:Int) < (o++[x]).length)=True:=by simp
        have g1:(o++[x]).getD (eI (o.length:Int)) ((0:Int),((0:Int),()))=x:=by simp
        have s1:∀ z,(o++[x]).set (eI (o.length:Int)) z=o++[z]:=by intro z; simp
        simp only [d,aK,w2,i1,i2,if_true,g1,s1]
        cases hx:x.2.1==(pre.length:Int) with
        | true=>
          have hx':x.2.1=(pre.length:Int):=by simpa using hx
          obtain ⟨a,b,u⟩:=x
          simp only at hx'
          subst hx'
          have hn:=hJ.ext hly
          rw [←h3] at hn
          simp only [aK,hwr]
          exact hgo _ hn
        | false=>
          have hx':x.2.1≠(pre.length:Int):=by simpa using hx
          have hl2:((o++[x]).length+[((pre.length:Int),(((pre++[y]).length:Nat):Int),())].length≤8796093022208)=True:=by
           simp only [b6,gD,eq_iff_iff,iff_true]; omega
          have hn:=hJ.new hly (by
           intro o' a e
           have:=(List.append_inj' e rfl).2
           simp only [gC,and_true] at this
           rw [this] at hx'
           exact hx' rfl)
          rw [←h3] at hn
          simp only [aB,hl2,if_true]
          exact hgo _ hn
theorem afU:((List.range 256).all fun n=>!cY (n:Int) || qn (n:Int))=true:=by kernel_rfl
theorem afV (b:UInt8) (h:cY (b.toNat:Int)=true):qn (b.toNat:Int)=true:=by
 have:=fj.1 afU b.toNat (Er.2 b.toNat_lt)
 rw [h] at this
 simpa using this
theorem auw (s:List UInt8):fy 2000 s=some (tE s):=by
 unfold fy tE
 simp only [Kz,C6]
 cases h0:s==[] with
 | true=>rfl
 | false=>
   have h0':s≠[]:=by simpa using h0
   cases h1:decide ((s.length:Int) > 4) with
   | true=>rfl
   | false=>
     have h2:¬ (s.length:Int) > 4:=of_decide_eq_false h1
     simp only [aB,cond_false,v72 s (by omega),aq]
     have hne:(fold s != s)=!(fold s==s):=rfl
     rw [hne,CQ]
     cases hu:s.all fun b=>!up b with
     | false=>
       have:s.all jE=false:=by
        rw [ML] at hu ⊢
        obtain ⟨b,hb,h3⟩:=hu
        exact ⟨b,hb,by unfold jE; simp only [Bool.not_eq_true] at h3 ⊢; rw [h3,zW]⟩
       rw [this]; rfl
     | true=>
       have hlk:s.all jE=(s.map ch).all cY:=by
        rw [qB]
        simp only [fj,dt,forall_exists_index,and_imp,forall_apply_eq_imp_iff₂] at hu ⊢
        exact ⟨fun h b hb=>by have:=h b hb; unfold jE at this; simp only [au] at this; exact this.1,fun h b hb=>by unfold jE; rw [hu b hb,gO]; exact h b hb⟩
       simp only [dE,aB]
       unfold iU
       simp only [wu,wk,wm,wo,wq,wv,rZ,auB s (by omega),aq]
       cases hv:(s.map ch).all qn with
       | false=>
         have:s.all jE=false:=by
          rw [hlk,ML]
          rw [ML] at hv
          obtain ⟨v,hvm,h3⟩:=hv
          refine ⟨v,hvm,fun h4=>h3 ?_⟩
          obtain ⟨b,_,rfl⟩:=dt.1 hvm
          exact afV b h4
         rw [this]; rfl
       | true=>
         have e0:((cond true (0:Int) 2) != 0)=false:=rfl
         simp only [e0,aB]
         obtain ⟨o,hJ,ho⟩:=aht (R:=List mL×Int) (fun o=>some (o,0)) (s.map ch) [] 2000 [] (by simp; omega) (by simp; omega) (by
          intro v hv
          obtain ⟨b,_,rfl⟩:=dt.1 hv
          exact (Eb b).1) ⟨fun _=>rfl,(fun e=>by cases e),(fun x hx=>by simp at hx),by simp⟩
         simp only [cW,dd] at ho hJ
         have hch:(s.map fun b=>(b.toNat:Int))=s.map ch:=rfl
         rw [hch]
         have ho':=ho
         rw [show ((0:Nat):Int)=0 from rfl] at ho'
         simp only [ho']
         have e1:((0:Int) != 0)=false:=rfl
         simp only [aq,e1,aB]
         cases ha:(s.map ch).all cY with
         | true=>
           have h5:=hJ.yes ha
           rw [if_neg (by simpa using h0')] at h5
           subst h5
           have w:IntKind.i64.wrap (s.length:Int)=(s.length:Int):=gk (by omega)
           have hk:s.all jE=true:=by rw [hlk,ha]
           rw [hk]
           simp [w,ad]
         | false=>
           rw [hlk,ha]
           rcases hJ.no ha with h5 | ⟨a,b,h5,h6⟩
           ·have:((o.length:Int) != 1)=true:=bne_iff_ne.2 (by omega)
            rw [this]; rfl
           ·subst h5
            have hbd:=hJ.bd (a,b,()) (by simp)
            simp only [nv] at hbd h6
            have w:IntKind.i64.wrap (b - a)=b - a:=gk (by omega)
            have:(b - a != (s.length:Int))=true:=bne_iff_ne.2 (by omega)
            simp [w,this,ad]
theorem avj (n:Int):(n != 0)=!(n==0):=rfl
def uu (x:dh):Bool:=decide (x.2.2.1 < 0) || (decide (x.2.2.1 > 99) || (decide (x.2.2.2.1 < 0) || decide (x.2.2.2.1 > 4)))
def gE (x:dh):Int:=cond (tE x.1 != 0) (tE x.1) (cond ((x.2.1.length:Int)==0) 7 (cond (decide ((x.2.1.length:Int) > 2)) 3 (cond (jN x.2.1 != 0) (jN x.2.1) (cond (uu x) 6 0))))
theorem afC {R:Type} (k0:Int→Option R) (K:dh→Option R) (x:dh):
  ∀ (ys pre:List bO) (m:Nat),ys.length < m→(pre++ys).length≤bp→
    sX (dC 2000) k0 (fun y0 _ _ _=>K y0) m x (pre++ys) ((pre++ys).length:Int) (pre.length:Int)=cond (jN ys != 0) (k0 (jN ys)) (K x):=by
 intro ys
 induction ys with
 | nil=>
   intro pre m hm hb
   cases m with
   | zero=>omega
   | succ m=>
     unfold sX
     simp only [vP,vL,vM,vN,vO,vQ,rV,dW,aB,jN]
     rfl
 | cons y ys ih=>
   intro pre m hm hb
   cases m with
   | zero=>omega
   | succ m=>
     have hwr:=dX pre ys y hb
     have hgo:=ih (pre++[y]) m (by simpa using hm) (by rw [←bg]; exact hb)
     rw [←bg] at hgo
     unfold sX
     simp only [vP,vL,vM,vN,vO,vQ,rV,dJ,cX,cI,if_true,aK,hwr,au2,aq,jN]
     cases h:oB y != 0 with
     | true=>simp only [aK,cond_true,h]
     | false=>simp only [aB,cond_false]; exact hgo
theorem agr {R:Type} (k0:Int→Option R) (K:dh→Option R) (t:List UInt8) (r:Int×(Int×Unit)):
  ∀ (ys pre:List bO) (m:Nat),ys.length < m→(pre++ys).length≤bp→
    tn (bN 2000) k0 (fun y0 _=>K y0) m (t,(pre++ys,r)) (pre.length:Int)=cond (jN ys != 0) (k0 (jN ys)) (K (t,(pre++ys,r))):=by
 intro ys
 induction ys with
 | nil=>
   intro pre m hm hb
   cases m with
   | zero=>omega
   | succ m=>
     unfold tn
     simp only [yY,yU,yV,yW,yX,yZ,sN,dW,aB,jN]
     rfl
 | cons y ys ih=>
   intro pre m hm hb
   cases m with
   | zero=>omega
   | succ m=>
     have hwr:=dX pre ys y hb
     have hgo:=ih (pre++[y]) m (by simpa using hm) (by rw [←bg]; exact hb)
     rw [←bg] at hgo
     unfold tn
     simp only [yY,yU,yV,yW,yX,yZ,sN,dJ,cX,cI,if_true,aK,hwr,v117,aq,jN]
     cases h:oB y != 0 with
     | true=>simp only [aK,cond_true,h]
     | false=>simp only [aB,cond_false]; exact hgo
theorem aur (x:dh):du 2000 x=some (gE x):=by
 unfold du gE
 simp only [vP,vL,vM,vN,vO,vQ,rV,auw,aq]
 cases tE x.1 != 0 with
 | true=>rfl
 | false=>
   cases (x.2.1.length:Int)==0 with
   | true=>rfl
   | false=>
     cases h:decide ((x.2.1.length:Int) > 2) with
     | true=>rfl
     | false=>
       have h2:¬ (x.2.1.length:Int) > 2:=of_decide_eq_false h
       have:=afC (R:=Int) some (fun x0=>ad (decide (x0.2.2.1 < (0:Int))) (some 6) (ad (decide (x0.2.2.1 > (99:Int))) (some 6) (ad (decide (x0.2.2.2.1 < (0:Int))) (some 6) (ad (decide (x0.2.2.2.1 > (4:Int))) (some 6) (some 0))))) x x.2.1 [] 2000 (by omega) (by unfold bp; simp; omega)
       simp only [cW,dd] at this
       simp only [aB,aK,cond_false]
       refine dF this ?_
       unfold uu
       cases jN x.2.1 != 0<;>cases decide (x.2.2.1 < 0)<;>cases decide (x.2.2.1 > 99)<;>cases decide (x.2.2.2.1 < 0)<;>cases decide (x.2.2.2.1 > 4)<;>rfl
theorem v91 (x:dh):cN 2000 x=some (gE x):=by
 obtain ⟨t,l,r⟩:=x
 unfold cN gE
 simp only [yY,yU,yV,yW,yX,yZ,sN,aup,aq]
 cases tE t != 0 with
 | true=>rfl
 | false=>
   cases (l.length:Int)==0 with
   | true=>rfl
   | false=>
     cases h:decide ((l.length:Int) > 2) with
     | true=>rfl
     | false=>
       have h2:¬ (l.length:Int) > 2:=of_decide_eq_false h
       have:=agr (R:=Int) some (fun x0=>ad (decide (x0.2.2.1 < (0:Int))) (some 6) (ad (decide (x0.2.2.1 > (99:Int))) (some 6) (ad (decide (x0.2.2.2.1 < (0:Int))) (some 6) (ad (decide (x0.2.2.2.1 > (4:Int))) (some 6) (some 0))))) t r l [] 2000 (by omega) (by unfold bp; simp; omega)
       simp only [cW,dd] at this
       simp only [aB,aK,cond_false]
       refine dF this ?_
       unfold uu
       cases jN l != 0<;>cases decide (r.1 < 0)<;>cases decide (r.1 > 99)<;>cases decide (r.2.1 < 0)<;>cases decide (r.2.1 > 4)<;>rfl
theorem jW {x:dh} (h:gE x=0):x.2.1.length≤2∧x.2.1≠[]∧x.1≠[]∧x.1.length≤4:=by
 unfold gE at h
 cases h1:tE x.1 != 0 with
 | true=>rw [h1,cond_true] at h; rw [h] at h1; cases h1
 | false=>
   rw [h1,cond_false] at h
   have ht:x.1≠[]∧x.1.length≤4:=by
    unfold tE at h1
    cases h3:x.1==[] with
    | true=>rw [h3] at h1; cases h1
    | false=>
      rw [h3] at h1
      cases h4:decide ((x.1.length:Int) > 4) with
      | true=>rw [h4] at h1; cases h1
      | false=>exact ⟨by simpa using h3,by have:=of_decide_eq_false h4; omega⟩
   cases h2:(x.2.1.length:Int)==0 with
   | true=>rw [h2,cond_true] at h; cases h
   | false=>
     rw [h2,cond_false] at h
     cases h3:decide ((x.2.1.length:Int) > 2) with
     | true=>rw [h3,cond_true] at h; cases h
     | false=>
       have:=of_decide_eq_false h3
       refine ⟨by omega,fun e=>?_,ht.1,ht.2⟩
       rw [e] at h2; cases h2
def zE (t y:dh):Bool:=(t.1==y.1)&&((t.2.2.2.1==y.2.2.2.1)&&fh t.2.1 y.2.1)
def ln (y:dh) (pre:List dh):Bool:=pre.any fun t=>zE t y
def iL:List dh→List dh→Int
 | _,[]=>0
 | pre,y::ys=>cond (gE y != 0) (gE y) (cond (ln y pre) 5 (iL (pre++[y]) ys))
def ov (s:List UInt8):Bool:=match fe 2000 s with | some b=>b | none=>false
theorem W7 (s:List UInt8):fm 2000 s=some (ov s)∧fe 2000 s=some (ov s):=by
 obtain ⟨b,h1,h2⟩:=auq s
 have:ov s=b:=by unfold ov; rw [h2]
 rw [this]; exact ⟨h1,h2⟩
def oE (o:aO):Int:=cond (!ov o.1) 2 (cond ((o.2.1.length:Int)==0) 7 (cond (decide ((o.2.1.length:Int) > 120)) 3 (iL [] o.2.1)))
theorem af0 {R:Type} (k0:Int→Option R) (K:Option R) (f:dh×Unit→Option Bool) (p:dh→Bool):
  ∀ (ys pre:List dh) (m:Nat),(∀ t∈ys,f (t,())=some (p t))→ys.length < m→(pre++ys).length≤bp→
    (ys.any p=false→p5 k0 (fun _ _ _ _=>K) m (pre++ys) f ((pre++ys).length:Int) (pre.length:Int)=K)∧
    (ys.any p=true→∃ i:Nat,p5 k0 (fun _ _ _ _=>K) m (pre++ys) f ((pre++ys).length:Int) (pre.length:Int)=k0 (i:Int)):=by
 intro ys
 induction ys with
 | nil=>
   intro pre m hf hm hb
   cases m with
   | zero=>omega
   | succ m=>
     unfold p5
     simp only [wc,we,wg,wh,wi,wj,rY,dW,aB,tX]
     exact ⟨fun _=>trivial,fun h=>by cases h⟩
 | cons y ys ih=>
   intro pre m hf hm hb
   cases m with
   | zero=>omega
   | succ m=>
     have hwr:=dX pre ys y hb
     have hgo:=ih (pre++[y]) m (fun t ht=>hf t (fk _ ht)) (by simpa using hm) (by rw [←bg]; exact hb)
     rw [←bg] at hgo
     unfold p5
     simp only [wc,we,wg,wh,wi,wj,rY,dJ,cX,cI,if_true,aK,hwr,hf y (by simp),aq,nu]
     cases h:p y with
     | true=>simp only [aK,tS]; exact ⟨(fun h=>by cases h),fun _=>⟨pre.length,rfl⟩⟩
     | false=>simp only [aB,nr]; exact hgo
theorem aus (xs:List dh) (hx:xs.length < 2000) (f:dh×Unit→Option Bool) (p:dh→Bool) (hf:∀ t∈xs,f (t,())=some (p t)):de 2000 xs f=some (xs.any p):=by
 unfold de
 simp only [Ko,CW]
 unfold iT
 simp only [wc,we,wg,wh,wi,wj,rY]
 have h:=af0 (R:=Int) some (some (-1)) f p xs [] 2000 hf hx (by unfold bp; simp; omega)
 simp only [cW,dd] at h
 have z:((0:Nat):Int)=0:=rfl
 rw [z] at h
 cases ha:xs.any p with
 | false=>rw [h.1 ha]; rfl
 | true=>
   obtain ⟨i,h1⟩:=h.2 ha
   rw [h1]
   simp only [aq]
   have:decide ((i:Int)≥0)=true:=decide_eq_true (by omega)
   rw [this]
theorem afH {R:Type} (k0:Int→Int→Option R) (K:Option R) (nm:List UInt8):
  ∀ (ys pre:List dh) (m:Nat),ys.length < m→(pre++ys).length≤120→(∀ t∈pre,t.2.1.length≤2)→
    (iL pre ys=0→qc (du 2000) (de 2000) (dv 2000) k0 (fun _ _ _ _=>K) m (nm,(pre++ys,())) (pre++ys) ((pre++ys).length:Int) (pre.length:Int)=K)∧
    (iL pre ys≠0→∃ i,qc (du 2000) (de 2000) (dv 2000) k0 (fun _ _ _ _=>K) m (nm,(pre++ys,())) (pre++ys) ((pre++ys).length:Int) (pre.length:Int)=k0 i (iL pre ys)):=by
 intro ys
 induction ys with
 | nil=>
   intro pre m hm hb hp
   cases m with
   | zero=>omega
   | succ m=>
     unfold qc
     simp only [ze,za,zb,zc,zd,zf,sO,dW,aB,iL]
     exact ⟨fun _=>trivial,fun h=>absurd rfl h⟩
 | cons y ys ih=>
   intro pre m hm hb hp
   cases m with
   | zero=>omega
   | succ m=>
     have hwr:=dX pre ys y (by unfold bp; omega)
     unfold qc
     simp only [ze,za,zb,zc,zd,zf,sO,dJ,cX,cI,if_true,aK,hwr,aur,aq,iL]
     cases h:gE y != 0 with
     | true=>
       have h':gE y≠0:=by simpa using h
       simp only [aK,cond_true]
       exact ⟨fun e=>absurd e h',fun _=>⟨_,rfl⟩⟩
     | false=>
       have h':gE y=0:=by simpa using h
       have hy:=jW h'
       have hbp:pre.length < 120:=by simp at hb; omega
       have hc:(0≤(0:Int)∧(0:Int)≤(pre.length:Int)∧(pre.length:Int)≤((pre++y::ys).length:Int)∧((pre++y::ys).length:Int)≤((pre++y::ys).length:Int))=True:=by
        rw [eq_iff_iff,iff_true]; simp only [b6,dY]; omega
       have ht:((pre++y::ys).drop (0:Int).toNat).take ((pre.length:Int).toNat - (0:Int).toNat)=pre:=by simp
       have hd:de 2000 pre (fun (x0:dh×Unit)=>((dv 2000 x0.1 y).bind fun b=>some [.v .bool b]).bind (j0 .bool))=some (ln y pre):=
        aus pre (by omega) _ (fun t=>zE t y) (fun t ht=>by
         unfold dv zE
         have:=hp t ht
         simp only [Kp,CX,aut t.2.1 y.2.1 (by omega),aq]
         cases t.1==y.1<;>cases t.2.2.2.1==y.2.2.2.1<;>cases fh t.2.1 y.2.1<;>rfl)
       simp only [aB,cond_false,hc,if_true,ht,hd,aq]
       cases h2:ln y pre with
       | true=>
         simp only [aK,cond_true]
         exact ⟨(fun e=>by cases e),fun _=>⟨_,rfl⟩⟩
       | false=>
         simp only [aB,cond_false]
         have hgo:=ih (pre++[y]) m (by simpa using hm) (by rw [←bg]; exact hb) (by
          intro t ht
          rcases dG.1 ht with h | h
          ·exact hp t h
          ·rw [iR.1 h]; exact hy.1)
         rw [←bg] at hgo
         exact hgo
theorem v70 (o:aO):ey 2000 o=some (oE o):=by
 obtain ⟨nm,l,u⟩:=o
 unfold ey
 simp only [K3,Dp]
 unfold iY oE
 simp only [ze,za,zb,zc,zd,zf,sO,(W7 nm).1,aq]
 cases ov nm with
 | false=>rfl
 | true=>
   cases (l.length:Int)==0 with
   | true=>rfl
   | false=>
     cases h:decide ((l.length:Int) > 120) with
     | true=>rfl
     | false=>
       have h2:¬ (l.length:Int) > 120:=of_decide_eq_false h
       have hk:=afH (R:=Int×Int) (fun a b=>some (a,b)) (some (-1,0)) nm l [] 2000 (by omega) (by simp; omega) (by simp)
       simp only [cW,dd] at hk
       have z:((0:Nat):Int)=0:=rfl
       rw [z] at hk
       simp only [dE,aB,cond_false]
       by_cases he:iL [] l=0
       ·rw [hk.1 he,he]; rfl
       ·obtain ⟨i,h3⟩:=hk.2 he
        rw [h3]; rfl
theorem af3 {R:Type} (k0:Int→Int→Option R) (K:aO→Int→Option R) (o:aO) (y:dh) (L:List dh) (hL:o.2.1=L) (i:Nat) (hi:i < L.length) (hy:L.getD i g0=y):
  ∀ (ys pre zs:List dh) (m:Nat),L=pre++ys++zs→(pre++ys).length=i→ys.length < m→L.length≤120→(∀ t∈ys,t.2.1.length≤2)→y.2.1.length≤2→
    (ln y ys=false→p9 (bL 2000) k0 (fun a b _=>K a b) m o (i:Int) (pre.length:Int)=K o (i:Int))∧
    (ln y ys=true→p9 (bL 2000) k0 (fun a b _=>K a b) m o (i:Int) (pre.length:Int)=k0 (i:Int) 5):=by
 intro ys
 induction ys with
 | nil=>
   intro pre zs m hl hlen hm hb hp hy2
   cases m with
   | zero=>omega
   | succ m=>
     have d:decide ((pre.length:Int) < (i:Int))=false:=decide_eq_false (by simp at hlen; omega)
     unfold p9
     simp only [pM,pJ,pR,pP,pK,pO,pQ,pS,pT,pL,pN,oc,d,aB,ln,tX]
     exact ⟨fun _=>trivial,fun h=>by cases h⟩
 | cons x ys ih=>
   intro pre zs m hl hlen hm hb hp hy2
   cases m with
   | zero=>omega
   | succ m=>
     have hpi:pre.length < i:=by simp at hlen; omega
     have d:decide ((pre.length:Int) < (i:Int))=true:=decide_eq_true (by omega)
     have c1:(0≤(i:Int)∧(i:Int) < (L.length:Int))=True:=by rw [eq_iff_iff,iff_true]; omega
     have c2:(0≤(pre.length:Int)∧(pre.length:Int) < (L.length:Int))=True:=by rw [eq_iff_iff,iff_true]; omega
     have g1:L.getD (eI (i:Int)) g0=y:=hy
     have g2:L.getD (eI (pre.length:Int)) g0=x:=by rw [hl,bK]; exact cI _ _ _ _
     have hw:IntKind.i64.wrap ((pre.length:Int)+1)=((pre++[x]).length:Int):=by
      rw [gk (by omega)]; simp
     have hgo:=ih (pre++[x]) zs m (by rw [hl]; simp) (by rw [←bg]; exact hlen) (by simpa using hm) hb (fun t ht=>hp t (fk _ ht)) hy2
     have hs:bL 2000 y.2.1 x.2.1=some (fh x.2.1 y.2.1):=by
      rw [v28 y.2.1 x.2.1 (by omega),amT]
     have hx:ln y (x::ys)=(zE x y || ln y ys):=rfl
     have e1:(y.1==x.1)=(x.1==y.1):=by rw [qB]; simp only [beq_iff_eq]; exact eq_comm
     have e2:(y.2.2.2.1==x.2.2.2.1)=(x.2.2.2.1==y.2.2.2.1):=by rw [qB]; simp only [beq_iff_eq]; exact eq_comm
     unfold p9
     simp only [pM,pJ,pR,pP,pK,pO,pQ,pS,pT,pL,pN,oc,d,aK,hL,c1,c2,if_true,g1,g2,e1,e2,hs,aq,hw,hx,zE]
     cases x.1==y.1 with
     | false=>simp only [aB,hN,nr]; exact hgo
     | true=>
       cases x.2.2.2.1==y.2.2.2.1 with
       | false=>simp only [aB,aK,fa,hN,nr]; exact hgo
       | true=>
         cases fh x.2.1 y.2.1 with
         | false=>simp only [aB,aK,fa,nr]; exact hgo
         | true=>
           simp only [aK,fa,tS]
           exact ⟨(fun h=>by cases h),fun _=>trivial⟩
theorem af1 {R:Type} (k0:Int→Int→Option R) (K:Option R) (nm:List UInt8):
  ∀ (ys pre:List dh) (m:Nat),ys.length < m→(pre++ys).length≤120→(∀ t∈pre,t.2.1.length≤2)→
    (iL pre ys=0→oi 2000 (bL 2000) (cN 2000) k0 (fun _ _=>K) m (nm,(pre++ys,())) (pre.length:Int)=K)∧
    (iL pre ys≠0→∃ i,oi 2000 (bL 2000) (cN 2000) k0 (fun _ _=>K) m (nm,(pre++ys,())) (pre.length:Int)=k0 i (iL pre ys)):=by
 intro ys
 induction ys with
 | nil=>
   intro pre m hm hb hp
   cases m with
   | zero=>omega
   | succ m=>
     unfold oi
     simp only [pM,pJ,pR,pP,pK,pO,pQ,pS,pT,pL,pN,oc,dW,aB,iL]
     exact ⟨fun _=>trivial,fun h=>absurd rfl h⟩
 | cons y ys ih=>
   intro pre m hm hb hp
   cases m with
   | zero=>omega
   | succ m=>
     have hwr:=dX pre ys y (by unfold bp; omega)
     unfold oi
     simp only [pM,pJ,pR,pP,pK,pO,pQ,pS,pT,pL,pN,oc,dJ,cX,cI,if_true,aK,v91,aq,iL]
     cases h:gE y != 0 with
     | true=>
       have h':gE y≠0:=by simpa using h
       simp only [aK,cond_true]
       exact ⟨fun e=>absurd e h',fun _=>⟨_,rfl⟩⟩
     | false=>
       have h':gE y=0:=by simpa using h
       have hy:=jW h'
       have hbp:pre.length < 120:=by simp at hb; omega
       have hin:=af3 k0 (fun x0 x1=>oi 2000 (bL 2000) (cN 2000) k0 (fun _ _=>K) m x0 (IntKind.i64.wrap (x1+(1:Int)))) (nm,(pre++y::ys,())) y (pre++y::ys) rfl pre.length (by simp) (by simp) pre [] (y::ys) 2000 (by simp) (by simp) (by omega) hb hp hy.1
       simp only [dd] at hin
       have z:((0:Nat):Int)=0:=rfl
       rw [z] at hin
       simp only [aB,cond_false]
       cases h2:ln y pre with
       | true=>
         rw [hin.2 h2]
         simp only [cond_true]
         exact ⟨(fun e=>by cases e),fun _=>⟨_,rfl⟩⟩
       | false=>
         rw [hin.1 h2,hwr]
         simp only [cond_false]
         have hgo:=ih (pre++[y]) m (by simpa using hm) (by rw [←bg]; exact hb) (by
          intro t ht
          rcases dG.1 ht with h | h
          ·exact hp t h
          ·rw [iR.1 h]; exact hy.1)
         rw [←bg] at hgo
         exact hgo
theorem v35 (o:aO):ir 2000 o=some (oE o):=by
 obtain ⟨nm,l,u⟩:=o
 unfold ir
 simp only [KL,Df]
 unfold dM oE
 simp only [pM,pJ,pR,pP,pK,pO,pQ,pS,pT,pL,pN,oc,(W7 nm).2,aq]
 cases ov nm with
 | false=>rfl
 | true=>
   cases (l.length:Int)==0 with
   | true=>rfl
   | false=>
     cases h:decide ((l.length:Int) > 120) with
     | true=>rfl
     | false=>
       have h2:¬ (l.length:Int) > 120:=of_decide_eq_false h
       have hk:=af1 (R:=Int×Int) (fun a b=>some (a,b)) (some (-1,0)) nm l [] 2000 (by omega) (by simp; omega) (by simp)
       simp only [cW,dd] at hk
       have z:((0:Nat):Int)=0:=rfl
       rw [z] at hk
       simp only [dE,aB,cond_false]
       by_cases he:iL [] l=0
       ·rw [hk.1 he,he]; rfl
       ·obtain ⟨i,h3⟩:=hk.2 he
        rw [h3]; rfl
theorem auO (l:List bO):∃ b,dy 2000 l 6=some b:=by
 unfold dy
 cases e:decide ((l.length:Int) > 6) with
 | true=>exact ⟨false,by simp only [sF,sB,sC,sD,sE,sG,pI,e,aK]⟩
 | false=>
   have hl:l.length≤6:=by
    have:=of_decide_eq_false e
    omega
   obtain ⟨b,h⟩:=afY (R:=Bool) some (fun _ _=>some true) (fun _ _=>rfl) l [] 2000 (by omega) (by unfold bp; simp; omega)
   refine ⟨b,?_⟩
   simp only [sF,sB,sC,sD,sE,sG,pI,e,aB]
   simpa using h
theorem afX {R:Type} (k0:Bool→Option R) (K:Int→Option R) (nm:List UInt8):
  ∀ (ys pre:List dh) (m:Nat) (n:Int),ys.length < m→(pre++ys).length≤bp→
    (∃ q,p8 (dy 2000) k0 (fun _ n _=>K n) m (nm,(pre++ys,())) n (pre.length:Int)=K q)∨p8 (dy 2000) k0 (fun _ n _=>K n) m (nm,(pre++ys,())) n (pre.length:Int)=k0 false:=by
 intro ys
 induction ys with
 | nil=>
   intro pre m n hm hb
   cases m with
   | zero=>omega
   | succ m=>
     left; refine ⟨n,?_⟩
     unfold p8
     simp only [xr,xl,xm,xn,xp,xu,sd,dW,aB]
 | cons y ys ih=>
   intro pre m n hm hb
   cases m with
   | zero=>omega
   | succ m=>
     have hwr:=dX pre ys y hb
     obtain ⟨b,h⟩:=auO y.2.1
     have hgo:=ih (pre++[y]) m (IntKind.i64.wrap (n+(y.1.length:Int))) (by simpa using hm) (by rw [←bg]; exact hb)
     rw [←bg] at hgo
     unfold p8
     simp only [xr,xl,xm,xn,xp,xu,sd,dJ,cX,cI,if_true,aK,hwr,h,aq]
     cases b with
     | false=>right; simp only [fv,aK]
     | true=>simp only [dE,aB]; exact hgo
theorem v12 (o:aO) (w:List UInt8) (l:List Int):∃ b,hR 2000 o w l=some b∧(b=true→w.length≤40∧l.length≤40):=by
 have hf:∃ b,iq 2000 o=some b:=by
  obtain ⟨nm,s,u⟩:=o
  unfold iq
  simp only [xr,xl,xm,xn,xp,xu,sd]
  cases decide ((nm.length:Int) > 60) with
  | true=>exact ⟨false,rfl⟩
  | false=>
    cases h:decide ((s.length:Int) > 130) with
    | true=>exact ⟨false,rfl⟩
    | false=>
      have h2:=of_decide_eq_false h
      have:=afX (R:=Bool) some (fun n=>some (decide (n≤(1500:Int)))) nm s [] 2000 0 (by omega) (by unfold bp; simp; omega)
      simp only [cW,dd] at this
      simp only [aB]
      rcases this with ⟨q,h⟩ | h
      ·exact ⟨_,h⟩
      ·exact ⟨_,h⟩
 obtain ⟨b,hb⟩:=hf
 unfold hR
 simp only [Kr,g12,hb,aq]
 cases b with
 | false=>exact ⟨false,rfl,fun h=>by cases h⟩
 | true=>
   cases h1:decide ((w.length:Int)≤40) with
   | false=>exact ⟨false,rfl,fun h=>by cases h⟩
   | true=>
     refine ⟨decide ((l.length:Int)≤40),rfl,fun h=>?_⟩
     have:=of_decide_eq_true h; have:=of_decide_eq_true h1
     omega
theorem XH:∀ (ys pre:List dh),iL pre ys=0→∀ y∈ys,gE y=0
 | [],_,_,y,hy=>absurd hy (by simp)
 | x::xs,pre,h,y,hy=>by
   unfold iL at h
   cases h1:gE x != 0 with
   | true=>
     rw [h1,cond_true] at h; rw [h] at h1; cases h1
   | false=>
     rw [h1,cond_false] at h
     have hx:gE x=0:=by simpa using h1
     cases h2:ln x pre with
     | true=>rw [h2,cond_true] at h; cases h
     | false=>
       rw [h2,cond_false] at h
       rcases cV.1 hy with rfl | hy
       ·exact hx
       ·exact XH xs _ h y hy
theorem tw {o:aO} (h:oE o=0):(∀ y∈o.2.1,gE y=0)∧o.2.1.length≤120∧o.2.1≠[]:=by
 unfold oE at h
 cases h1:ov o.1 with
 | false=>rw [h1] at h; cases h
 | true=>
   rw [h1] at h
   cases h2:(o.2.1.length:Int)==0 with
   | true=>rw [h2] at h; cases h
   | false=>
     rw [h2] at h
     cases h3:decide ((o.2.1.length:Int) > 120) with
     | true=>rw [h3] at h; cases h
     | false=>
       rw [h3] at h
       have:=of_decide_eq_false h3
       refine ⟨XH _ _ h,by omega,fun e=>?_⟩
       rw [e] at h2; cases h2
def sg (o:aO) (i:Int):dh:=o.2.1.getD i.toNat g0
theorem kA {o:aO} (h:oE o=0) {i:Int} (hi:0≤i∧i < (o.2.1.length:Int)):gE (sg o i)=0:=by
 refine (tw h).1 _ ?_
 unfold sg
 rw [z8,fb (by omega)]
 exact MO _
def cq (o:aO) (i:Int):Bool:=!decide (i < 0)&&!decide (i≥(o.2.1.length:Int))
theorem gK {o:aO} {i:Int}:cq o i=true↔0≤i∧i < (o.2.1.length:Int):=by
 unfold cq
 simp only [au,dA,decide_eq_false_iff_not]; omega
def eE (o:aO):List Int→List UInt8
 | []=> []
 | i::r=>(sg o i).1++eE o r
def tL (o:aO):List Int→List bO
 | []=> []
 | i::r=>(sg o i).2.1++tL o r
def qi (o:aO):Int→List Int→List Int
 | _,[]=> []
 | at_,i::r=>gn (sg o i).2.1.length at_++qi o (at_+((sg o i).1.length:Int)) r
theorem aul {o:aO} (h:oE o=0):∀ {l:List Int},l.all (cq o)=true→(eE o l).length≤4 * l.length
 | [],_=>by simp [eE]
 | i::r,hl=>by
   simp only [dq,au] at hl
   have h1:=(jW (kA h (gK.1 hl.1))).2.2.2
   have h2:=aul h hl.2
   simp only [eE,b6,dY]; omega
theorem amU {o:aO} (h:oE o=0):∀ {l:List Int},l.all (cq o)=true→(tL o l).length≤2 * l.length
 | [],_=>by simp [tL]
 | i::r,hl=>by
   simp only [dq,au] at hl
   have h1:=(jW (kA h (gK.1 hl.1))).1
   have h2:=amU h hl.2
   simp only [tL,b6,dY]; omega
theorem agb {R:Type} (k0:List UInt8→Bool→Option R) (K:List UInt8→Option R) (o:aO) (ho:oE o=0):
  ∀ (ys pre:List Int) (m:Nat) (acc:List UInt8),ys.length < m→(pre++ys).length≤1000→acc.length+4 * ys.length≤100000→
    tg (cH 2000) k0 (fun _ a _ _ _=>K a) m o acc (pre++ys) ((pre++ys).length:Int) (pre.length:Int)=cond (ys.all (cq o)) (K (acc++eE o ys)) (k0 [] false):=by
 intro ys
 induction ys with
 | nil=>
   intro pre m acc hm hb ha
   cases m with
   | zero=>omega
   | succ m=>
     unfold tg
     simp only [ye,ya,yb,yc,yd,yf,sw,dW,aB,kD,cond_true,eE,jk acc]
 | cons y ys ih=>
   intro pre m acc hm hb ha
   cases m with
   | zero=>omega
   | succ m=>
     have hwr:=dX pre ys y (by unfold bp; omega)
     unfold tg
     simp only [ye,ya,yb,yc,yd,yf,sw,dJ,cX,cI,if_true,aK,hwr,dq]
     cases h1:decide (y < 0) with
     | true=>simp only [aK,cq,h1,dE,hN,cond_false]
     | false=>
       cases h2:decide (y≥(o.2.1.length:Int)) with
       | true=>simp only [aK,aB,cq,h1,h2,dE,fv,zW,hN,cond_false]
       | false=>
         have hix:cq o y=true:=by unfold cq; rw [h1,h2]; rfl
         have hy:=gK.1 hix
         have hg:=jW (kA ho hy)
         have hin:(0≤y∧y < (o.2.1.length:Int))=True:=by rw [eq_iff_iff,iff_true]; exact hy
         have hs:o.2.1.getD y.toNat g0=sg o y:=rfl
         have hw:cH 2000 acc (sg o y).1=some (acc++(sg o y).1):=by
          unfold cH
          rw [if_pos (by simp only [dY] at ha; omega)]
         simp only [aB,hin,if_true,hs,hw,aq,hix,fa,eE]
         have:=ih (pre++[y]) m (acc++(sg o y).1) (by simpa using hm) (by rw [←bg]; exact hb) (by simp only [b6,dY] at ha ⊢; omega)
         rw [←bg,bK] at this
         exact this
theorem Yb (o:aO) (l:List Int) (ho:oE o=0) (hl:l.length≤1000):dI 2000 o l=some (cond (l.all (cq o)) (eE o l,true) ([],false)):=by
 unfold dI
 have:=agb (R:=List UInt8×Bool) (fun a b=>some (a,b)) (fun x=>(eg 2000 x).bind fun r=>some (r,true)) o ho l [] 2000 [] (by omega) (by simpa using hl) (by simp; omega)
 simp only [cW,dd] at this
 simp only [ye,ya,yb,yc,yd,yf,sw]
 refine dF this ?_
 cases l.all (cq o)<;>rfl
theorem ags {R:Type} (k0:Int→Option R) (K:Option R) (o:aO):
  ∀ (ys pre:List Int) (m:Nat),ys.length < m→(pre++ys).length≤bp→
    ti k0 (fun _ _ _=>K) m (pre++ys) o (pre.length:Int)=cond (ys.all (cq o)) K (k0 6):=by
 intro ys
 induction ys with
 | nil=>
   intro pre m hm hb
   cases m with
   | zero=>omega
   | succ m=>
     unfold ti
     simp only [ym,yn,yp,yq,yr,yu,sA,dW,aB,kD,cond_true]
 | cons y ys ih=>
   intro pre m hm hb
   cases m with
   | zero=>omega
   | succ m=>
     have hwr:=dX pre ys y hb
     have hgo:=ih (pre++[y]) m (by simpa using hm) (by rw [←bg]; exact hb)
     rw [←bg] at hgo
     unfold ti
     simp only [ym,yn,yp,yq,yr,yu,sA,dJ,cX,cI,if_true,aK,hwr,dq,cq]
     cases h1:decide (y < 0) with
     | true=>simp only [aK,dE,hN,cond_false]
     | false=>
       cases h2:decide (y≥(o.2.1.length:Int)) with
       | true=>simp only [aK,aB,dE,fv,zW,hN,cond_false]
       | false=>simp only [aB,fv,fa]; exact hgo
theorem v61 (o:aO) (l:List Int) (hl:l.length < 2000):fG 2000 o l=some (cond (l.all (cq o)) 0 6):=by
 unfold fG
 have:=ags (R:=Int) some (some 0) o l [] 2000 hl (by unfold bp; simp; omega)
 simp only [cW,dd] at this
 simp only [ym,yn,yp,yq,yr,yu,sA]
 refine dF this ?_
 cases l.all (cq o)<;>rfl
def lE (o:aO) (l:List Int):Int:=cond (oE o != 0) (oE o) (cond (decide ((l.length:Int) > 16)) 3 (cond (l.all (cq o)) 0 6))
theorem v55 (o:aO) (l:List Int) (hl:l.length≤40):fE 2000 o l=some (lE o l):=by
 unfold fE lE
 simp only [KS,Dk,v70,aq]
 cases h:oE o != 0 with
 | true=>rfl
 | false=>
   have ho:oE o=0:=by simpa using h
   cases decide ((l.length:Int) > 16) with
   | true=>rfl
   | false=>
     simp only [aB,cond_false,Yb o l ho (by omega),aq]
     cases l.all (cq o)<;>rfl
theorem afz {o:aO} {l:List Int} (h:lE o l=0):oE o=0∧l.length≤16∧l.all (cq o)=true:=by
 unfold lE at h
 cases h1:oE o != 0 with
 | true=>rw [h1,cond_true] at h; rw [h] at h1; cases h1
 | false=>
   have ho:oE o=0:=by simpa using h1
   rw [h1,cond_false] at h
   cases h2:decide ((l.length:Int) > 16) with
   | true=>rw [h2,cond_true] at h; cases h
   | false=>
     rw [h2,cond_false] at h
     have:=of_decide_eq_false h2
     cases h3:l.all (cq o) with
     | false=>rw [h3] at h; cases h
     | true=>exact ⟨ho,by omega,rfl⟩
theorem aga {R:Type} (K:List UInt8→Option R) (o:aO) (ho:oE o=0):
  ∀ (ys pre:List Int) (m:Nat) (acc:List UInt8),ys.all (cq o)=true→ys.length < m→(pre++ys).length≤1000→acc.length+4 * ys.length≤100000→
    th (fun _ _ a _=>K a) m (pre++ys) o acc (pre.length:Int)=K (acc++eE o ys):=by
 intro ys
 induction ys with
 | nil=>
   intro pre m acc hi hm hb ha
   cases m with
   | zero=>omega
   | succ m=>
     unfold th
     simp only [yk,yg,yh,yi,yj,yl,sx,dW,aB,eE,jk acc]
 | cons y ys ih=>
   intro pre m acc hi hm hb ha
   cases m with
   | zero=>omega
   | succ m=>
     have hwr:=dX pre ys y (by unfold bp; omega)
     simp only [dq,au] at hi
     have hy:=gK.1 hi.1
     have hg:=jW (kA ho hy)
     have hin:(0≤y∧y < (o.2.1.length:Int))=True:=by rw [eq_iff_iff,iff_true]; exact hy
     have hs:o.2.1.getD y.toNat g0=sg o y:=rfl
     have hl:(acc.length+(sg o y).1.length≤140737488355328)=True:=by rw [eq_iff_iff,iff_true]; simp only [dY] at ha; omega
     unfold th
     simp only [yk,yg,yh,yi,yj,yl,sx,dJ,cX,cI,if_true,aK,hwr,hin,hs,hl,eE]
     have:=ih (pre++[y]) m (acc++(sg o y).1) hi.2 (by simpa using hm) (by rw [←bg]; exact hb) (by simp only [b6,dY] at ha ⊢; omega)
     rw [←bg,bK] at this
     exact this
theorem v58 (o:aO) (l:List Int) (ho:oE o=0) (hl:l.length≤1000) (hi:l.all (cq o)=true):fF 2000 o l=some (eE o l):=by
 unfold fF
 have:=aga (R:=List UInt8) some o ho l [] 2000 [] hi (by omega) (by simpa using hl) (by simp; omega)
 simp only [cW,dd] at this
 simp only [yk,yg,yh,yi,yj,yl,sx]
 exact this
theorem agh {R:Type} (K:aO→List Int→Int→Int→List Int→Int→Int→Option R) (o:aO) (a:Int) (i:Int) (L:List Int) (n j:Int):
  ∀ (c d m:Nat) (acc:List Int),c < m→c+d≤1000→acc.length+c≤100000→
    s5 (fun y0 y1 y2 y3 y4 y5 y6 _ _=>K y0 y1 y2 y3 y4 y5 y6) m o acc a i L n j ((d+c:Nat):Int) (d:Int)=K o (acc++gn c a) a i L n j:=by
 intro c
 induction c with
 | zero=>
   intro d m acc hm hb ha
   cases m with
   | zero=>omega
   | succ m=>
     have e:decide ((d:Int) < ((d+0:Nat):Int))=false:=decide_eq_false (by omega)
     unfold s5
     simp only [pB,pt,px,pv,pD,pE,pF,pG,pw,py,pz,pA,pC,g24,e,aB,List.replicate_zero,jk]
 | succ c ih=>
   intro d m acc hm hb ha
   cases m with
   | zero=>omega
   | succ m=>
     have e:decide ((d:Int) < ((d+(c+1):Nat):Int))=true:=decide_eq_true (by omega)
     have hl:(acc.length+[a].length≤17592186044416)=True:=by rw [eq_iff_iff,iff_true]; simp only [gD]; omega
     have hw:IntKind.i64.wrap ((d:Int)+1)=((d+1:Nat):Int):=by rw [gk (by omega)]; simp
     unfold s5
     simp only [pB,pt,px,pv,pD,pE,pF,pG,pw,py,pz,pA,pC,g24,e,aK,hl,if_true,hw]
     have:=ih (d+1) m (acc++[a]) (by omega) (by omega) (by simp; omega)
     rw [show d+1+c=d+(c+1) by omega,bK] at this
     rw [this]
     rfl
theorem agi {R:Type} (K:List Int→Option R) (o:aO) (ho:oE o=0):
  ∀ (ys pre:List Int) (m:Nat) (acc:List Int) (a:Int),ys.all (cq o)=true→ys.length < m→(pre++ys).length≤1000→acc.length+4 * ys.length≤100000→0≤a→a+4 * ys.length≤100000→
    p7 2000 (fun _ a _ _ _ _=>K a) m o acc a (pre++ys) ((pre++ys).length:Int) (pre.length:Int)=K (acc++qi o a ys):=by
 intro ys
 induction ys with
 | nil=>
   intro pre m acc a hi hm hb ha h0 h1
   cases m with
   | zero=>omega
   | succ m=>
     unfold p7
     simp only [pB,pt,px,pv,pD,pE,pF,pG,pw,py,pz,pA,pC,g24,dW,aB,qi,jk acc]
 | cons y ys ih=>
   intro pre m acc a hi hm hb ha h0 h1
   cases m with
   | zero=>omega
   | succ m=>
     have hwr:=dX pre ys y (by unfold bp; omega)
     simp only [dq,au] at hi
     have hy:=gK.1 hi.1
     have hg:=jW (kA ho hy)
     have hin:(0≤y∧y < (o.2.1.length:Int))=True:=by rw [eq_iff_iff,iff_true]; exact hy
     have hs:o.2.1.getD y.toNat g0=sg o y:=rfl
     simp only [dY] at ha h1
     have hw:IntKind.i64.wrap (a+((sg o y).1.length:Int))=a+((sg o y).1.length:Int):=gk (by omega)
     have hI:=agh (R:=R) (fun y0 y1 y2 y3 y4 y5 y6=>if 0≤y3∧y3 < (y0.2.1.length:Int) then p7 2000 (fun _ a _ _ _ _=>K a) m y0 y1 (IntKind.i64.wrap (y2+(((y0.2.1.getD y3.toNat g0).1).length:Int))) y4 y5 (IntKind.i64.wrap (y6+(1:Int))) else none) o a y (pre++y::ys) ((pre++y::ys).length:Int) (pre.length:Int) (sg o y).2.1.length 0 2000 acc (by omega) (by omega) (by omega)
     simp only [lf] at hI
     have z:((0:Nat):Int)=0:=rfl
     rw [z] at hI
     unfold p7
     simp only [pB,pt,px,pv,pD,pE,pF,pG,pw,py,pz,pA,pC,g24,dJ,cX,cI,if_true,aK,hin,hs]
     refine dF hI ?_
     simp only [hin,if_true,hs,hw,hwr,qi]
     have:=ih (pre++[y]) m (acc++gn (sg o y).2.1.length a) (a+((sg o y).1.length:Int)) hi.2 (by simpa using hm) (by rw [←bg]; exact hb) (by simp only [b6,MQ]; omega) (by omega) (by omega)
     rw [←bg,bK] at this
     exact this
theorem v24 (o:aO) (l:List Int) (hl:l.length≤40):gQ 2000 o l=some (cond (lE o l != 0) ([],lE o l) (qi o 0 l,0)):=by
 unfold gQ
 simp only [pB,pt,px,pv,pD,pE,pF,pG,pw,py,pz,pA,pC,g24,v55 o l hl,aq]
 cases h:lE o l != 0 with
 | true=>rfl
 | false=>
   obtain ⟨ho,h16,hi⟩:=afz (by simpa using h)
   have:=agi (R:=List Int×Int) (fun a=>some (a,0)) o ho l [] 2000 [] 0 hi (by omega) (by simp; omega) (by simp; omega) (by omega) (by omega)
   simp only [cW,dd] at this
   exact this
theorem afT {R:Type} (k0:Bool→Option R) (K:Option R):
  ∀ (ys pre zs pre2:List Int) (m:Nat),ys.length < m→(pre++ys).length≤bp→pre.length=pre2.length→ys.length=zs.length→
    s3 k0 (fun _ _ _ _=>K) m (pre++ys) (pre2++zs) ((pre++ys).length:Int) (pre.length:Int)=ad (ys==zs) K (k0 false):=by
 intro ys
 induction ys with
 | nil=>
   intro pre zs pre2 m hm hb hp hz
   have:zs=[]:=kG.1 hz.symm
   subst this
   cases m with
   | zero=>omega
   | succ m=>
     unfold s3
     simp only [wJ,wF,wG,wH,wI,wK,g15,dW,aB]
     rfl
 | cons y ys ih=>
   intro pre zs pre2 m hm hb hp hz
   obtain ⟨z,zs,rfl⟩:∃ z zs',zs=z::zs':=by
    cases zs with
    | nil=>simp at hz
    | cons z zs=>exact ⟨z,zs,rfl⟩
   cases m with
   | zero=>omega
   | succ m=>
     have hwr:=dX pre ys y hb
     have i2:(0≤(pre.length:Int)∧(pre.length:Int) < ((pre2++z::zs).length:Int))=True:=by rw [hp]; exact cX _ _ _
     have a2:(pre2++z::zs).getD (eI (pre.length:Int)) (0:Int)=z:=by rw [hp]; exact cI _ _ _ _
     have e:((y::ys)==(z::zs))=(y==z&&ys==zs):=rfl
     unfold s3
     simp only [wJ,wF,wG,wH,wI,wK,g15,dJ,cX,cI,if_true,aK,hwr,i2,a2,e]
     cases h:y==z with
     | false=>
       have:(y != z)=true:=by unfold bne; rw [h]; rfl
       simp only [this,aK,hN,aB]
     | true=>
       have:(y != z)=false:=by unfold bne; rw [h]; rfl
       simp only [this,aB,fa]
       rw [bg pre ys y,bg pre2 zs z]
       exact ih (pre++[y]) zs (pre2++[z]) m (by simpa using hm) (by rw [←bg]; exact hb) (by simp [hp]) (by simpa using hz)
theorem v15 (a b:List Int) (h:a.length < 2000):gP 2000 a b=some (a==b):=by
 unfold gP
 simp only [wJ,wF,wG,wH,wI,wK,g15]
 by_cases hl:a.length=b.length
 ·have e:((a.length:Int) != (b.length:Int))=false:=by simp [hl]
  have:=afT (R:=Bool) some (some true) a [] b [] 2000 h (by unfold bp; simp; omega) rfl hl
  simp only [cW,dd] at this
  simp only [e,aB]
  refine dF this ?_
  cases a==b<;>rfl
 ·have e:((a.length:Int) != (b.length:Int))=true:=bne_iff_ne.2 (by omega)
  simp only [e,aK]
  have:(a==b)=false:=beq_eq_false_iff_ne.2 fun e=>hl (congrArg kF e)
  rw [this]
theorem ahF {o:aO} (h:oE o=0):∀ {l:List Int} {a:Int},l.all (cq o)=true→(qi o a l).length=(tL o l).length
 | [],_,_=>rfl
 | i::r,a,hl=>by
   simp only [dq,au] at hl
   simp only [qi,tL,b6,MQ,ahF h hl.2]
def mR:List bO→Bool
 | []=>false
 | s::_=>gL s
def en (l:List bO):Bool:=match l.getLast? with | none=>false | some s=>gL s
def pj (w:Int) (bf af:List bO):Bool:=cond (w==0) true (cond (w==1) (mR af) (cond (w==2) (mR af&&(bf.length:Int)==0) (cond (w==3) (mR af&&en bf) (cond (w==4) (!mR af) false))))
def fJ (o:aO) (i:Int) (bf af:List bO):Bool:=cq o i&&pj (sg o i).2.2.2.1 bf af
theorem S0 (l:List bO) (s:bO):en (l++[s])=gL s:=by unfold en; simp
theorem avy (w:Int) (bf af af2:List bO) (h:mR af=mR af2):pj w bf af=pj w bf af2:=by unfold pj; rw [h]
theorem v60 (o:aO) (i:Int) (bf af:List bO) (hb:bf.length≤bp):aS 2000 o i bf af=some (fJ o i bf af):=by
 unfold aS fJ cq
 simp only [KU,KV,KW,KX,KY,sz,v87,aq]
 cases h1:decide (i < 0) with
 | true=>rfl
 | false=>
   cases h2:decide (i≥(o.2.1.length:Int)) with
   | true=>rfl
   | false=>
     have e1:=of_decide_eq_false h1
     have e2:=of_decide_eq_false h2
     have hin:(0≤i∧i < (o.2.1.length:Int))=True:=by rw [eq_iff_iff,iff_true]; omega
     have hs:o.2.1.getD i.toNat g0=sg o i:=rfl
     have key:∀ b:Bool,mR af=b→(ad ((sg o i).2.2.2.1==(0:Int)) (some true) (ad ((sg o i).2.2.2.1==(1:Int)) (some b) (ad ((sg o i).2.2.2.1==(2:Int)) (ad b (some ((bf.length:Int)==(0:Int))) (some false)) (ad ((sg o i).2.2.2.1==(3:Int)) (ad b (ad (decide ((bf.length:Int) > (0:Int)))
       (if 0≤IntKind.i64.wrap ((bf.length:Int) - 1)∧IntKind.i64.wrap ((bf.length:Int) - 1) < (bf.length:Int) then some (gL (bf.getD (IntKind.i64.wrap ((bf.length:Int) - 1)).toNat s0)) else none) (some false)) (some false)) (ad ((sg o i).2.2.2.1==(4:Int)) (some (!b)) (some false))))))=some (!false&&!false&&pj (sg o i).2.2.2.1 bf af):=by
      intro b hbb
      have hl:(ad (decide ((bf.length:Int) > (0:Int))) (if 0≤IntKind.i64.wrap ((bf.length:Int) - 1)∧IntKind.i64.wrap ((bf.length:Int) - 1) < (bf.length:Int) then some (gL (bf.getD (IntKind.i64.wrap ((bf.length:Int) - 1)).toNat s0)) else none) (some false))=some (en bf):=by
       rcases tZ bf with h | ⟨l,s,h⟩
       ·subst h; rfl
       ·rw [tY] at h
        subst h
        have hlen:l.length < bp:=by simp at hb; omega
        have w:IntKind.i64.wrap (((l++[s]).length:Int) - 1)=(l.length:Int):=by
         have:((l++[s]).length:Int) - 1=(l.length:Int):=by simp
         rw [this]; exact gk (by unfold bp at hlen; omega)
        have d:decide (((l++[s]).length:Int) > 0)=true:=decide_eq_true (by simp only [b6,gD]; omega)
        have c:(0≤(l.length:Int)∧(l.length:Int) < ((l++[s]).length:Int))=True:=by rw [eq_iff_iff,iff_true]; simp only [b6,gD]; omega
        rw [w,d,S0]
        simp only [c,if_true,aK]
        simp
      rw [hl]
      unfold pj
      rw [hbb]
      cases (sg o i).2.2.2.1==(0:Int)<;>cases (sg o i).2.2.2.1==(1:Int)<;>cases (sg o i).2.2.2.1==(2:Int)<;>cases (sg o i).2.2.2.1==(3:Int)<;>cases (sg o i).2.2.2.1==(4:Int)<;>cases b<;>rfl
     simp only [aB,hin,if_true,hs]
     cases af with
     | nil=>
       have d:decide ((([]:List bO).length:Int) > 0)=false:=rfl
       simp only [d,aB]
       exact key false rfl
     | cons s af=>
       have d:decide (((s::af).length:Int) > 0)=true:=decide_eq_true (by simp only [dY]; omega)
       have c:(0≤(0:Int)∧(0:Int) < ((s::af).length:Int))=True:=by rw [eq_iff_iff,iff_true]; simp only [dY]; omega
       simp only [d,aK,c,if_true]
       exact key (gL s) rfl
def eV (o:aO) (i:Int):List bO:=cond (decide (i < 0)) [] (sg o i).2.1
abbrev Nd:Type:=Int×(Int×(Int×Unit))
abbrev jS:Type:=aO×(List UInt8×(List (Nd×Int)×Unit))
theorem Yc (x:jS) (i:Int) (h:i < (x.1.2.1.length:Int)):bD 2000 x i=some (eV x.1 i):=by
 unfold bD eV
 simp only [K4,sJ]
 cases h1:decide (i < 0) with
 | true=>rfl
 | false=>
   have e1:=of_decide_eq_false h1
   have hin:(0≤i∧i < (x.1.2.1.length:Int))=True:=by rw [eq_iff_iff,iff_true]; omega
   simp only [aB,hin,if_true]
   rfl
theorem XO {o:aO} (ho:oE o=0) (i:Int) (h:i < (o.2.1.length:Int)):(eV o i).length≤2:=by
 unfold eV
 cases h1:decide (i < 0) with
 | true=>simp
 | false=>exact (jW (kA ho ⟨by have:=of_decide_eq_false h1; omega,h⟩)).1
def pf (s t:List UInt8):Bool:=decide ((s.length:Int)≥(t.length:Int))&&(s.take t.length==t)
theorem v54 (s t:List UInt8):aV 2000 s t=some (pf s t):=by
 unfold aV
 simp only [KR,sv]
 unfold eW pf
 simp only [K6,sL]
 cases h:decide ((s.length:Int)≥(t.length:Int)) with
 | false=>rfl
 | true=>
   have:=of_decide_eq_true h
   have c:(0≤(0:Int)∧(0:Int)≤(t.length:Int)∧(t.length:Int)≤(s.length:Int))=True:=by rw [eq_iff_iff,iff_true]; omega
   simp only [aK,c,if_true,aq,fa]
   simp
theorem Mm {s t:List UInt8}:pf s t=true↔∃ r,s=t++r:=by
 unfold pf
 rw [au,decide_eq_true_iff,beq_iff_eq]
 constructor
 ·rintro ⟨_,h⟩
  exact ⟨s.drop t.length,by rw [←h]; conv=>lhs; rw [←List.take_append_drop t.length s]
                            simp [h]⟩
 ·rintro ⟨r,rfl⟩
  simp; omega
def jH (o:aO) (w:List UInt8) (n:Nd) (s:dh):Bool:=pf (w.drop n.2.2.1.toNat) s.1&&(decide (n.2.1 < 0) || fJ o n.2.1 (eV o n.1) s.2.1)
def oD (n:Nd) (i:Int) (s:dh):Nd:=(n.2.1,(i,(n.2.2.1+(s.1.length:Int),())))
def ea (o:aO) (w:List UInt8) (n:Nd):List dh→Int→List Nd
 | [],_=> []
 | s::r,i=>cond (jH o w n s) (oD n i s::ea o w n r (i+1)) (ea o w n r (i+1))
structure Ok (o:aO) (w:List UInt8) (n:Nd):Prop where
 b:n.1 < (o.2.1.length:Int)
 s:n.2.1 < (o.2.1.length:Int)
 e0:0≤n.2.2.1
 e1:n.2.2.1≤(w.length:Int)
theorem agf {R:Type} (K:List Nd→Option R) (x:jS) (ho:oE x.1=0) (hw:x.2.1.length≤100) (n:Nd) (hn:Ok x.1 x.2.1 n):
  ∀ (ys pre:List dh) (m:Nat) (acc:List Nd),ys.length < m→(pre++ys).length≤120→acc.length≤pre.length→(∀ s∈ys,s.1.length≤4)→
    qb (aV 2000) (aS 2000) (bD 2000) (fun _ _ a _ _ _=>K a) m x n acc (pre++ys) ((pre++ys).length:Int) (pre.length:Int)=K (acc++ea x.1 x.2.1 n ys (pre.length:Int)):=by
 intro ys
 induction ys with
 | nil=>
   intro pre m acc hm hb ha hy
   cases m with
   | zero=>omega
   | succ m=>
     unfold qb
     simp only [yM,yI,yJ,yK,yL,yN,od,dW,aB,ea,jk acc]
 | cons y ys ih=>
   intro pre m acc hm hb ha hy
   cases m with
   | zero=>omega
   | succ m=>
     have hwr:=dX pre ys y (by unfold bp; omega)
     have hl:((pre++[y]).length:Int)=(pre.length:Int)+1:=by simp
     have hbp:pre.length < 120:=by simp at hb; omega
     have hy4:=hy y (by simp)
     have hgo:∀ a:List Nd,a.length≤pre.length+1→qb (aV 2000) (aS 2000) (bD 2000) (fun _ _ a _ _ _=>K a) m x n a (pre++y::ys) ((pre++y::ys).length:Int) ((pre++[y]).length:Int)=K (a++ea x.1 x.2.1 n ys ((pre.length:Int)+1)):=by
      intro a h
      have:=ih (pre++[y]) m a (by simpa using hm) (by rw [←bg]; exact hb) (by simpa using h) (fun s hs=>hy s (fk _ hs))
      rw [←bg,hl] at this
      rw [hl]; exact this
     have he0:=hn.e0; have he1:=hn.e1
     have c:(0≤n.2.2.1∧n.2.2.1≤(x.2.1.length:Int)∧(x.2.1.length:Int)≤(x.2.1.length:Int))=True:=by rw [eq_iff_iff,iff_true]; omega
     have ht:(x.2.1.drop n.2.2.1.toNat).take ((x.2.1.length:Int).toNat - n.2.2.1.toNat)=x.2.1.drop n.2.2.1.toNat:=by
      apply List.take_of_length_le; rw [oH]; omega
     have hwe:IntKind.i64.wrap (n.2.2.1+(y.1.length:Int))=n.2.2.1+(y.1.length:Int):=gk (by omega)
     have hla:∀ z:Nd,(acc.length+[z].length≤5864062014805)=True:=by intro z; rw [eq_iff_iff,iff_true]; simp only [gD]; omega
     have hto:((n.2.1,((pre.length:Int),(n.2.2.1+(y.1.length:Int),()))):Nd)=oD n (pre.length:Int) y:=rfl
     have hyes:K ((acc++[oD n (pre.length:Int) y])++ea x.1 x.2.1 n ys ((pre.length:Int)+1))=K (acc++oD n (pre.length:Int) y::ea x.1 x.2.1 n ys ((pre.length:Int)+1)):=by rw [bK]; rfl
     unfold qb
     simp only [yM,yI,yJ,yK,yL,yN,od,dJ,cX,cI,if_true,aK,hwr,c,ht,v54,aq,hwe,hla,hto,ea,jH]
     cases h1:pf (x.2.1.drop n.2.2.1.toNat) y.1 with
     | false=>simp only [aB,hN,cond_false]; exact hgo acc (by omega)
     | true=>
       simp only [aK,fa]
       cases h2:decide (n.2.1 < 0) with
       | true=>
         simp only [aK,tS,cond_true]
         exact (hgo _ (by simp; omega)).trans hyes
       | false=>
         simp only [aB,nr,Yc x n.1 hn.b,aq,v60 x.1 n.2.1 (eV x.1 n.1) y.2.1 (by have:=XO ho n.1 hn.b; unfold bp; omega)]
         cases h3:fJ x.1 n.2.1 (eV x.1 n.1) y.2.1 with
         | false=>simp only [aB,cond_false]; exact hgo acc (by omega)
         | true=>
           simp only [aK,cond_true]
           exact (hgo _ (by simp; omega)).trans hyes
theorem Yd (x:jS) (ho:oE x.1=0) (hw:x.2.1.length≤100) (n:Nd) (hn:Ok x.1 x.2.1 n):cy 2000 x n=some (ea x.1 x.2.1 n x.1.2.1 0):=by
 unfold cy
 have h120:=(tw ho).2.1
 have:=agf (R:=List Nd) some x ho hw n hn x.1.2.1 [] 2000 [] (by omega) (by simpa using h120) (by simp) (fun s hs=>(jW ((tw ho).1 s hs)).2.2.2)
 simp only [cW,dd] at this
 simp only [yM,yI,yJ,yK,yL,yN,od]
 exact this
theorem Mb {o:aO} {w:List UInt8} {n m:Nd} (ho:oE o=0) (hn:Ok o w n):∀ (ys pre:List dh),o.2.1=pre++ys→m∈ea o w n ys (pre.length:Int)→
  m.1=n.2.1∧0≤m.2.1∧m.2.1 < (o.2.1.length:Int)∧n.2.2.1 < m.2.2.1∧m.2.2.1≤(w.length:Int)∧m.2.2.1=n.2.2.1+((sg o m.2.1).1.length:Int)∧jH o w n (sg o m.2.1)=true
 | [],_,_,h=>absurd h (by simp [ea])
 | y::ys,pre,hl,h=>by
   have hgo:=Mb (m:=m) ho hn ys (pre++[y]) (by rw [hl,bg])
   have hlen:((pre++[y]).length:Int)=(pre.length:Int)+1:=by simp
   rw [hlen] at hgo
   unfold ea at h
   cases hk:jH o w n y with
   | false=>rw [hk,cond_false] at h; exact hgo h
   | true=>
     rw [hk,cond_true] at h
     rcases cV.1 h with h | h
     ·subst h
      have hsg:sg o (pre.length:Int)=y:=by unfold sg; rw [hl]; exact cI _ _ _ _
      have hmem:y∈o.2.1:=by rw [hl]; simp
      have hg:=jW ((tw ho).1 y hmem)
      have hpos:0 < y.1.length:=Aa.2 hg.2.2.1
      have hkk:=hk
      unfold jH at hk
      simp only [au] at hk
      obtain ⟨r,hr⟩:=Mm.1 hk.1
      have h1:=congrArg kF hr
      simp only [oH,b6] at h1
      have he0:=hn.e0; have he1:=hn.e1
      refine ⟨rfl,by show 0≤(pre.length:Int); omega,by show (pre.length:Int) < _; rw [hl]; simp only [b6,dY]; omega,by show n.2.2.1 < n.2.2.1+(y.1.length:Int); omega,by show n.2.2.1+(y.1.length:Int)≤_; omega,by show n.2.2.1+(y.1.length:Int)=n.2.2.1+((sg o (pre.length:Int)).1.length:Int); rw [hsg],by show jH o w n (sg o (pre.length:Int))=true; rw [hsg]; exact hkk⟩
     ·exact hgo h
theorem ahE {o:aO} {w:List UInt8} {n m:Nd} (ho:oE o=0) (hn:Ok o w n) (h:m∈ea o w n o.2.1 0):Ok o w m∧n.2.2.1 < m.2.2.1∧0≤m.2.1:=by
 have:=Mb ho hn o.2.1 [] rfl h
 have he0:=hn.e0
 exact ⟨⟨by rw [this.1]; exact hn.s,this.2.2.1,by omega,this.2.2.2.2.1⟩,this.2.2.2.1,this.2.1⟩
def wy (o:aO) (w:List UInt8):Nat→Nd→List (List Int)
 | 0,_=> []
 | f+1,n=>cond (n.2.2.1==(w.length:Int)) (cond (decide (n.2.1≥0)&&fJ o n.2.1 (eV o n.1) []) [[]] []) ((ea o w n o.2.1 0).flatMap fun m=>(wy o w f m).map (m.2.1:: ·))
def rm (w:List UInt8) (n:Nd):Nat:=((w.length:Int) - n.2.2.1).toNat
def ways (o:aO) (w:List UInt8) (n:Nd):List (List Int):=wy o w (rm w n+1) n
theorem nk {o:aO} {w:List UInt8} {n m:Nd} (ho:oE o=0) (hn:Ok o w n) (h:m∈ea o w n o.2.1 0):Ok o w m∧rm w m < rm w n∧0≤m.2.1:=by
 have h1:=ahE ho hn h
 have:=h1.1.e1; have:=h1.2.1
 exact ⟨h1.1,by unfold rm; omega,h1.2.2⟩
theorem Tc {α β:Type} {l:List α} {f g:α→List β} (h:∀ x∈l,f x=g x):l.flatMap f=l.flatMap g:=by
 induction l with
 | nil=>rfl
 | cons x l ih=>rw [z7,z7,h x (by simp),ih (fun y hy=>h y (fk _ hy))]
theorem Yk {o:aO} {w:List UInt8} (ho:oE o=0):∀ (f f':Nat) (n:Nd),Ok o w n→rm w n < f→rm w n < f'→wy o w f n=wy o w f' n
 | 0,_,_,_,h,_=>by omega
 | _+1,0,_,_,_,h=>by omega
 | f+1,f'+1,n,hn,h1,h2=>by
   unfold wy
   rw [Tc fun m hm=>by
    have h3:=nk ho hn hm
    rw [Yk ho f f' m h3.1 (by omega) (by omega)]]
theorem Mz {o:aO} {w:List UInt8} {n:Nd} (h:(n.2.2.1==(w.length:Int))=true):ways o w n=cond (decide (n.2.1≥0)&&fJ o n.2.1 (eV o n.1) []) [[]] []:=by
 unfold ways wy; rw [h,cond_true]
theorem Ec {o:aO} {w:List UInt8} {n:Nd} (ho:oE o=0) (hn:Ok o w n) (h:(n.2.2.1==(w.length:Int))=false):ways o w n=(ea o w n o.2.1 0).flatMap fun m=>(ways o w m).map (m.2.1:: ·):=by
 have h0:ways o w n=wy o w (rm w n+1) n:=rfl
 rw [h0]
 unfold wy; rw [h,cond_false]
 refine Tc fun m hm=>?_
 have h3:=nk ho hn hm
 have h4:ways o w m=wy o w (rm w m+1) m:=rfl
 rw [h4,Yk ho (rm w n) (rm w m+1) m h3.1 (by omega) (by omega)]
theorem MD {o:aO} {w:List UInt8} (ho:oE o=0):∀ (f:Nat) (n:Nd),Ok o w n→∀ l∈wy o w f n,l.length≤rm w n
 | 0,_,_,l,h=>absurd h (by simp [wy])
 | f+1,n,hn,l,h=>by
   unfold wy at h
   cases he:n.2.2.1==(w.length:Int) with
   | true=>
     rw [he,cond_true] at h
     cases hf:decide (n.2.1≥0)&&fJ o n.2.1 (eV o n.1) [] with
     | true=>rw [hf,cond_true] at h; rw [iR.1 h]; simp
     | false=>rw [hf,cond_false] at h; cases h
   | false=>
     rw [he,cond_false] at h
     obtain ⟨m,hm,h2⟩:=Ep.1 h
     obtain ⟨l',hl',rfl⟩:=dt.1 h2
     have h3:=nk ho hn hm
     have:=MD ho f m h3.1 l' hl'
     simp only [dY]; omega
def cn (o:aO) (w:List UInt8) (n:Nd):Int:=((min 201 (ways o w n).length:Nat):Int)
abbrev mg (a b:Nd):Bool:=(a.1==b.1)&&((a.2.1==b.2.1)&&((a.2.2.1==b.2.2.1)&&true))
theorem Zb {a b:Nd} (h:mg a b=true):a=b:=by
 obtain ⟨a1,a2,a3,a4⟩:=a; obtain ⟨b1,b2,b3,b4⟩:=b
 simp only [mg,gO,au,beq_iff_eq] at h
 obtain ⟨h1,h2,h3⟩:=h
 subst h1; subst h2; subst h3; rfl
def Inv (o:aO) (w:List UInt8) (mp:List (Nd×Int)):Prop:=∀ p∈mp,p.2=cn o w p.1
theorem W2 {o:aO} {w:List UInt8} {k:Nd}:∀ {mp:List (Nd×Int)},Inv o w mp→(iI mg 0 mp k).2=true→(iI mg 0 mp k).1=cn o w k
 | [],_,h=>by simp [iI] at h
 | e::r,hI,h=>by
   unfold iI at h ⊢
   cases he:mg k e.1 with
   | true=>
     simp only [he]
     rw [Zb he]
     exact hI e (by simp)
   | false=>
     simp only [he] at h ⊢
     exact W2 (fun p hp=>hI p (fk _ hp)) h
theorem W4 {o:aO} {w:List UInt8} {k:Nd}:∀ {mp:List (Nd×Int)},Inv o w mp→Inv o w (jf mg mp k (cn o w k))
 | [],_,p,hp=>by
   simp only [jf,iR] at hp
   rw [hp]
 | e::r,hI,p,hp=>by
   unfold jf at hp
   cases he:mg k e.1 with
   | true=>
     simp only [he] at hp
     rcases cV.1 hp with h | h
     ·rw [h]
     ·exact hI p (fk _ h)
   | false=>
     simp only [he] at hp
     rcases cV.1 hp with h | h
     ·rw [h]; exact hI e (by simp)
     ·exact W4 (fun p hp=>hI p (fk _ hp)) p h
def kX (o:aO) (w:List UInt8):List Nd→Nat
 | []=>0
 | m::r=>(ways o w m).length+kX o w r
theorem Mx (o:aO) (w:List UInt8):∀ l:List Nd,(l.flatMap fun m=>(ways o w m).map (m.2.1:: ·)).length=kX o w l
 | []=>rfl
 | m::r=>by rw [z7,b6,nv,Mx o w r]; rfl
theorem sat (s c:Nat):(if (201:Int) < ((min 201 s:Nat):Int)+((min 201 c:Nat):Int) then (201:Int) else ((min 201 s:Nat):Int)+((min 201 c:Nat):Int))=((min 201 (s+c):Nat):Int):=by
 split<;>omega
theorem agt {R:Type} (F:jS→Nd→Option (jS×Int)) (o:aO) (w:List UInt8) (n:Nd) (k0:jS→Nd→Int→Option R):
  ∀ (ys pre:List Nd) (M:Nat) (mp:List (Nd×Int)) (s:Nat),ys.length < M→(pre++ys).length≤1000→Inv o w mp→
    (∀ y∈ys,∀ mp,Inv o w mp→∃ mp',Inv o w mp'∧F (o,(w,(mp,()))) y=some ((o,(w,(mp',()))),cn o w y))→
    ∃ mp',Inv o w mp'∧tc F (fun y0 y1 y2 _ _ _=>k0 y0 y1 y2) M (o,(w,(mp,()))) n ((min 201 s:Nat):Int) (pre++ys) ((pre++ys).length:Int) (pre.length:Int)=k0 (o,(w,(mp',()))) n ((min 201 (s+kX o w ys):Nat):Int):=by
 intro ys
 induction ys with
 | nil=>
   intro pre M mp s hM hb hI hF
   cases M with
   | zero=>omega
   | succ M=>
     refine ⟨mp,hI,?_⟩
     unfold tc
     simp only [xM,xI,xJ,xK,xL,xN,sh,dW,aB,kX,Nat.add_zero]
 | cons y ys ih=>
   intro pre M mp s hM hb hI hF
   cases M with
   | zero=>omega
   | succ M=>
     have hwr:=dX pre ys y (by unfold bp; omega)
     have hl:(eI (pre.length:Int) < (pre++y::ys).length)=True:=tu pre ys y
     obtain ⟨mp1,hI1,h1⟩:=hF y (by simp) mp hI
     obtain ⟨mp2,hI2,h2⟩:=ih (pre++[y]) M mp1 (s+(ways o w y).length) (by simpa using hM) (by rw [←bg]; exact hb) hI1 (fun z hz=>hF z (fk _ hz))
     rw [←bg] at h2
     refine ⟨mp2,hI2,?_⟩
     have hc:cn o w y=((min 201 (ways o w y).length:Nat):Int):=rfl
     have hw:IntKind.i64.wrap (((min 201 s:Nat):Int)+cn o w y)=((min 201 s:Nat):Int)+cn o w y:=gk (by rw [hc]; omega)
     unfold tc
     simp only [xM,xI,xJ,xK,xL,xN,sh,dJ,cX,cI,if_true,aK,hl,h1,aq,hw,hwr]
     rw [hc,sat]
     refine dF h2 ?_
     rw [show kX o w (y::ys)=(ways o w y).length+kX o w ys from rfl,Nat.add_assoc]
theorem Ma (o:aO) (w:List UInt8) (n:Nd):∀ (ys:List dh) (i:Int),(ea o w n ys i).length≤ys.length
 | [],_=>by simp [ea]
 | y::ys,i=>by
   have:=Ma o w n ys (i+1)
   unfold ea
   cases jH o w n y<;>simp only [cond_true,cond_false,dY]<;>omega
theorem afM {o:aO} {w:List UInt8} (ho:oE o=0) (hw:w.length≤100):∀ (m:Nat) (n:Nd) (mp:List (Nd×Int)),Ok o w n→rm w n < m→Inv o w mp→
  ∃ mp',Inv o w mp'∧nz 2000 m (o,(w,(mp,()))) n=some ((o,(w,(mp',()))),cn o w n):=by
 intro m
 induction m with
 | zero=>intro n mp hn hm; omega
 | succ m ih=>
   intro n mp hn hm hI
   unfold nz
   simp only [xM,xI,xJ,xK,xL,xN,sh]
   cases he:n.2.2.1==(w.length:Int) with
   | true=>
     refine ⟨mp,hI,?_⟩
     have hc:cn o w n=cond (decide (n.2.1≥0)&&fJ o n.2.1 (eV o n.1) []) 1 0:=by
      unfold cn; rw [Mz he]
      cases decide (n.2.1≥0)&&fJ o n.2.1 (eV o n.1) []<;>rfl
     rw [hc]
     simp only [aK]
     cases hd:decide (n.2.1≥0) with
     | false=>rfl
     | true=>
       simp only [aK,Yc (o,(w,(mp,()))) n.1 hn.b,aq,v60 o n.2.1 (eV o n.1) [] (by have:=XO ho n.1 hn.b; unfold bp; omega),fa]
       cases fJ o n.2.1 (eV o n.1) []<;>rfl
   | false=>
     simp only [aB]
     have hg:=W2 (k:=n) hI
     have hdef:iI (fun a b:Nd=>(a.1==b.1)&&((a.2.1==b.2.1)&&((a.2.2.1==b.2.2.1)&&true))) (0:Int) mp n=iI mg 0 mp n:=rfl
     rw [hdef]
     cases hb:(iI mg 0 mp n).2 with
     | true=>
       refine ⟨mp,hI,?_⟩
       rw [hg hb]
       rfl
     | false=>
       have hnx:=Yd (o,(w,(mp,()))) ho hw n hn
       simp only at hnx
       have h120:=(tw ho).2.1
       have hnl:=Ma o w n o.2.1 0
       obtain ⟨mp1,hI1,h1⟩:=agt (R:=jS×Int) (nz 2000 m) o w n (fun x0 x1 x2=>some ((x0.1,(x0.2.1,((jf (fun a b:Nd=>((a.1==b.1)&&((a.2.1==b.2.1)&&((a.2.2.1==b.2.2.1)&&true)))) x0.2.2.1 x1 x2),x0.2.2.2))),x2)) (ea o w n o.2.1 0) [] 2000 mp 0 (by omega) (by simp; omega) hI (fun y hy mp hI=>by
        have h3:=nk ho hn hy
        exact ih y mp h3.1 (by omega) hI)
       have hcn:((min 201 (0+kX o w (ea o w n o.2.1 0)):Nat):Int)=cn o w n:=by
        unfold cn; rw [Ec ho hn he,Mx,lf]
       simp only [cW,dd] at h1
       rw [hcn] at h1
       refine ⟨jf mg mp1 n (cn o w n),W4 hI1,?_⟩
       simp only [aB,hnx,aq]
       exact h1
theorem Yg {o:aO} {w:List UInt8} (ho:oE o=0) (hw:w.length≤100) (n:Nd) (mp:List (Nd×Int)) (hn:Ok o w n) (hI:Inv o w mp):
  ∃ mp',Inv o w mp'∧aY 2000 (o,(w,(mp,()))) n=some ((o,(w,(mp',()))),cn o w n):=by
 unfold aY
 have h0:=hn.e0
 exact afM ho hw 250 n mp hn (by unfold rm; omega) hI
def al (o:aO) (w:List UInt8) (n:Nd):List (List Int):=cond (n.2.2.1==(w.length:Int)) [[]] (ways o w n)
theorem M1 {o:aO} {w:List UInt8} {n:Nd} (h:ways o w n≠[]):al o w n=ways o w n:=by
 unfold al
 cases he:n.2.2.1==(w.length:Int) with
 | false=>rfl
 | true=>
   rw [Mz he] at h ⊢
   cases hf:decide (n.2.1≥0)&&fJ o n.2.1 (eV o n.1) [] with
   | true=>rfl
   | false=>rw [hf] at h; exact absurd rfl h
theorem agp {R:Type} (K:jS→List (List Int)→List Nd→Int→Int→Option R) (x:jS) (n:Nd) (L:List Nd) (a b:Int):
  ∀ (ys pre:List (List Int)) (m:Nat) (acc:List (List Int)),ys.length < m→(pre++ys).length≤1000→acc.length+ys.length≤100000→(∀ l∈ys,l.length≤1000)→
    td (fun y0 y1 _ y3 y4 y5 _ _ _=>K y0 y1 y3 y4 y5) m x acc n L a b (pre++ys) ((pre++ys).length:Int) (pre.length:Int)=K x (acc++ys.map (n.2.1:: ·)) L a b:=by
 intro ys
 induction ys with
 | nil=>
   intro pre m acc hm hb ha hy
   cases m with
   | zero=>omega
   | succ m=>
     unfold td
     simp only [nV,nS,n7,nY,nT,nX,nZ,n0,n8,n9,nU,nW,nc,dW,aB,qF,jk acc]
 | cons y ys ih=>
   intro pre m acc hm hb ha hy
   cases m with
   | zero=>omega
   | succ m=>
     have hwr:=dX pre ys y (by unfold bp; omega)
     have hl:(eI (pre.length:Int) < (pre++y::ys).length)=True:=tu pre ys y
     have hy1:=hy y (by simp)
     simp only [dY] at ha
     have c1:([n.2.1].length+y.length≤17592186044416)=True:=by rw [eq_iff_iff,iff_true]; simp only [gD]; omega
     have c2:(acc.length+[[n.2.1]++y].length≤5864062014805)=True:=by rw [eq_iff_iff,iff_true]; simp only [gD]; omega
     unfold td
     simp only [nV,nS,n7,nY,nT,nX,nZ,n0,n8,n9,nU,nW,nc,dJ,cX,cI,if_true,aK,hwr,hl,c1,c2,fU]
     have:=ih (pre++[y]) m (acc++[[n.2.1]++y]) (by simpa using hm) (by rw [←bg]; exact hb) (by simp only [b6,gD]; omega) (fun l hl=>hy l (fk _ hl))
     rw [←bg,bK] at this
     exact this
theorem afB {R:Type} (F:jS→Nd→Option (jS×List (List Int))) {o:aO} {w:List UInt8} (ho:oE o=0) (hw:w.length≤100) (K:jS→List (List Int)→Option R):
  ∀ (ys pre:List Nd) (M:Nat) (mp:List (Nd×Int)) (acc:List (List Int)),ys.length < M→(pre++ys).length≤1000→Inv o w mp→(∀ y∈ys,Ok o w y)→acc.length+kX o w ys≤200→
    (∀ y∈ys,∀ mp,Inv o w mp→(ways o w y).length≤200→∃ mp',Inv o w mp'∧F (o,(w,(mp,()))) y=some ((o,(w,(mp',()))),al o w y))→
    ∃ mp',Inv o w mp'∧oe 2000 (aY 2000) F (fun y0 y1 _ _ _=>K y0 y1) M (o,(w,(mp,()))) acc (pre++ys) ((pre++ys).length:Int) (pre.length:Int)=K (o,(w,(mp',()))) (acc++ys.flatMap fun m=>(ways o w m).map (m.2.1:: ·)):=by
 intro ys
 induction ys with
 | nil=>
   intro pre M mp acc hM hb hI hO ha hF
   cases M with
   | zero=>omega
   | succ M=>
     refine ⟨mp,hI,?_⟩
     unfold oe
     simp only [nV,nS,n7,nY,nT,nX,nZ,n0,n8,n9,nU,nW,nc,dW,aB,List.flatMap_nil,jk acc]
 | cons y ys ih=>
   intro pre M mp acc hM hb hI hO ha hF
   cases M with
   | zero=>omega
   | succ M=>
     have hwr:=dX pre ys y (by unfold bp; omega)
     have hl:(eI (pre.length:Int) < (pre++y::ys).length)=True:=tu pre ys y
     have hy:=hO y (by simp)
     have ht:kX o w (y::ys)=(ways o w y).length+kX o w ys:=rfl
     rw [ht] at ha
     obtain ⟨mp1,hI1,h1⟩:=Yg ho hw y mp hy hI
     have hgo:=fun (mp:List (Nd×Int)) (acc:List (List Int)) (hI:Inv o w mp) (ha:acc.length+kX o w ys≤200)=>ih (pre++[y]) M mp acc (by simpa using hM) (by rw [←bg]; exact hb) hI (fun z hz=>hO z (fk _ hz)) ha (fun z hz=>hF z (fk _ hz))
     by_cases hc:cn o w y=0
     ·have hnil:ways o w y=[]:=by
       unfold cn at hc
       exact kG.1 (by omega)
      obtain ⟨mp2,hI2,h2⟩:=hgo mp1 acc hI1 (by omega)
      rw [←bg] at h2
      refine ⟨mp2,hI2,?_⟩
      have e:(cn o w y==0)=true:=beq_iff_eq.2 hc
      unfold oe
      simp only [nV,nS,n7,nY,nT,nX,nZ,n0,n8,n9,nU,nW,nc,dJ,cX,cI,if_true,aK,hl,h1,aq,e,hwr]
      rw [h2,z7,hnil]
      rfl
     ·have hne:ways o w y≠[]:=by
       intro h; apply hc; unfold cn; rw [h]; rfl
      obtain ⟨mp2,hI2,h2⟩:=hF y (by simp) mp1 hI1 (by omega)
      rw [M1 hne] at h2
      have e:(cn o w y==0)=false:=beq_eq_false_iff_ne.2 hc
      obtain ⟨mp3,hI3,h3⟩:=hgo mp2 (acc++(ways o w y).map (y.2.1:: ·)) hI2 (by rw [b6,nv]; omega)
      rw [←bg,bK] at h3
      refine ⟨mp3,hI3,?_⟩
      have hp:=agp (R:=R) (fun y0 y1 y3 y4 y5=>oe 2000 (aY 2000) F (fun y0 y1 _ _ _=>K y0 y1) M y0 y1 y3 y4 (IntKind.i64.wrap (y5+(1:Int)))) (o,(w,(mp2,()))) y (pre++y::ys) ((pre++y::ys).length:Int) (pre.length:Int) (ways o w y) [] 2000 acc (by omega) (by simp; omega) (by omega) (fun l hl=>by
       have h0:=hy.e0
       have:=MD ho _ y hy l hl
       unfold rm at this; omega)
      simp only [cW,dd] at hp
      unfold oe
      simp only [nV,nS,n7,nY,nT,nX,nZ,n0,n8,n9,nU,nW,nc,dJ,cX,cI,if_true,aK,hl,h1,aq,e,aB,h2]
      refine dF hp ?_
      rw [hwr,h3,z7]
theorem afA {o:aO} {w:List UInt8} (ho:oE o=0) (hw:w.length≤100):∀ (m:Nat) (n:Nd) (mp:List (Nd×Int)),Ok o w n→rm w n < m→Inv o w mp→(ways o w n).length≤200→
  ∃ mp',Inv o w mp'∧nA 2000 m (o,(w,(mp,()))) n=some ((o,(w,(mp',()))),al o w n):=by
 intro m
 induction m with
 | zero=>intro n mp hn hm; omega
 | succ m ih=>
   intro n mp hn hm hI h200
   unfold nA al
   simp only [nV,nS,n7,nY,nT,nX,nZ,n0,n8,n9,nU,nW,nc]
   cases he:n.2.2.1==(w.length:Int) with
   | true=>exact ⟨mp,hI,rfl⟩
   | false=>
     have hnx:=Yd (o,(w,(mp,()))) ho hw n hn
     simp only at hnx
     have h120:=(tw ho).2.1
     have hnl:=Ma o w n o.2.1 0
     rw [Ec ho hn he,Mx] at h200
     obtain ⟨mp1,hI1,h1⟩:=afB (R:=jS×List (List Int)) (nA 2000 m) ho hw (fun x0 x1=>some (x0,x1)) (ea o w n o.2.1 0) [] 2000 mp [] (by omega) (by simp; omega) hI (fun y hy=>(nk ho hn hy).1) (by simpa using h200) (fun y hy mp hI h2=>by
      have h3:=nk ho hn hy
      exact ih y mp h3.1 (by omega) hI h2)
     simp only [cW,dd] at h1
     refine ⟨mp1,hI1,?_⟩
     simp only [aB,cond_false,hnx,aq,Ec ho hn he]
     exact h1
def wE (s:List UInt8):Int:=cond (s==[]) 7 (cond (decide ((s.length:Int) > 16)) 3 (cond (s.all jE) 0 2))
def eY (o:aO) (w:List UInt8):Int:=cond (oE o != 0) (oE o) (wE w)
theorem afZ {R:Type} (k0:Int→Option R) (K:Option R) (f:Int×Unit→Option Bool) (p:Int→Bool):
  ∀ (ys pre:List Int) (m:Nat),(∀ t∈ys,f (t,())=some (p t))→ys.length < m→(pre++ys).length≤bp→
    (ys.any p=false→pZ k0 (fun _ _ _ _=>K) m (pre++ys) f ((pre++ys).length:Int) (pre.length:Int)=K)∧
    (ys.any p=true→∃ i:Nat,pZ k0 (fun _ _ _ _=>K) m (pre++ys) f ((pre++ys).length:Int) (pre.length:Int)=k0 (i:Int)):=by
 intro ys
 induction ys with
 | nil=>
   intro pre m hf hm hb
   cases m with
   | zero=>omega
   | succ m=>
     unfold pZ
     simp only [vX,vY,vZ,v7,v8,wa,rX,dW,aB,tX]
     exact ⟨fun _=>trivial,fun h=>by cases h⟩
 | cons y ys ih=>
   intro pre m hf hm hb
   cases m with
   | zero=>omega
   | succ m=>
     have hwr:=dX pre ys y hb
     have hgo:=ih (pre++[y]) m (fun t ht=>hf t (fk _ ht)) (by simpa using hm) (by rw [←bg]; exact hb)
     rw [←bg] at hgo
     unfold pZ
     simp only [vX,vY,vZ,v7,v8,wa,rX,dJ,cX,cI,if_true,aK,hwr,hf y (by simp),aq,nu]
     cases h:p y with
     | true=>simp only [aK,tS]; exact ⟨(fun h=>by cases h),fun _=>⟨pre.length,rfl⟩⟩
     | false=>simp only [aB,nr]; exact hgo
theorem v96 (xs:List Int) (hx:xs.length < 2000) (f:Int×Unit→Option Bool) (p:Int→Bool) (hf:∀ t∈xs,f (t,())=some (p t)):df 2000 xs f=some (xs.any p):=by
 unfold df
 simp only [Lg,Dv]
 unfold iS
 simp only [vX,vY,vZ,v7,v8,wa,rX]
 have h:=afZ (R:=Int) some (some (-1)) f p xs [] 2000 hf hx (by unfold bp; simp; omega)
 simp only [cW,dd] at h
 have z:((0:Nat):Int)=0:=rfl
 rw [z] at h
 cases ha:xs.any p with
 | false=>rw [h.1 ha]; rfl
 | true=>
   obtain ⟨i,h1⟩:=h.2 ha
   rw [h1]
   simp only [aq]
   have:decide ((i:Int)≥0)=true:=decide_eq_true (by omega)
   rw [this]
theorem YI (s:List UInt8):(s.map ch).any (fun t=>!cY t)=!(s.map ch).all cY:=by
 induction s with
 | nil=>rfl
 | cons b s ih=>simp only [fU,nu,dq,ih]; cases cY (ch b)<;>rfl
theorem WO (s:List UInt8):s.all jE=((s.map ch).all cY&&s.all fun b=>!up b):=by
 induction s with
 | nil=>rfl
 | cons b s ih=>
   simp only [fU,dq,ih,jE]
   have:cY (ch b)=cY (b.toNat:Int):=rfl
   rw [this]
   cases cY (b.toNat:Int)<;>cases up b<;>cases (s.map ch).all cY<;>cases s.all fun b=>!up b<;>rfl
theorem v71 (w:List UInt8) (h0:w≠[]) (hl:w.length≤16):∃ s,iz 2000 [w]=some (s,cond ((w.map ch).all cY) 0 2):=by
 have hc:df 2000 (w.map fun b=>(b.toNat:Int)) (fun (x0:Int×Unit)=>((dz 2000 x0.1).bind fun b=>some [.v .bool b]).bind (j0 .bool))=some ((w.map ch).any fun t=>!cY t):=
  v96 (w.map ch) (by simp; omega) _ (fun t=>!cY t) (fun t ht=>by
   obtain ⟨b,_,rfl⟩:=dt.1 ht
   unfold dz
   simp only [Lh,Dw]
   have:=(Eb b).1
   rw [show ck 2000 (ch b)=some (cY (ch b)) from this]
   rfl)
 have hJ:fH 2000 [w] [32]=some w:=by
  unfold fH
  simp only [Ln,Lj,Lk,Ll,Lm,Lo,Dx]
  rfl
 have h00:(w==[])=false:=by simpa using h0
 unfold iz
 simp only [yw,yx,yy,yz,yA,yB,sH]
 show ∃ s,qa (df 2000) (dz 2000) _ _ (1999+1) [w] [w] (1:Int) (0:Int)=_
 unfold qa
 have d0:decide ((0:Int) < 1)=true:=rfl
 have c0:(0≤(0:Int)∧(0:Int) < (([w]:List (List UInt8)).length:Int))=True:=by rw [eq_iff_iff,iff_true]; exact ⟨by omega,by simp⟩
 have g:([w]:List (List UInt8)).getD (0:Int).toNat []=w:=rfl
 simp only [yw,yx,yy,yz,yA,yB,sH,d0,aK,c0,if_true,g,h00,aB,hc,aq,YI]
 cases ha:(w.map ch).all cY with
 | false=>exact ⟨[],rfl⟩
 | true=>
   simp only [dE,aB]
   show ∃ s,qa (df 2000) (dz 2000) _ _ (1998+1) [w] [w] (1:Int) (IntKind.i64.wrap (0+1))=_
   unfold qa
   have w1:IntKind.i64.wrap (0+1)=1:=rfl
   have d1:decide ((1:Int) < 1)=false:=rfl
   have d2:decide ((w.length:Int) > 120)=false:=decide_eq_false (by omega)
   simp only [yw,yx,yy,yz,yA,yB,sH,w1,d1,aB,hJ,aq,d2]
   exact ⟨w,rfl⟩
theorem v40 (o:aO) (w:List UInt8):cd 2000 o w=some (eY o w):=by
 unfold cd eY wE
 simp only [KN,Dg,v70,aq]
 cases oE o != 0 with
 | true=>rfl
 | false=>
   cases h0:w==[] with
   | true=>rfl
   | false=>
     cases h1:decide ((w.length:Int) > 16) with
     | true=>rfl
     | false=>
       have h2:=of_decide_eq_false h1
       obtain ⟨s,hs⟩:=v71 w (by simpa using h0) (by omega)
       simp only [aB,cond_false,hs,aq,v72 w (by omega)]
       rw [show (fold w != w)=!(fold w==w) from rfl,CQ,WO]
       cases (w.map ch).all cY<;>cases w.all (fun b=>!up b)<;>rfl
theorem ahs {R:Type} (k0:Int→Option R) (K:Option R):
  ∀ (ys pre:List UInt8) (m:Nat),ys.length < m→(pre++ys).length≤bp→
    tl (bz 2000) k0 (fun _ _=>K) m (pre++ys) (pre.length:Int)=cond ((ys.map ch).all cY) K (k0 2):=by
 intro ys
 induction ys with
 | nil=>
   intro pre m hm hb
   cases m with
   | zero=>omega
   | succ m=>
     unfold tl
     simp only [yS,yO,yP,yQ,yR,yT,sK,dW,aB,qF,kD,cond_true]
 | cons y ys ih=>
   intro pre m hm hb
   cases m with
   | zero=>omega
   | succ m=>
     have hwr:=dX pre ys y hb
     have hgo:=ih (pre++[y]) m (by simpa using hm) (by rw [←bg]; exact hb)
     rw [←bg] at hgo
     have hl:cY (ch y)=cY (y.toNat:Int):=rfl
     unfold tl
     simp only [yS,yO,yP,yQ,yR,yT,sK,dJ,cX,cI,if_true,aK,hwr,(Eb y).2,aq,fU,dq,hl]
     cases cY (y.toNat:Int) with
     | false=>simp only [fv,aK,hN,cond_false]
     | true=>simp only [dE,aB,fa]; exact hgo
theorem v48 (o:aO) (w:List UInt8):fD 2000 o w=some (eY o w):=by
 unfold fD eY
 simp only [KQ,Dj,v35,aq]
 cases oE o != 0 with
 | true=>rfl
 | false=>
   unfold iX wE
   simp only [yS,yO,yP,yQ,yR,yT,sK,aB,cond_false]
   cases h0:w==[] with
   | true=>rfl
   | false=>
     cases h1:decide ((w.length:Int) > 16) with
     | true=>rfl
     | false=>
       have h2:=of_decide_eq_false h1
       simp only [aB,cond_false,auo w (by omega),aq]
       rw [show (fold w != w)=!(fold w==w) from rfl,CQ,WO]
       cases w.all (fun b=>!up b) with
       | false=>rw [zW]; rfl
       | true=>
         have:=ahs (R:=Int) some (some 0) w [] 2000 (by omega) (by unfold bp; simp; omega)
         simp only [cW,dd] at this
         have z:((0:Nat):Int)=0:=rfl
         rw [z] at this
         simp only [dE,aB,gO]
         rw [this]
         cases (w.map ch).all cY<;>rfl
theorem sP {o:aO} {w:List UInt8} (h:eY o w=0):oE o=0∧w≠[]∧w.length≤16:=by
 unfold eY at h
 cases h1:oE o != 0 with
 | true=>rw [h1,cond_true] at h; rw [h] at h1; cases h1
 | false=>
   rw [h1,cond_false] at h
   unfold wE at h
   cases h2:w==[] with
   | true=>rw [h2] at h; cases h
   | false=>
     rw [h2] at h
     cases h3:decide ((w.length:Int) > 16) with
     | true=>rw [h3] at h; cases h
     | false=>have:=of_decide_eq_false h3; exact ⟨by simpa using h1,by simpa using h2,by omega⟩
def dR (o:aO):List Int→Int
 | []=>0
 | i::r=>(sg o i).2.2.1+dR o r
theorem Lp {x:dh} (h:gE x=0):0≤x.2.2.1∧x.2.2.1≤99:=by
 unfold gE at h
 cases h1:tE x.1 != 0 with
 | true=>rw [h1,cond_true] at h; rw [h] at h1; cases h1
 | false=>
   rw [h1,cond_false] at h
   cases h2:(x.2.1.length:Int)==0 with
   | true=>rw [h2] at h; cases h
   | false=>
     rw [h2,cond_false] at h
     cases h3:decide ((x.2.1.length:Int) > 2) with
     | true=>rw [h3] at h; cases h
     | false=>
       rw [h3,cond_false] at h
       cases h4:jN x.2.1 != 0 with
       | true=>rw [h4,cond_true] at h; rw [h] at h4; cases h4
       | false=>
         rw [h4,cond_false] at h
         cases h5:uu x with
         | true=>rw [h5] at h; cases h
         | false=>
           unfold uu at h5
           simp only [Bool.or_eq_false_iff,decide_eq_false_iff_not] at h5
           omega
theorem YZ {o:aO} (ho:oE o=0):∀ {l:List Int},l.all (cq o)=true→0≤dR o l∧dR o l≤99 * l.length
 | [],_=>by simp [dR]
 | i::r,h=>by
   simp only [dq,au] at h
   have h1:=Lp (kA ho (gK.1 h.1))
   have h2:=YZ ho h.2
   simp only [dR,dY]; omega
theorem afK {R:Type} (K:Int→Option R) (o:aO) (ho:oE o=0):
  ∀ (ys pre:List Int) (m:Nat) (s:Int),ys.all (cq o)=true→ys.length < m→(pre++ys).length≤1000→0≤s→s≤99 * pre.length→
    s9 (fun _ y1 _ _ _=>K y1) m o s (pre++ys) ((pre++ys).length:Int) (pre.length:Int)=K (s+dR o ys):=by
 intro ys
 induction ys with
 | nil=>
   intro pre m s hi hm hb h0 h1
   cases m with
   | zero=>omega
   | succ m=>
     unfold s9
     simp only [xA,xw,xx,xy,xz,xB,se,dW,aB,dR,Int.add_zero]
 | cons y ys ih=>
   intro pre m s hi hm hb h0 h1
   cases m with
   | zero=>omega
   | succ m=>
     have hwr:=dX pre ys y (by unfold bp; omega)
     simp only [dq,au] at hi
     have hy:=gK.1 hi.1
     have hg:=Lp (kA ho hy)
     have hbp:pre.length < 1000:=by simp at hb; omega
     have hin:(0≤y∧y < (o.2.1.length:Int))=True:=by rw [eq_iff_iff,iff_true]; exact hy
     have hs:o.2.1.getD y.toNat g0=sg o y:=rfl
     have hw:IntKind.i64.wrap (s+(sg o y).2.2.1)=s+(sg o y).2.2.1:=gk (by omega)
     unfold s9
     simp only [xA,xw,xx,xy,xz,xB,se,dJ,cX,cI,if_true,aK,hwr,hin,hs,hw,dR]
     have:=ih (pre++[y]) m (s+(sg o y).2.2.1) hi.2 (by simpa using hm) (by rw [←bg]; exact hb) (by omega) (by simp only [b6,gD]; omega)
     rw [←bg,Int.add_assoc] at this
     exact this
theorem Ea (o:aO) (l:List Int) (ho:oE o=0) (hi:l.all (cq o)=true) (hl:l.length≤1000):ct 2000 o l=some (dR o l):=by
 unfold ct
 have:=afK (R:=Int) some o ho l [] 2000 0 hi (by omega) (by simpa using hl) (by omega) (by simp)
 simp only [cW,dd,Int.zero_add] at this
 simp only [xA,xw,xx,xy,xz,xB,se]
 exact this
def iD (a b:Int):Int:=ad (decide (a < b)) (-1) (ad (decide (a > b)) 1 0)
theorem v46 (a b:Int):cx 2000 a b=some (iD a b):=by
 unfold cx iD
 simp only [KP,Di]
 have h:∀ x:Int,gR 2000 x=some false:=by
  intro x
  unfold gR
  simp only [K5,Dq,bne_self_eq_false]
 simp only [h,aq,aB]
 cases decide (a < b)<;>cases decide (a > b)<;>rfl
theorem IL {a b:Int} (h:a < b):iD a b= -1:=by unfold iD; rw [decide_eq_true h]; rfl
theorem Sp {a b:Int} (h:b < a):iD a b=1:=by unfold iD; rw [decide_eq_false (show ¬ a < b by omega),decide_eq_true (show a > b from h)]; rfl
theorem Sn (a:Int):iD a a=0:=by
 have h:decide (a < a)=false:=decide_eq_false (by omega)
 unfold iD
 simp only [gt_iff_lt,h,aB]
theorem qT (x:Int):ad ((-1:Int) != 0) (-1) x= -1:=rfl
theorem qU (x:Int):ad ((1:Int) != 0) 1 x=1:=rfl
def lex:List Int→List Int→Int
 | [],[]=>0
 | [],_::_=> -1
 | _::_,[]=>1
 | x::xs,y::ys=>ad (iD x y != 0) (iD x y) (lex xs ys)
theorem agc {R:Type} (k0:Int→Option R) (K:List Int→List Int→Option R):
  ∀ (ys pre zs pre2:List Int) (m:Nat),ys.length < m→(pre++ys).length≤bp→pre.length=pre2.length→(∀ r,ys≠[]∨r=K (pre++ys) (pre2++zs)→(ys=[]→K (pre++ys) (pre2++zs)=k0 (lex ys zs))→True)→
    (∀ A B,A=pre++ys→B=pre2++zs→A.length < B.length→K A B=k0 (-1))→(∀ A B,A=pre++ys→B=pre2++zs→¬ A.length < B.length→K A B=k0 0)→
    te (cx 2000) k0 (fun y0 y1 _ _ _=>K y0 y1) m (pre++ys) (pre2++zs) (pre++ys) ((pre++ys).length:Int) (pre.length:Int)=k0 (lex ys zs):=by
 intro ys
 induction ys with
 | nil=>
   intro pre zs pre2 m hm hb hp _ h1 h2
   cases m with
   | zero=>omega
   | succ m=>
     unfold te
     simp only [xO,xP,xQ,xR,xS,xT,ss,dW,aB]
     cases zs with
     | nil=>exact h2 _ _ rfl rfl (by simp [hp])
     | cons z zs=>exact h1 _ _ rfl rfl (by simp [hp])
 | cons y ys ih=>
   intro pre zs pre2 m hm hb hp _ h1 h2
   cases m with
   | zero=>omega
   | succ m=>
     have hwr:=dX pre ys y hb
     unfold te
     simp only [xO,xP,xQ,xR,xS,xT,ss,dJ,cX,cI,if_true,aK,hwr]
     cases zs with
     | nil=>
       have d:decide ((pre.length:Int)≥((pre2++([]:List Int)).length:Int))=true:=decide_eq_true (by simp [hp])
       simp only [d,aK,lex]
     | cons z zs=>
       have d:decide ((pre.length:Int)≥((pre2++z::zs).length:Int))=false:=decide_eq_false (by simp [hp]; omega)
       have i2:(0≤(pre.length:Int)∧(pre.length:Int) < ((pre2++z::zs).length:Int))=True:=by rw [hp]; exact cX _ _ _
       have a2:(pre2++z::zs).getD (eI (pre.length:Int)) (0:Int)=z:=by rw [hp]; exact cI _ _ _ _
       simp only [d,aB,i2,if_true,a2,v46,aq,lex]
       cases h:iD y z != 0 with
       | true=>simp only [aK]
       | false=>
         simp only [aB]
         rw [bg pre ys y,bg pre2 zs z]
         exact ih (pre++[y]) zs (pre2++[z]) m (by simpa using hm) (by rw [←bg]; exact hb) (by simp [hp]) (fun _ _ _=>trivial) (fun A B hA hB=>h1 A B (by rw [hA,←bg]) (by rw [hB,←bg])) (fun A B hA hB=>h2 A B (by rw [hA,←bg]) (by rw [hB,←bg]))
theorem v47 (a b:List Int) (h:a.length < 2000):iw 2000 a b=some (lex a b):=by
 unfold iw
 simp only [xO,xP,xQ,xR,xS,xT,ss]
 have:=agc (R:=Int) some (fun x0 x1=>ad (decide ((x0.length:Int) < (x1.length:Int))) (some (-1)) (some 0)) a [] b [] 2000 h (by unfold bp; simp; omega) rfl (fun _ _ _=>trivial)
  (fun A B _ _ hl=>by rw [decide_eq_true (show (A.length:Int) < (B.length:Int) by omega)]; rfl) (fun A B _ _ hl=>by rw [decide_eq_false (show ¬ (A.length:Int) < (B.length:Int) by omega)]; rfl)
 simp only [cW,dd] at this
 exact this
def nL (o:aO) (a b:List Int):Int:=ad (iD (dR o a) (dR o b) != 0) (iD (dR o a) (dR o b)) (lex a b)
theorem v45 (a b:Int):iv 2000 [a,b]=some (ad (a != 0) a b):=by
 unfold iv
 simp only [sq,si,sj,sk,sn,sr,pH]
 show nh _ _ (1999+1) (0:Int) [a,b] (2:Int) (0:Int)=_
 unfold nh
 have d0:decide ((0:Int) < 2)=true:=rfl
 have c0:(0≤(0:Int)∧(0:Int) < (([a,b]:List Int).length:Int))=True:=by rw [eq_iff_iff,iff_true]; exact ⟨by omega,by simp⟩
 have e0:([a,b]:List Int).getD (0:Int).toNat 0=a:=rfl
 simp only [sq,si,sj,sk,sn,sr,pH,d0,aK,c0,if_true,e0]
 cases h:a != 0 with
 | true=>rfl
 | false=>
   simp only [aB]
   show nh _ _ (1998+1) (0:Int) [a,b] (2:Int) (IntKind.i64.wrap (0+1))=_
   unfold nh
   have w1:IntKind.i64.wrap (0+1)=1:=rfl
   have d1:decide ((1:Int) < 2)=true:=rfl
   have c1:(0≤(1:Int)∧(1:Int) < (([a,b]:List Int).length:Int))=True:=by rw [eq_iff_iff,iff_true]; exact ⟨by omega,by simp⟩
   have e1:([a,b]:List Int).getD (1:Int).toNat 0=b:=rfl
   simp only [sq,si,sj,sk,sn,sr,pH,w1,d1,aK,c1,if_true,e1]
   cases h2:b != 0 with
   | true=>rfl
   | false=>
     have hb:b=0:=by simpa using h2
     simp only [aB]
     show nh _ _ (1997+1) (0:Int) [a,b] (2:Int) (IntKind.i64.wrap (1+1))=_
     unfold nh
     have w2:IntKind.i64.wrap (1+1)=2:=rfl
     have d2:decide ((2:Int) < 2)=false:=rfl
     simp only [sq,si,sj,sk,sn,sr,pH,w2,d2,aB,hb]
theorem v44 (o:aO) (ho:oE o=0) (a b:List Int) (ha:a.all (cq o)=true∧a.length≤1000) (hb:b.all (cq o)=true∧b.length≤1000):gF 2000 a b o=some (nL o a b):=by
 unfold gF nL
 simp only [KO,Dh,Ea o a ho ha.1 ha.2,Ea o b ho hb.1 hb.2,v46,v47 a b (by omega),v45,aq]
theorem qW (a b:Int):(iD a b= -1∧a < b)∨(iD a b=0∧a=b)∨(iD a b=1∧b < a):=by
 rcases MJ a b with h | h | h
 ·exact .inl ⟨IL h,h⟩
 ·subst h; exact .inr (.inl ⟨Sn a,rfl⟩)
 ·exact .inr (.inr ⟨Sp h,h⟩)
theorem WH:∀ a:List Int,lex a a=0
 | []=>rfl
 | x::xs=>by unfold lex; rw [Sn]; exact WH xs
theorem WI:∀ {a b:List Int},lex a b=0→a=b
 | [],[],_=>rfl
 | [],_::_,h=>by simp [lex] at h
 | _::_,[],h=>by simp [lex] at h
 | x::xs,y::ys,h=>by
   unfold lex at h
   rcases qW x y with ⟨h1,_⟩ | ⟨h1,h2⟩ | ⟨h1,_⟩
   ·rw [h1] at h; cases h
   ·rw [h1] at h; subst h2; rw [WI h]
   ·rw [h1] at h; cases h
theorem WG:∀ {a b:List Int},lex a b < 0↔lex b a > 0
 | [],[]=>by simp [lex]
 | [],_::_=>by simp [lex]
 | _::_,[]=>by simp [lex]
 | x::xs,y::ys=>by
   unfold lex
   rcases qW x y with ⟨h1,h2⟩ | ⟨h1,h2⟩ | ⟨h1,h2⟩
   ·rw [h1,Sp h2,qT,qU]; decide
   ·subst h2; rw [h1]; exact WG (a:=xs) (b:=ys)
   ·rw [h1,IL h2,qU,qT]; decide
theorem lex_trans:∀ {a b c:List Int},lex a b < 0→lex b c < 0→lex a c < 0
 | [],[],c,h,_=>by simp [lex] at h
 | [],_::_,[],_,h=>by simp [lex] at h
 | [],_::_,_::_,_,_=>by simp [lex]
 | _::_,[],c,h,_=>by simp [lex] at h
 | _::_,_::_,[],_,h=>by simp [lex] at h
 | x::xs,y::ys,z::zs,h1,h2=>by
   unfold lex at h1 h2 ⊢
   rcases qW x y with ⟨a1,a2⟩ | ⟨a1,a2⟩ | ⟨a1,a2⟩
   ·rcases qW y z with ⟨b1,b2⟩ | ⟨b1,b2⟩ | ⟨b1,b2⟩
    ·rw [IL (show x < z by omega),qT]; decide
    ·subst b2; rw [a1,qT]; decide
    ·rw [b1] at h2; exact absurd h2 (by rw [qU]; decide)
   ·subst a2
    rw [a1] at h1
    rcases qW x z with ⟨b1,b2⟩ | ⟨b1,b2⟩ | ⟨b1,b2⟩
    ·rw [b1,qT]; decide
    ·rw [b1] at h2 ⊢; exact lex_trans (a:=xs) (b:=ys) h1 h2
    ·rw [b1] at h2; exact absurd h2 (by rw [qU]; decide)
   ·rw [a1] at h1; exact absurd h1 (by rw [qU]; decide)
def iH (o:aO) (a b:List Int):Prop:=dR o a < dR o b∨(dR o a=dR o b∧lex a b < 0)
theorem Sm {o:aO} {a b:List Int}:nL o a b < 0↔iH o a b:=by
 unfold nL iH
 rcases qW (dR o a) (dR o b) with ⟨h1,h2⟩ | ⟨h1,h2⟩ | ⟨h1,h2⟩
 ·rw [h1]; exact ⟨fun _=>.inl h2,fun _=>by rw [qT]; decide⟩
 ·rw [h1]; exact ⟨fun h=>.inr ⟨h2,h⟩,fun h=>by rcases h with h | h; omega; exact h.2⟩
 ·rw [h1]; exact ⟨fun h=>absurd h (by rw [qU]; decide),fun h=>by rcases h with h | h<;>omega⟩
theorem WX (o:aO) (a:List Int):¬ iH o a a:=by
 rintro (h | ⟨_,h⟩)
 ·omega
 ·rw [WH] at h; omega
theorem WY {o:aO} {a b c:List Int} (h1:iH o a b) (h2:iH o b c):iH o a c:=by
 rcases h1 with h1 | ⟨h1,h3⟩<;>rcases h2 with h2 | ⟨h2,h4⟩
 ·exact .inl (by omega)
 ·exact .inl (by omega)
 ·exact .inl (by omega)
 ·exact .inr ⟨by omega,lex_trans h3 h4⟩
theorem agV (o:aO) (a b:List Int):iH o a b∨a=b∨iH o b a:=by
 rcases MJ (dR o a) (dR o b) with h | h | h
 ·exact .inl (.inl h)
 ·rcases MJ (lex a b) 0 with h2 | h2 | h2
  ·exact .inl (.inr ⟨h,h2⟩)
  ·exact .inr (.inl (WI h2))
  ·exact .inr (.inr (.inr ⟨h.symm,WG.2 h2⟩))
 ·exact .inr (.inr (.inl h))
theorem WW {o:aO} {a b:List Int} (h:iH o a b):¬ iH o b a:=fun h2=>WX o a (WY h h2)
section
variable {o:aO} {g:List Int×(List Int×Unit)→Option Int}
def qD (o:aO) (g:List Int×(List Int×Unit)→Option Int) (l:List (List Int)):Prop:=∀ a∈l,∀ b∈l,g (a,(b,()))=some (nL o a b)
theorem L9 {a b:List Int} (h:g (a,(b,()))=some (nL o a b)):qf g a b=true↔iH o a b:=by
 unfold qf; rw [h]; simp only [decide_eq_true_iff]; exact Sm
theorem UZ {a b:List Int} (h:g (a,(b,()))=some (nL o a b)):pU g a b=true↔¬ iH o a b:=by
 unfold pU; rw [h]; simp only [dA,decide_eq_false_iff_not]; exact not_congr Sm
abbrev mM (o:aO) (l:List (List Int)):Prop:=l.Pairwise fun a b=>a=b∨iH o a b
theorem LI {x y:List Int} {l:List (List Int)}:y∈nf g x l↔y=x∨y∈l:=by
 rw [(LJ (g:=g) x l).mem_iff,cV]
theorem Vw (x:List Int):∀ l:List (List Int),qD o g (x::l)→mM o l→mM o (nf g x l)
 | [],_,_=>List.pairwise_singleton _ _
 | y::r,hg,hs=>by
   have hs':=Ab.1 hs
   unfold nf
   cases h:qf g y x with
   | true=>
     have hlt:=(L9 (hg y (by simp) x (by simp))).1 h
     refine Ab.2 ⟨fun z hz=>?_,Vw x r (fun a ha b hb=>hg a (by rcases cV.1 ha with h | h; simp [h]; simp [h]) b (by rcases cV.1 hb with h | h; simp [h]; simp [h])) hs'.2⟩
     rcases LI.1 hz with h | h
     ·rw [h]; exact .inr hlt
     ·exact hs'.1 z h
   | false=>
     have hge:¬ iH o y x:=fun h2=>by rw [(L9 (hg y (by simp) x (by simp))).2 h2] at h; cases h
     have hxy:x=y∨iH o x y:=by
      rcases agV o x y with h | h | h
      ·exact .inr h
      ·exact .inl h
      ·exact absurd h hge
     refine Ab.2 ⟨fun z hz=>?_,hs⟩
     rcases cV.1 hz with h | h
     ·rw [h]; exact hxy
     ·rcases hs'.1 z h with h2 | h2
      ·rw [←h2]; exact hxy
      ·rcases hxy with h3 | h3
       ·rw [h3]; exact .inr h2
       ·exact .inr (WY h3 h2)
theorem XS (xs:List (List Int)) (hg:qD o g xs):mM o (jh g xs):=by
 unfold jh
 have key:∀ (ys l:List (List Int)),qD o g (ys++l)→mM o l→mM o (ys.foldl (fun l x=>nf g x l) l):=by
  intro ys
  induction ys with
  | nil=>intro l _ h; exact h
  | cons y ys ih=>
    intro l hg h
    refine ih _ ?_ (Vw y l (fun a ha b hb=>hg a (by rcases cV.1 ha with h | h<;>simp [h]) b (by rcases cV.1 hb with h | h<;>simp [h])) h)
    intro a ha b hb
    refine hg a ?_ b ?_
    ·rcases dG.1 ha with h | h
     ·simp [h]
     ·rcases LI.1 h with h | h<;>simp [h]
    ·rcases dG.1 hb with h | h
     ·simp [h]
     ·rcases LI.1 h with h | h<;>simp [h]
 exact key xs [] (by simpa using hg) List.Pairwise.nil
theorem XT:∀ (l:List (List Int)),qD o g l→mM o l→nj g l=true
 | [],_,_=>rfl
 | x::r,hg,hs=>by
   have hs':=Ab.1 hs
   unfold nj
   simp only [au,fj,ns,decide_eq_true_eq]
   refine ⟨⟨(UZ (hg x (by simp) x (by simp))).2 (WX o x),fun y hy=>?_⟩,XT r (fun a ha b hb=>hg a (by simp [ha]) b (by simp [hb])) hs'.2⟩
   rcases hs'.1 y hy with h | h
   ·exact .inl h
   ·exact .inr ⟨(L9 (hg x (by simp) y (by simp [hy]))).2 h,(UZ (hg y (by simp [hy]) x (by simp))).2 (WW h)⟩
end
theorem amW {o:aO} {l m:List (List Int)} (hp:l.Perm m) (hl:mM o l) (hm:mM o m):l=m:=by
 refine List.Perm.eq_of_pairwise (le:=fun a b=>a=b∨iH o a b) ?_ hl hm hp
 rintro a b _ _ (h | h) (h2 | h2)
 ·exact h
 ·exact h
 ·exact h2.symm
 ·exact absurd h2 (WW h)
theorem Yl {o:aO} {w:List UInt8} (ho:oE o=0):∀ (f:Nat) (n:Nd),Ok o w n→∀ l∈wy o w f n,l.all (cq o)=true
 | 0,_,_,l,h=>absurd h (by simp [wy])
 | f+1,n,hn,l,h=>by
   unfold wy at h
   cases he:n.2.2.1==(w.length:Int) with
   | true=>
     rw [he,cond_true] at h
     cases hf:decide (n.2.1≥0)&&fJ o n.2.1 (eV o n.1) [] with
     | true=>rw [hf,cond_true] at h; rw [iR.1 h]; rfl
     | false=>rw [hf,cond_false] at h; cases h
   | false=>
     rw [he,cond_false] at h
     obtain ⟨m,hm,h2⟩:=Ep.1 h
     obtain ⟨l',hl',rfl⟩:=dt.1 h2
     have h3:=nk ho hn hm
     have h4:=Yl ho f m h3.1 l' hl'
     rw [dq,h4,gO]
     exact gK.2 ⟨h3.2.2,h3.1.s⟩
def gh:Nd:=(-1,(-1,(0,())))
theorem zK (o:aO) (w:List UInt8):Ok o w gh:=⟨by show (-1:Int) < _; omega,by show (-1:Int) < _; omega,by show (0:Int)≤0; omega,by show (0:Int)≤_; omega⟩
def W0 (o:aO) (w:List UInt8):List (List Int):=ways o w gh
theorem Al {o:aO} {w:List UInt8} (h:eY o w=0) {l:List Int} (hl:l∈W0 o w):l.all (cq o)=true∧l.length≤16:=by
 obtain ⟨ho,h0,h1⟩:=sP h
 refine ⟨Yl ho _ _ (zK o w) l hl,?_⟩
 have:=MD ho _ _ (zK o w) l hl
 have h2:rm w gh≤w.length:=by unfold rm gh; simp
 omega
def dS (o:aO) (l:List (List Int)):List (List Int):=jh (fun p=>some (nL o p.1 p.2.1)) l
theorem CB (o:aO) (l:List (List Int)):(dS o l).Perm l:=zJ l
theorem Sw (o:aO) (l:List (List Int)):mM o (dS o l):=XS l fun _ _ _ _=>rfl
def gG (o:aO) (w:List UInt8):List (List Int)×Int:=cond (eY o w != 0) ([],eY o w) (cond ((W0 o w).length==0) ([],9) (cond (decide (200 < (W0 o w).length)) ([],3) (dS o (W0 o w),0)))
theorem Ya (o:aO) (w:List UInt8):cK 2000 o w=some (gG o w):=by
 unfold cK gG
 simp only [KK,g16,v40,aq]
 cases hg:eY o w != 0 with
 | true=>rfl
 | false=>
   have hg0:eY o w=0:=by simpa using hg
   obtain ⟨ho,hw0,hw1⟩:=sP hg0
   obtain ⟨mp,hI,h1⟩:=Yg ho (by omega) gh [] (zK o w) (fun p hp=>absurd hp (by simp))
   have h1':aY 2000 (o,w,[],()) ((-1:Int),(-1:Int),(0:Int),())=some ((o,(w,(mp,()))),cn o w gh):=h1
   have hc:cn o w gh=((min 201 (W0 o w).length:Nat):Int):=rfl
   simp only [aB,cond_false,h1',aq]
   cases hz:(W0 o w).length==0 with
   | true=>
     have hz':(W0 o w).length=0:=by simpa using hz
     have:(cn o w gh==0)=true:=by rw [hc,hz']; rfl
     rw [this]; rfl
   | false=>
     have hz':(W0 o w).length≠0:=by simpa using hz
     have e1:(cn o w gh==0)=false:=beq_eq_false_iff_ne.2 (by rw [hc]; omega)
     rw [e1]
     simp only [aB,cond_false]
     by_cases h200:200 < (W0 o w).length
     ·have e2:decide (cn o w gh > 200)=true:=decide_eq_true (by rw [hc]; omega)
      rw [e2,decide_eq_true h200]; rfl
     ·have e2:decide (cn o w gh > 200)=false:=decide_eq_false (by rw [hc]; omega)
      rw [e2,decide_eq_false h200]
      simp only [aB,cond_false]
      obtain ⟨mp2,_,h2⟩:=afA ho (show w.length≤100 by omega) 250 gh mp (zK o w) (by unfold rm gh; simp; omega) hI (show (ways o w gh).length≤200 from by have:(W0 o w).length=(ways o w gh).length:=rfl; omega)
      have hal:al o w gh=W0 o w:=M1 (fun e=>hz' (by unfold W0; rw [e]; rfl))
      rw [hal] at h2
      have h2':bV 2000 (o,(w,(mp,()))) ((-1:Int),(-1:Int),(0:Int),())=some ((o,(w,(mp2,()))),W0 o w):=h2
      simp only [h2',aq]
      have hG:qD o (fun (x0:List Int×(List Int×Unit))=>((gF 2000 x0.1 x0.2.1 o).bind fun b=>some [.v (.int .i64) b]).bind (j0 (.int .i64))) (W0 o w):=by
       intro a ha b hb
       have h3:=Al hg0 ha
       have h4:=Al hg0 hb
       simp only [v44 o ho a b ⟨h3.1,by omega⟩ ⟨h4.1,by omega⟩,aq]
       rfl
      have hG2:∀ {g:List Int×(List Int×Unit)→Option Int},qD o g (W0 o w)→tM g (W0 o w)=some (dS o (W0 o w)):=by
       intro g hG
       have hp:=zJ (g:=g) (W0 o w)
       have hs:=XS (W0 o w) hG
       have hok:=XT (jh g (W0 o w)) (fun a ha b hb=>hG a (hp.mem_iff.1 ha) b (hp.mem_iff.1 hb)) hs
       unfold tM
       rw [if_pos ⟨fun e=>hz' (by rw [e]; rfl),by omega,hok⟩]
       rw [amW (hp.trans (CB o _).symm) hs (Sw o _)]
      have h5:eQ 2000 (fun (x0:List Int×(List Int×Unit))=>((gF 2000 x0.1 x0.2.1 o).bind fun b=>some [.v (.int .i64) b]).bind (j0 (.int .i64))) (W0 o w)=some (dS o (W0 o w)):=by
       unfold eQ
       exact hG2 hG
      rw [h5]
      rfl
theorem M4 {o:aO} {w:List UInt8} (h:(gG o w).2=0):eY o w=0∧W0 o w≠[]∧(W0 o w).length≤200∧(gG o w).1=dS o (W0 o w):=by
 unfold gG at h ⊢
 cases hg:eY o w != 0 with
 | true=>rw [hg,cond_true] at h; simp only at h; rw [h] at hg; cases hg
 | false=>
   rw [hg,cond_false] at h
   cases hz:(W0 o w).length==0 with
   | true=>rw [hz,cond_true] at h; cases h
   | false=>
     rw [hz,cond_false] at h
     by_cases h200:200 < (W0 o w).length
     ·rw [decide_eq_true h200,cond_true] at h; cases h
     ·rw [decide_eq_false h200]
      exact ⟨by simpa using hg,fun e=>by rw [e] at hz; (cases hz),by omega,rfl⟩
theorem Sv {o:aO} {w:List UInt8} (h:W0 o w≠[]):∃ a r,dS o (W0 o w)=a::r∧a∈W0 o w∧∀ l∈W0 o w,dR o a≤dR o l:=by
 cases hd:dS o (W0 o w) with
 | nil=>
   have:=(CB o (W0 o w)).length_eq
   rw [hd] at this
   exact absurd (kG.1 this.symm) h
 | cons a r=>
   have hp:=CB o (W0 o w)
   rw [hd] at hp
   have hs:=Sw o (W0 o w)
   rw [hd] at hs
   refine ⟨a,r,rfl,hp.mem_iff.1 (by simp),fun l hl=>?_⟩
   rcases cV.1 (hp.mem_iff.2 hl) with h1 | h1
   ·rw [h1]; omega
   ·rcases (Ab.1 hs).1 l h1 with h2 | h2 | h2
    ·rw [h2]; omega
    ·omega
    ·omega
def Ax (o:aO) (w:List UInt8):List Int×(Int×Int):=cond ((gG o w).2 != 0) ([],(0,(gG o w).2)) ((gG o w).1.getD 0 [],(dR o ((gG o w).1.getD 0 []),0))
theorem v13 (o:aO) (w:List UInt8):er 2000 o w=some (Ax o w):=by
 unfold er Ax
 simp only [Kx,g13,Ya,aq]
 cases h:(gG o w).2 != 0 with
 | true=>rfl
 | false=>
   obtain ⟨hg,hne,h200,h1⟩:=M4 (show (gG o w).2=0 by simpa using h)
   obtain ⟨a,r,h2,h3,_⟩:=Sv hne
   have h4:=Al hg h3
   rw [h1,h2]
   have c:(0≤(0:Int)∧(0:Int) < ((a::r).length:Int))=True:=by rw [eq_iff_iff,iff_true]; simp only [dY]; omega
   have c2:((0:Int).toNat < (a::r).length)=True:=by rw [eq_iff_iff,iff_true]; simp
   have e:(a::r).getD ((0:Int).toNat) []=a:=rfl
   have e':(a::r).getD 0 []=a:=rfl
   simp only [aB,cond_false,c,c2,if_true,e,e',Ea o a (sP hg).1 h4.1 (by omega),aq]
def zj (o:aO):List Int→List bO
 | []=> []
 | j::_=>(sg o j).2.1
def gu (o:aO):List bO→List Int→Bool
 | _,[]=>true
 | bf,i::r=>fJ o i bf (zj o r)&&gu o (sg o i).2.1 r
theorem Xa {o:aO} {w:List UInt8} {n:Nd}:∀ (ys pre:List dh) (j:Nat),o.2.1=pre++ys→j < ys.length→jH o w n (ys.getD j g0)=true→oD n ((pre.length+j:Nat):Int) (ys.getD j g0)∈ea o w n ys (pre.length:Int)
 | [],_,_,_,h,_=>by simp at h
 | y::ys,pre,0,hl,h,hk=>by
   have hk':jH o w n y=true:=hk
   unfold ea
   rw [hk',cond_true]
   exact List.mem_cons_self ..
 | y::ys,pre,j+1,hl,h,hk=>by
   have h1:=Xa ys (pre++[y]) j (by rw [hl,bg]) (by simpa using h) hk
   have hlen:((pre++[y]).length:Int)=(pre.length:Int)+1:=by simp
   have hlen2:(((pre++[y]).length+j:Nat):Int)=((pre.length+(j+1):Nat):Int):=by simp only [b6,gD]; omega
   rw [hlen,hlen2] at h1
   unfold ea
   cases jH o w n y with
   | true=>rw [cond_true]; exact fk _ h1
   | false=>rw [cond_false]; exact h1
theorem ahD {o:aO} {w:List UInt8} {n:Nd} {i:Int} (hi:cq o i=true) (hk:jH o w n (sg o i)=true):oD n i (sg o i)∈ea o w n o.2.1 0:=by
 have h:=gK.1 hi
 have:=Xa (o:=o) (w:=w) (n:=n) o.2.1 [] i.toNat rfl (by omega) hk
 simp only [dd,lf] at this
 rw [show ((i.toNat:Nat):Int)=i by omega] at this
 exact this
theorem aum {o:aO} (ho:oE o=0) {l:List Int} (hi:l.all (cq o)=true) (h:eE o l=[]):l=[]:=by
 cases l with
 | nil=>rfl
 | cons i r=>
   simp only [dq,au] at hi
   have h1:=(jW (kA ho (gK.1 hi.1))).2.2.1
   simp only [eE,List.append_eq_nil_iff] at h
   exact absurd h.1 h1
def acc (o:aO) (w:List UInt8) (n:Nd) (l:List Int):Prop:=
 l.all (cq o)=true∧eE o l=w.drop n.2.2.1.toNat∧(n.2.1 < 0∨fJ o n.2.1 (eV o n.1) (zj o l)=true)∧gu o (eV o n.2.1) l=true
theorem au3 {o:aO} {w:List UInt8} (ho:oE o=0):∀ (k:Nat) (n:Nd),rm w n < k→Ok o w n→(n.2.1 < 0→n.2.2.1 < (w.length:Int))→∀ l,l∈ways o w n↔acc o w n l:=by
 intro k
 induction k with
 | zero=>intro n h; omega
 | succ k ih=>
   intro n hk hn hs l
   have he0:=hn.e0; have he1:=hn.e1
   cases he:n.2.2.1==(w.length:Int) with
   | true=>
     have he':n.2.2.1=(w.length:Int):=by simpa using he
     have hs0:¬ n.2.1 < 0:=fun h=>by have:=hs h; omega
     have hd:w.drop n.2.2.1.toNat=[]:=List.drop_eq_nil_of_le (by omega)
     rw [Mz he,decide_eq_true (show n.2.1≥0 by omega),fa]
     unfold acc
     rw [hd]
     constructor
     ·intro h
      cases hf:fJ o n.2.1 (eV o n.1) [] with
      | false=>rw [hf] at h; cases h
      | true=>
        rw [hf,cond_true] at h
        rw [iR.1 h]
        exact ⟨rfl,rfl,.inr hf,rfl⟩
     ·rintro ⟨h1,h2,h3,_⟩
      have:=aum ho h1 h2
      subst this
      rcases h3 with h3 | h3
      ·exact absurd h3 hs0
      ·have h3':fJ o n.2.1 (eV o n.1) []=true:=h3
       rw [h3',cond_true]; exact iR.2 rfl
   | false=>
     have he':n.2.2.1≠(w.length:Int):=by simpa using he
     rw [Ec ho hn he,Ep]
     constructor
     ·rintro ⟨m,hm,h2⟩
      obtain ⟨l',hl',rfl⟩:=dt.1 h2
      have h3:=nk ho hn hm
      have h4:=Mb ho hn o.2.1 [] rfl hm
      obtain ⟨a1,a2,a3,a4⟩:=(ih m (by omega) h3.1 (fun h=>absurd h (by omega)) l').1 hl'
      have hix:cq o m.2.1=true:=gK.2 ⟨h3.2.2,h3.1.s⟩
      have hok:=h4.2.2.2.2.2.2
      unfold jH at hok
      simp only [au,ns,decide_eq_true_eq] at hok
      obtain ⟨r,hr⟩:=Mm.1 hok.1
      have hm0:¬ m.2.1 < 0:=by omega
      refine ⟨by rw [dq,hix,a1]; rfl,?_,hok.2,?_⟩
      ·simp only [eE]
       rw [a2,hr]
       congr 1
       have:m.2.2.1.toNat=n.2.2.1.toNat+(sg o m.2.1).1.length:=by rw [h4.2.2.2.2.2.1]; omega
       rw [this,←z6,hr,Eh]
      ·unfold gu
       rw [au]
       refine ⟨?_,?_⟩
       ·rcases a3 with a3 | a3
        ·exact absurd a3 hm0
        ·rw [h4.1] at a3; exact a3
       ·have e:eV o m.2.1=(sg o m.2.1).2.1:=by unfold eV; rw [decide_eq_false hm0]; rfl
        rw [←e]; exact a4
     ·rintro ⟨h1,h2,h3,h4⟩
      cases l with
      | nil=>
        have:w.drop n.2.2.1.toNat=[]:=h2.symm
        have:=List.drop_eq_nil_iff.1 this
        omega
      | cons i r=>
        simp only [dq,au] at h1
        have hix:=gK.1 h1.1
        have hi0:¬ i < 0:=by omega
        have ht:(sg o i).1++eE o r=w.drop n.2.2.1.toNat:=h2
        have hok:jH o w n (sg o i)=true:=by
         unfold jH
         rw [au,ns,decide_eq_true_eq]
         exact ⟨Mm.2 ⟨_,ht.symm⟩,h3⟩
        have hm:=ahD h1.1 hok
        have h5:=nk ho hn hm
        refine ⟨oD n i (sg o i),hm,dt.2 ⟨r,?_,rfl⟩⟩
        unfold gu at h4
        rw [au] at h4
        have e:eV o i=(sg o i).2.1:=by unfold eV; rw [decide_eq_false hi0]; rfl
        refine (ih (oD n i (sg o i)) (by omega) h5.1 (fun h=>absurd h hi0) r).2 ⟨h1.2,?_,.inr h4.1,by show gu o (eV o i) r=true; rw [e]; exact h4.2⟩
        show eE o r=w.drop (n.2.2.1+((sg o i).1.length:Int)).toNat
        have:(n.2.2.1+((sg o i).1.length:Int)).toNat=n.2.2.1.toNat+(sg o i).1.length:=by omega
        rw [this,←z6,←ht,Eh]
theorem YB {o:aO} {w:List UInt8} (ho:oE o=0) (hw:w≠[]) (l:List Int):l∈W0 o w↔l.all (cq o)=true∧eE o l=w∧gu o [] l=true:=by
 have hpos:0 < w.length:=Aa.2 hw
 rw [show (l∈W0 o w)=(l∈ways o w gh) from rfl,au3 ho _ gh (Nat.lt_succ_self _) (zK o w) (fun _=>by show (0:Int) < _; omega)]
 unfold acc
 have e1:w.drop gh.2.2.1.toNat=w:=rfl
 have e2:eV o gh.2.1=[]:=rfl
 rw [e1,e2]
 exact ⟨fun h=>⟨h.1,h.2.1,h.2.2.2⟩,fun h=>⟨h.1,h.2.1,.inl (by show (-1:Int) < 0; decide),h.2.2⟩⟩
theorem v88 (l:List bO):gq 2000 l=some (mR l):=by
 unfold gq
 cases l with
 | nil=>rfl
 | cons s l=>
   have d:decide (((s::l).length:Int) > 0)=true:=decide_eq_true (by simp only [dY]; omega)
   have c:(0≤(0:Int)∧(0:Int) < ((s::l).length:Int))=True:=by rw [eq_iff_iff,iff_true]; simp only [dY]; omega
   simp only [K9,Ds,d,aK,c,if_true,X7,aq]
   rfl
theorem v89 (l:List bO) (hb:l.length≤bp):iA 2000 l=some (en l):=by
 unfold iA
 rcases tZ l with h | ⟨l',s,h⟩
 ·subst h; rfl
 ·rw [tY] at h
  subst h
  have hlen:l'.length < bp:=by simp at hb; omega
  have w:IntKind.i64.wrap (((l'++[s]).length:Int) - 1)=(l'.length:Int):=by
   have:((l'++[s]).length:Int) - 1=(l'.length:Int):=by simp
   rw [this]; exact gk (by unfold bp at hlen; omega)
  have d:decide (((l'++[s]).length:Int) > 0)=true:=decide_eq_true (by simp only [b6,gD]; omega)
  have c:(0≤(l'.length:Int)∧(l'.length:Int) < ((l'++[s]).length:Int))=True:=by rw [eq_iff_iff,iff_true]; simp only [b6,gD]; omega
  have g:(l'++[s]).getD (eI (l'.length:Int)) s0=s:=cI _ _ _ _
  simp only [La,Dt,d,aK,w,c,if_true,g,X7,aq,S0]
theorem v62 (o:aO) (i:Int) (bf af:List bO) (hb:bf.length≤bp):dx 2000 o i bf af=some (fJ o i bf af):=by
 unfold dx fJ cq
 simp only [KZ,Dm,v88,v89 bf hb,aq]
 cases h1:decide (i < 0) with
 | true=>rfl
 | false=>
   cases h2:decide (i≥(o.2.1.length:Int)) with
   | true=>rfl
   | false=>
     have e1:=of_decide_eq_false h1
     have e2:=of_decide_eq_false h2
     have hin:(0≤i∧i < (o.2.1.length:Int))=True:=by rw [eq_iff_iff,iff_true]; omega
     have hs:o.2.1.getD i.toNat g0=sg o i:=rfl
     simp only [aB,hin,if_true,hs]
     unfold pj
     cases (sg o i).2.2.2.1==(0:Int)<;>cases (sg o i).2.2.2.1==(1:Int)<;>cases (sg o i).2.2.2.1==(2:Int)<;>cases (sg o i).2.2.2.1==(3:Int)<;>cases (sg o i).2.2.2.1==(4:Int)<;>cases mR af<;>cases en bf<;>cases (bf.length:Int)==(0:Int)<;>rfl
theorem afL {R:Type} (K:Int→Option R) (o:aO) (ho:oE o=0):
  ∀ (ys pre:List Int) (m:Nat) (s:Int),ys.all (cq o)=true→ys.length < m→(pre++ys).length≤1000→0≤s→s≤99 * pre.length→
    ta (fun _ _ y2 _=>K y2) m (pre++ys) o s (pre.length:Int)=K (s+dR o ys):=by
 intro ys
 induction ys with
 | nil=>
   intro pre m s hi hm hb h0 h1
   cases m with
   | zero=>omega
   | succ m=>
     unfold ta
     simp only [xG,xC,xD,xE,xF,xH,sf,dW,aB,dR,Int.add_zero]
 | cons y ys ih=>
   intro pre m s hi hm hb h0 h1
   cases m with
   | zero=>omega
   | succ m=>
     have hwr:=dX pre ys y (by unfold bp; omega)
     simp only [dq,au] at hi
     have hy:=gK.1 hi.1
     have hg:=Lp (kA ho hy)
     have hbp:pre.length < 1000:=by simp at hb; omega
     have hin:(0≤y∧y < (o.2.1.length:Int))=True:=by rw [eq_iff_iff,iff_true]; exact hy
     have hs:o.2.1.getD y.toNat g0=sg o y:=rfl
     have hw:IntKind.i64.wrap (s+(sg o y).2.2.1)=s+(sg o y).2.2.1:=gk (by omega)
     unfold ta
     simp only [xG,xC,xD,xE,xF,xH,sf,dJ,cX,cI,if_true,aK,hwr,hin,hs,hw,dR]
     have:=ih (pre++[y]) m (s+(sg o y).2.2.1) hi.2 (by simpa using hm) (by rw [←bg]; exact hb) (by omega) (by simp only [b6,gD]; omega)
     rw [←bg,Int.add_assoc] at this
     exact this
theorem v39 (o:aO) (l:List Int) (ho:oE o=0) (hi:l.all (cq o)=true) (hl:l.length≤1000):fp 2000 o l=some (dR o l):=by
 unfold fp
 have:=afL (R:=Int) some o ho l [] 2000 0 hi (by omega) (by simpa using hl) (by omega) (by simp)
 simp only [cW,dd,Int.zero_add] at this
 simp only [xG,xC,xD,xE,xF,xH,sf]
 exact this
def fQ (o:aO) (l:List Int):List bO:=match l.getLast? with | none=> [] | some j=>(sg o j).2.1
theorem zr (o:aO) (l:List Int) (j:Int):fQ o (l++[j])=(sg o j).2.1:=by unfold fQ; simp
theorem WC {o:aO} (ho:oE o=0) {l:List Int} (hi:l.all (cq o)=true):(fQ o l).length≤2:=by
 rcases tZ l with h | ⟨l',s,h⟩
 ·subst h; simp [fQ]
 ·rw [tY] at h
  subst h
  rw [zr]
  simp only [nt,dq,kD,gO,au] at hi
  exact (jW (kA ho (gK.1 hi.2))).1
theorem afI {R:Type} (k0:Int→Int→Option R) (K:List Int→aO→Option R) (o:aO) (ho:oE o=0):
  ∀ (ys pre:List Int) (m:Nat),(pre++ys).all (cq o)=true→ys.length < m→(pre++ys).length≤1000→
    ng (aS 2000) k0 (fun y0 y1 _ _ _=>K y0 y1) m (pre++ys) o (pre++ys) ((pre++ys).length:Int) (pre.length:Int)=cond (gu o (fQ o pre) ys) (K (pre++ys) o) (k0 0 19):=by
 intro ys
 induction ys with
 | nil=>
   intro pre m hi hm hb
   cases m with
   | zero=>omega
   | succ m=>
     unfold ng
     simp only [w3,wX,wY,wZ,w0,w4,r9,dW,aB,gu,cond_true]
 | cons y ys ih=>
   intro pre m hi hm hb
   cases m with
   | zero=>omega
   | succ m=>
     have hwr:=dX pre ys y (by unfold bp; omega)
     have hbp:pre.length < 1000:=by simp at hb; omega
     have hgo:=ih (pre++[y]) m (by rw [←bg]; exact hi) (by simpa using hm) (by rw [←bg]; exact hb)
     rw [←bg,zr] at hgo
     have hfb:=WC ho (l:=pre) (by simp only [nt,au] at hi; exact hi.1)
     have hfit:∀ af,aS 2000 o y (fQ o pre) af=some (fJ o y (fQ o pre) af):=fun af=>v60 o y (fQ o pre) af (by unfold bp; omega)
     -- what stands behind
     have hst:∀ af,zj o ys=af→((aS 2000 o y (fQ o pre) af).bind fun r=>ad (!r) (k0 0 19) (ng (aS 2000) k0 (fun y0 y1 _ _ _=>K y0 y1) m (pre++y::ys) o (pre++y::ys) ((pre++y::ys).length:Int) ((pre++[y]).length:Int)))=cond (gu o (fQ o pre) (y::ys)) (K (pre++y::ys) o) (k0 0 19):=by
      intro af haf
      rw [hfit,aq]
      simp only [gu,haf]
      cases fJ o y (fQ o pre) af with
      | false=>rfl
      | true=>simp only [dE,aB,fa]; exact hgo
     unfold ng
     simp only [w3,wX,wY,wZ,w0,w4,r9,dJ,cX,cI,if_true,aK,hwr]
     have haft:∀ (bf:List bO),bf=fQ o pre→(ad (decide (((pre++[y]).length:Int) < ((pre++y::ys).length:Int)))
       (if 0≤((pre++[y]).length:Int)∧((pre++[y]).length:Int) < ((pre++y::ys).length:Int) then
        if 0≤((pre++y::ys).getD (eI ((pre++[y]).length:Int)) 0)∧((pre++y::ys).getD (eI ((pre++[y]).length:Int)) 0) < (o.2.1.length:Int) then
         (aS 2000 o y bf (o.2.1.getD ((pre++y::ys).getD (eI ((pre++[y]).length:Int)) 0).toNat g0).2.1).bind fun r=>ad (!r) (k0 0 19) (ng (aS 2000) k0 (fun y0 y1 _ _ _=>K y0 y1) m (pre++y::ys) o (pre++y::ys) ((pre++y::ys).length:Int) ((pre++[y]).length:Int))
        else none
       else none)
       ((aS 2000 o y bf []).bind fun r=>ad (!r) (k0 0 19) (ng (aS 2000) k0 (fun y0 y1 _ _ _=>K y0 y1) m (pre++y::ys) o (pre++y::ys) ((pre++y::ys).length:Int) ((pre++[y]).length:Int))))=cond (gu o (fQ o pre) (y::ys)) (K (pre++y::ys) o) (k0 0 19):=by
      intro bf hbf
      subst hbf
      cases ys with
      | nil=>
        have d:decide (((pre++[y]).length:Int) < ((pre++y::[]).length:Int))=false:=decide_eq_false (by omega)
        rw [d]
        exact hst [] rfl
      | cons z zs=>
        have e:pre++y::z::zs=(pre++[y])++z::zs:=bg ..
        have hz:cq o z=true:=by
         simp only [nt,dq,au] at hi; exact hi.2.2.1
        have hzz:=gK.1 hz
        have hin:(0≤z∧z < (o.2.1.length:Int))=True:=by rw [eq_iff_iff,iff_true]; exact hzz
        have h1:decide (((pre++[y]).length:Int) < ((pre++y::z::zs).length:Int))=true:=by rw [e]; exact dJ _ _ _
        have h2:(0≤((pre++[y]).length:Int)∧((pre++[y]).length:Int) < ((pre++y::z::zs).length:Int))=True:=by rw [e]; exact cX _ _ _
        have h3:(pre++y::z::zs).getD (eI ((pre++[y]).length:Int)) 0=z:=by rw [e]; exact cI _ _ _ _
        simp only [h1,aK,h2,if_true,h3,hin]
        exact hst _ rfl
     rcases tZ pre with h | ⟨p,q,h⟩
     ·subst h
      have d:decide (((([]:List Int).length:Nat):Int) > 0)=false:=rfl
      simp only [d,aB]
      exact haft [] rfl
     ·rw [tY] at h
      subst h
      have d:decide ((((p++[q]).length:Nat):Int) > 0)=true:=decide_eq_true (by simp only [b6,gD]; omega)
      have w1:IntKind.i64.wrap ((((p++[q]).length:Nat):Int) - 1)=(p.length:Int):=by
       have:(((p++[q]).length:Nat):Int) - 1=(p.length:Int):=by simp
       rw [this]; exact gk (by simp at hbp; omega)
      have e:(p++[q])++y::ys=p++q::(y::ys):=(bg ..).symm
      have c:(0≤(p.length:Int)∧(p.length:Int) < ((((p++[q])++y::ys).length:Nat):Int))=True:=by rw [e]; exact cX _ _ _
      have g:((p++[q])++y::ys).getD (eI (p.length:Int)) 0=q:=by rw [e]; exact cI _ _ _ _
      have hq:cq o q=true:=by
       simp only [nt,dq,kD,gO,au] at hi; exact hi.1.2
      have hqq:=gK.1 hq
      have hin:(0≤q∧q < (o.2.1.length:Int))=True:=by rw [eq_iff_iff,iff_true]; exact hqq
      simp only [d,aK,w1,c,if_true,g,hin]
      exact haft _ (by rw [zr]; rfl)
def jr (o:aO) (w:List UInt8) (l:List Int):Int×Int:=cond (eY o w != 0) (0,eY o w) (cond (!l.all (cq o)) (0,6) (cond (eE o l != w) (0,1) (cond (gu o [] l) (dR o l,0) (0,19))))
theorem v29 (o:aO) (w:List UInt8) (l:List Int) (hl:l.length≤40):ik 2000 o w l=some (jr o w l):=by
 unfold ik jr
 simp only [w3,wX,wY,wZ,w0,w4,r9,v40,aq]
 cases hg:eY o w != 0 with
 | true=>rfl
 | false=>
   obtain ⟨ho,hw0,hw1⟩:=sP (show eY o w=0 by simpa using hg)
   simp only [aB,cond_false,Yb o l ho (by omega),aq]
   cases hi:l.all (cq o) with
   | false=>rfl
   | true=>
     simp only [cond_true,dE,aB,cond_false]
     cases ht:eE o l != w with
     | true=>rfl
     | false=>
       simp only [aB,cond_false]
       have:=afI (R:=Int×Int) (fun a b=>some (a,b)) (fun x0 x1=>(ct 2000 x1 x0).bind fun r=>some (r,0)) o ho l [] 2000 (by simpa using hi) (by omega) (by simp; omega)
       simp only [cW,dd] at this
       refine dF this ?_
       have e:fQ o []=[]:=rfl
       rw [e,Ea o l ho hi (by omega)]
       cases gu o [] l<;>rfl
def tx:List UInt8×(List (List UInt8×(List (Int×(Int×(List UInt8×Unit)))×(Int×(Int×Unit))))×Unit):=([108,97,116,105,110],([([97],([(1,(3,([97],())))],(1,(0,())))),([101],([(1,(3,([101],())))],(1,(0,())))),([105],([(1,(3,([105],())))],(1,(0,())))),([111],([(1,(3,([111],())))],(1,(0,())))),([117],([(1,(3,([117],())))],(1,(0,())))),([121],([(1,(3,([121],())))],(1,(0,())))),([97,95],([(1,(2,([97,95],())))],(1,(0,())))),([101,95],([(1,(2,([101,95],())))],(1,(0,())))),([105,95],([(1,(2,([105,95],())))],(1,(0,())))),([111,95],([(1,(2,([111,95],())))],(1,(0,())))),([117,95],([(1,(2,([117,95],())))],(1,(0,())))),([121,95],([(1,(2,([121,95],())))],(1,(0,())))),([97,94],([(1,(1,([97,94],())))],(1,(0,())))),([101,94],([(1,(1,([101,94],())))],(1,(0,())))),([105,94],([(1,(1,([105,94],())))],(1,(0,())))),([111,94],([(1,(1,([111,94],())))],(1,(0,())))),([117,94],([(1,(1,([117,94],())))],(1,(0,())))),([121,94],([(1,(1,([121,94],())))],(1,(0,())))),([97,101],([(2,(2,([97,101],())))],(1,(0,())))),([97,117],([(2,(2,([97,117],())))],(1,(0,())))),([111,101],([(2,(2,([111,101],())))],(1,(0,())))),([101,117],([(2,(2,([101,117],())))],(3,(0,())))),([105],([(8,(0,([105],())))],(0,(2,())))),([105],([(8,(0,([105],()))),(8,(0,([105],())))],(0,(3,())))),([117],([(8,(0,([117],())))],(0,(2,())))),([117],([(8,(0,([117],())))],(0,(3,())))),([106],([(8,(0,([106],())))],(0,(0,())))),([118],([(8,(0,([118],())))],(0,(0,())))),([113,117],([(3,(0,([113,117],())))],(0,(1,())))),([103,117],([(3,(0,([103,117],())))],(2,(1,())))),([115,117],([(6,(0,([115],()))),(8,(0,([117],())))],(3,(1,())))),([98],([(3,(0,([98],())))],(0,(0,())))),([99],([(3,(0,([99],())))],(0,(0,())))),([100],([(3,(0,([100],())))],(0,(0,())))),([102],([(3,(0,([102],())))],(0,(0,())))),([103],([(3,(0,([103],())))],(0,(0,())))),([107],([(3,(0,([107],())))],(0,(0,())))),([112],([(3,(0,([112],())))],(0,(0,())))),([116],([(3,(0,([116],())))],(0,(0,())))),([108],([(4,(0,([108],())))],(0,(0,())))),([114],([(4,(0,([114],())))],(0,(0,())))),([109],([(5,(0,([109],())))],(0,(0,())))),([110],([(5,(0,([110],())))],(0,(0,())))),([115],([(6,(0,([115],())))],(0,(0,())))),([120],([(7,(0,([120],())))],(0,(0,())))),([122],([(7,(0,([122],())))],(0,(0,())))),([104],([(9,(0,([104],())))],(0,(0,()))))],()))
theorem afD:iu 2000=some tx:=by kernel_rfl
theorem YC:cK 2000 tx [97,114,109,97]=some ([[0,40,41,0]],0):=by kernel_rfl
theorem YD:cK 2000 tx [116,114,111,105,97,101]=some ([[38,40,3,23,18],[38,40,3,2,18],[38,40,3,23,0,1],[38,40,3,2,0,1]],0):=by kernel_rfl
theorem YE:er 2000 tx [105,97,109]=some ([22,0,41],1,0):=by kernel_rfl
theorem YF:gQ 2000 tx [38,40,3,23,18]=some ([0,1,2,3,3,4],0):=by kernel_rfl
theorem YG:iW 2000 tx [97,114,109,113]=some (3,0):=by kernel_rfl
theorem v11:gp 2000=some true:=by
 unfold gp
 simp only [Kl,g11,afD,aq]
 rw [YC,YD,YE,YF,YG]
 kernel_rfl
theorem Yh (o:aO) (L:List Int) (k:Int) (hi:L.all (cq o)=true):c5 2000 o L k=some (cond (decide (k < 0)) [] (cond (decide (k≥(L.length:Int))) [] (sg o (L.getD k.toNat 0)).2.1)):=by
 unfold c5
 simp only [K1,Dn]
 cases h1:decide (k < 0) with
 | true=>rfl
 | false=>
   cases h2:decide (k≥(L.length:Int)) with
   | true=>rfl
   | false=>
     have e1:=of_decide_eq_false h1
     have e2:=of_decide_eq_false h2
     have c:(0≤k∧k < (L.length:Int))=True:=by rw [eq_iff_iff,iff_true]; omega
     have hm:L.getD k.toNat 0∈L:=by
      rw [z8,fb (by omega)]; exact MO _
     have hx:=gK.1 (fj.1 hi _ hm)
     have c2:(0≤L.getD k.toNat 0∧L.getD k.toNat 0 < (o.2.1.length:Int))=True:=by rw [eq_iff_iff,iff_true]; exact hx
     simp only [aB,c,c2,if_true]
     rfl
theorem afJ {R:Type} (k0:Int→Int→Option R) (K:List Int→aO→Option R) (o:aO) (ho:oE o=0):
  ∀ (ys pre:List Int) (m:Nat),(pre++ys).all (cq o)=true→ys.length < m→(pre++ys).length≤1000→
    s7 (dx 2000) (c5 2000) k0 (fun y0 y1 _=>K y0 y1) m (pre++ys) o (pre.length:Int)=cond (gu o (fQ o pre) ys) (K (pre++ys) o) (k0 0 19):=by
 intro ys
 induction ys with
 | nil=>
   intro pre m hi hm hb
   cases m with
   | zero=>omega
   | succ m=>
     unfold s7
     simp only [xc,w7,w8,w9,xb,xd,sa,dW,aB,gu,cond_true]
 | cons y ys ih=>
   intro pre m hi hm hb
   cases m with
   | zero=>omega
   | succ m=>
     have hwr:=dX pre ys y (by unfold bp; omega)
     have hbp:pre.length < 1000:=by simp at hb; omega
     have hgo:=ih (pre++[y]) m (by rw [←bg]; exact hi) (by simpa using hm) (by rw [←bg]; exact hb)
     rw [←bg,zr] at hgo
     have hfb:=WC ho (l:=pre) (by simp only [nt,au] at hi; exact hi.1)
     have hfit:∀ af,dx 2000 o y (fQ o pre) af=some (fJ o y (fQ o pre) af):=fun af=>v62 o y (fQ o pre) af (by unfold bp; omega)
     have w1:IntKind.i64.wrap ((pre.length:Int) - 1)=(pre.length:Int) - 1:=gk (by omega)
     have n1:c5 2000 o (pre++y::ys) ((pre.length:Int) - 1)=some (fQ o pre):=by
      rw [Yh o _ _ hi]
      rcases tZ pre with h | ⟨p,q,h⟩
      ·subst h; rfl
      ·rw [tY] at h
       subst h
       have e0:(((p++[q]).length:Nat):Int) - 1=(p.length:Int):=by simp
       have e:(p++[q])++y::ys=p++q::(y::ys):=(bg ..).symm
       have g:((p++[q])++y::ys).getD (eI (p.length:Int)) 0=q:=by rw [e]; exact cI _ _ _ _
       have d1:decide ((p.length:Int) < 0)=false:=decide_eq_false (by omega)
       have d2:decide ((p.length:Int)≥((((p++[q])++y::ys).length:Nat):Int))=false:=decide_eq_false (by simp only [b6,dY,dd]; omega)
       rw [e0,g,d1,d2,zr]
       rfl
     have n2:c5 2000 o (pre++y::ys) ((pre++[y]).length:Int)=some (zj o ys):=by
      rw [Yh o _ _ hi]
      have d1:decide (((pre++[y]).length:Int) < 0)=false:=decide_eq_false (by omega)
      rw [d1]
      cases ys with
      | nil=>
        have d2:decide (((pre++[y]).length:Int)≥((pre++y::[]).length:Int))=true:=decide_eq_true (by omega)
        rw [d2]; rfl
      | cons z zs=>
        have e:pre++y::z::zs=(pre++[y])++z::zs:=bg ..
        have d2:decide (((pre++[y]).length:Int)≥((pre++y::z::zs).length:Int))=false:=decide_eq_false (by simp only [b6,dY,dd]; omega)
        have h3:(pre++y::z::zs).getD (eI ((pre++[y]).length:Int)) 0=z:=by rw [e]; exact cI _ _ _ _
        rw [d2,h3]; rfl
     unfold s7
     simp only [xc,w7,w8,w9,xb,xd,sa,dJ,cX,cI,if_true,aK,w1,n1,hwr,n2,hfit,aq,gu]
     cases fJ o y (fQ o pre) (zj o ys) with
     | false=>rfl
     | true=>simp only [dE,aB,fa]; exact hgo
theorem X3 {o:aO} (ho:oE o=0):∀ {l:List Int},l.all (cq o)=true→l.length≤(eE o l).length
 | [],_=>by simp
 | i::r,h=>by
   simp only [dq,au] at h
   have h1:=Aa.2 (jW (kA ho (gK.1 h.1))).2.2.1
   have h2:=X3 ho h.2
   simp only [eE,b6,dY]; omega
theorem v30 (o:aO) (w:List UInt8) (l:List Int) (hl:l.length≤40):il 2000 o w l=some (jr o w l):=by
 unfold il jr
 simp only [xc,w7,w8,w9,xb,xd,sa,v48,aq]
 cases hg:eY o w != 0 with
 | true=>rfl
 | false=>
   obtain ⟨ho,hw0,hw1⟩:=sP (show eY o w=0 by simpa using hg)
   simp only [aB,cond_false,v61 o l (by omega),aq]
   cases hi:l.all (cq o) with
   | false=>rfl
   | true=>
     have e0:((cond true (0:Int) 6) != 0)=false:=rfl
     simp only [e0,dE,aB,cond_false]
     have hge:=X3 ho hi
     cases hd:decide ((l.length:Int) > (w.length:Int)) with
     | true=>
       have h1:=of_decide_eq_true hd
       have:(eE o l != w)=true:=bne_iff_ne.2 fun e=>by rw [e] at hge; omega
       rw [this]; rfl
     | false=>
       simp only [aB,v58 o l ho (by omega) hi,aq]
       cases ht:eE o l != w with
       | true=>rfl
       | false=>
         simp only [aB,cond_false]
         have:=afJ (R:=Int×Int) (fun a b=>some (a,b)) (fun x0 x1=>(fp 2000 x1 x0).bind fun r=>some (r,0)) o ho l [] 2000 (by simpa using hi) (by omega) (by simp; omega)
         simp only [cW,dd] at this
         refine dF this ?_
         have e:fQ o []=[]:=rfl
         rw [e,v39 o l ho hi (by omega)]
         cases gu o [] l<;>rfl
theorem af9 {R:Type} (k0:Bool→Option R) (K:Option R):
  ∀ (ys pre zs pre2:List Int) (m:Nat),ys.length < m→(pre++ys).length≤bp→pre.length=pre2.length→ys.length=zs.length→
    tf k0 (fun _ _ _=>K) m (pre++ys) (pre2++zs) (pre.length:Int)=ad (ys==zs) K (k0 false):=by
 intro ys
 induction ys with
 | nil=>
   intro pre zs pre2 m hm hb hp hz
   have:zs=[]:=kG.1 hz.symm
   subst this
   cases m with
   | zero=>omega
   | succ m=>
     unfold tf
     simp only [xY,xU,xV,xW,xX,xZ,su,dW,aB]
     rfl
 | cons y ys ih=>
   intro pre zs pre2 m hm hb hp hz
   obtain ⟨z,zs,rfl⟩:∃ z zs',zs=z::zs':=by
    cases zs with
    | nil=>simp at hz
    | cons z zs=>exact ⟨z,zs,rfl⟩
   cases m with
   | zero=>omega
   | succ m=>
     have hwr:=dX pre ys y hb
     have i2:(0≤(pre.length:Int)∧(pre.length:Int) < ((pre2++z::zs).length:Int))=True:=by rw [hp]; exact cX _ _ _
     have a2:(pre2++z::zs).getD (eI (pre.length:Int)) (0:Int)=z:=by rw [hp]; exact cI _ _ _ _
     have e:((y::ys)==(z::zs))=(y==z&&ys==zs):=rfl
     unfold tf
     simp only [xY,xU,xV,xW,xX,xZ,su,dJ,cX,cI,if_true,aK,hwr,i2,a2,e]
     cases h:y==z with
     | false=>
       have:(y != z)=true:=by unfold bne; rw [h]; rfl
       simp only [this,aK,hN,aB]
     | true=>
       have:(y != z)=false:=by unfold bne; rw [h]; rfl
       simp only [this,aB,fa]
       rw [bg pre ys y,bg pre2 zs z]
       exact ih (pre++[y]) zs (pre2++[z]) m (by simpa using hm) (by rw [←bg]; exact hb) (by simp [hp]) (by simpa using hz)
theorem v53 (a b:List Int) (h:a.length < 2000):bC 2000 a b=some (a==b):=by
 unfold bC
 simp only [xY,xU,xV,xW,xX,xZ,su]
 by_cases hl:a.length=b.length
 ·have e:((a.length:Int) != (b.length:Int))=false:=by simp [hl]
  have:=af9 (R:=Bool) some (some true) a [] b [] 2000 h (by unfold bp; simp; omega) rfl hl
  simp only [cW,dd] at this
  simp only [e,aB]
  refine dF this ?_
  cases a==b<;>rfl
 ·have e:((a.length:Int) != (b.length:Int))=true:=bne_iff_ne.2 (by omega)
  simp only [e,aK]
  have:(a==b)=false:=beq_eq_false_iff_ne.2 fun e=>hl (congrArg kF e)
  rw [this]
theorem af6 {R:Type} (k0:Bool→Option R) (K:Option R) (x:List Int):
  ∀ (ys pre:List (List Int)) (m:Nat),ys.length < m→(pre++ys).length≤bp→(∀ y∈ys,y.length < 2000)→
    s8 (bC 2000) k0 (fun _ _ _=>K) m (pre++ys) x (pre.length:Int)=ad (ys.any (· ==x)) (k0 true) K:=by
 intro ys
 induction ys with
 | nil=>
   intro pre m hm hb hy
   cases m with
   | zero=>omega
   | succ m=>
     unfold s8
     simp only [xe,xf,xg,xi,xj,xk,sc,dW,aB,tX]
 | cons y ys ih=>
   intro pre m hm hb hy
   cases m with
   | zero=>omega
   | succ m=>
     have hwr:=dX pre ys y hb
     have hgo:=ih (pre++[y]) m (by simpa using hm) (by rw [←bg]; exact hb) (fun z hz=>hy z (fk _ hz))
     rw [←bg] at hgo
     unfold s8
     simp only [xe,xf,xg,xi,xj,xk,sc,dJ,cX,cI,if_true,aK,hwr,v53 y x (hy y (by simp)),aq,nu]
     cases y==x with
     | true=>rfl
     | false=>simp only [aB,nr]; exact hgo
theorem v31 (L:List (List Int)) (x:List Int) (h:L.length < 2000) (hy:∀ y∈L,y.length < 2000):im 2000 L x=some (L.any (· ==x)):=by
 unfold im
 simp only [xe,xf,xg,xi,xj,xk,sc]
 have:=af6 (R:=Bool) some (some false) x L [] 2000 h (by unfold bp; simp; omega) hy
 simp only [cW,dd] at this
 refine dF this ?_
 cases L.any (· ==x)<;>rfl
theorem IJ {o:aO} {w:List UInt8} {l:List Int} (hg:eY o w=0):(jr o w l).2=0↔l∈W0 o w:=by
 obtain ⟨ho,hw0,hw1⟩:=sP hg
 rw [YB ho hw0]
 unfold jr
 rw [show (eY o w != 0)=false by simp [hg],cond_false]
 cases l.all (cq o) with
 | false=>exact ⟨(fun h=>by cases h),fun h=>by cases h.1⟩
 | true=>
   simp only [dE,cond_false]
   cases ht:eE o l != w with
   | true=>exact ⟨(fun h=>by cases h),fun h=>absurd h.2.1 (bne_iff_ne.1 ht)⟩
   | false=>
     have ht':eE o l=w:=by simpa using ht
     simp only [cond_false]
     cases gu o [] l with
     | true=>exact ⟨fun _=>⟨trivial,ht',rfl⟩,fun _=>rfl⟩
     | false=>exact ⟨(fun h=>by cases h),fun h=>by cases h.2.2⟩
theorem Sf {o:aO} {w:List UInt8} {l:List Int} (h:(jr o w l).2=0):eY o w=0∧(jr o w l).1=dR o l:=by
 unfold jr at h ⊢
 cases hg:eY o w != 0 with
 | true=>rw [hg,cond_true] at h; simp only at h; rw [h] at hg; cases hg
 | false=>
   rw [hg,cond_false] at h
   have hg0:eY o w=0:=by simpa using hg
   cases hi:l.all (cq o) with
   | false=>rw [hi] at h; cases h
   | true=>
     rw [hi] at h
     cases ht:eE o l != w with
     | true=>rw [ht] at h; cases h
     | false=>
       rw [ht] at h
       cases hc:gu o [] l with
       | false=>rw [hc] at h; cases h
       | true=>exact ⟨hg0,rfl⟩
theorem ahv (o:aO) (w:List UInt8) (l:List Int):S8 2000 o w l=some true:=by
 unfold S8
 obtain ⟨b,hb,hs⟩:=v12 o w l
 simp only [Lb,g8,v11,hb,aq,dE,aB]
 cases b with
 | false=>simp only [fv,aK]
 | true=>
   have hl:=(hs rfl).2
   simp only [dE,aB,v29 o w l hl,v30 o w l hl,Ya,v13,aq,bne_self_eq_false]
   cases ha:(gG o w).2 != 0 with
   | true=>
     simp only [aK]
     cases hc:(jr o w l).2 != 0 with
     | true=>rfl
     | false=>
       have hc0:(jr o w l).2=0:=by simpa using hc
       have hg:=(Sf hc0).1
       have hm:=(IJ hg).1 hc0
       have:(gG o w).2=3:=by
        unfold gG at ha ⊢
        rw [show (eY o w != 0)=false by simp [hg],cond_false] at ha ⊢
        have hne:((W0 o w).length==0)=false:=by
         rw [beq_eq_false_iff_ne]; intro e
         rw [kG.1 e] at hm; cases hm
        rw [hne,cond_false] at ha ⊢
        cases hd:decide (200 < (W0 o w).length) with
        | true=>rfl
        | false=>rw [hd] at ha; cases ha
       rw [this]; rfl
   | false=>
     have ha0:(gG o w).2=0:=by simpa using ha
     obtain ⟨hg,hne,h200,h1⟩:=M4 ha0
     have hp:=CB o (W0 o w)
     have hH:=v31 (gG o w).1 l (by rw [h1,hp.length_eq]; omega) (by
      intro y hy
      rw [h1] at hy
      have:=(Al hg (hp.mem_iff.1 hy)).2
      omega)
     simp only [aB,hH,aq]
     have hany:((gG o w).1.any (· ==l))=((jr o w l).2==0):=by
      rw [qB,List.any_eq_true,beq_iff_eq,IJ hg,h1]
      constructor
      ·rintro ⟨x,hx,h2⟩
       rw [←(beq_iff_eq.1 h2)]; exact hp.mem_iff.1 hx
      ·intro h2
       exact ⟨l,hp.mem_iff.2 h2,by simp⟩
     rw [hany]
     simp only [beq_self_eq_true,aK]
     cases hc:(jr o w l).2 != 0 with
     | true=>rfl
     | false=>
       have hc0:(jr o w l).2=0:=by simpa using hc
       obtain ⟨a,r,h2,_,h4⟩:=Sv hne
       have h5:=h4 l ((IJ hg).1 hc0)
       have hbest:(Ax o w).2.1=dR o a:=by
        unfold Ax
        rw [show ((gG o w).2 != 0)=false from ha,cond_false,h1,h2]
        rfl
       rw [hbest,(Sf hc0).2]
       have:decide (dR o l≥dR o a)=true:=decide_eq_true h5
       simp only [aB,this]
end Go.Fw.L19
