/- Own work. -/
import Derived.Test.YtooiookccchmeaaGreatFwMr13
import Derived.Test.YtooiookccchmeaaGreatFwB6
import Derived.Test.YtooiookccchmeaaGreatFwB7
set_option linter.unusedVariables false
set_option linter.unusedSimpArgs false
open Bool renaming not_true → eb, not_false → fo, and_eq_true → au, true_or → tT, false_or → oi, or_eq_true → na, false_eq_true → ea, and_true → gR, eq_iff_iff → tS, true_and → fF, false_and → jc, not_eq_true' → dq, and_false → Dv
open Eq renaming trans → dB
open Int renaming toNat → fG, toNat_natCast → mw, lt_trichotomy → LI
open List renaming length_pos_iff → zn, all_eq_true → fq, mem_range → DH, map_nil → qT, map_cons → fQ, append_assoc → bJ, singleton_append → LS, length_append → cq, length_cons → dV, length_map → nc, length_nil → dI, nil_append → dd, replicate → fc, any_nil → zj, any_cons → ot, length_eq_zero_iff → mz, length → jV, all_cons → dN, all_nil → my, length_singleton → iG, mem_append → dx, mem_singleton → iI, mem_cons_of_mem → eR, eq_nil_or_concat → LN, concat_eq_append → LL, all_eq_false → LK, mem_map → dc, mem_cons → cL, getD_eq_getElem?_getD → qR, getElem?_eq_getElem → eX, getElem_mem → LQ, append_nil → je, length_replicate → zo, take_of_length_le → LU, length_drop → kQ, flatMap_cons → zk, mem_flatMap → DG, pairwise_cons → zp, drop_drop → tX, drop_left → Dz, foldl_cons → tY, length_set → kp
open List.cons renaming injEq → gr
open Nat renaming zero_add → kr
open Option renaming bind_some → aq
open Prod.mk renaming injEq → eE
open UInt8 renaming ofNat → kx
namespace Go.Fw.L19
open Go Go.Fw
set_option maxRecDepth 100000
abbrev WM:Type:=Int×(Int×(List (List UInt8)×Unit))
abbrev Lic:Type:=List UInt8×(List WM×Unit)
def sm (c:Int):Bool:=decide (c≥97)&&decide (c≤122)
def dg (c:Int):Bool:=decide (c≥48)&&decide (c≤57)
theorem Wy (c:Int):cI 2000 c=some (sm c):=by
 unfold cI sm
 simp only [JH,Ct]
 cases decide (c≥97)<;>rfl
theorem Lw (c:Int):cF 2000 c=some (sm c):=by
 unfold cF sm
 simp only [Jx,Cj]
 cases decide (c≥97)<;>rfl
theorem arY (c:Int):dh 2000 c=some (dg c):=by
 unfold dh dg
 simp only [JI,Cu]
 cases decide (c≥48)<;>rfl
theorem Wx (c:Int):bw 2000 c=some (dg c):=by
 unfold bw dg
 simp only [Jy,Ck]
 cases decide (c≥48)<;>rfl
theorem aed (s:List UInt8) (hs:s.length≤bG) {R:Type} (k:Int→Option R):
  ∀ (m:Nat) (i:Int),0≤i→i≤s.length+1→yB (cI 2000) (dh 2000) k (fun _ i=>k i) m s i=qe (cF 2000) (bw 2000) (fun _ i=>k i) m s i:=by
 intro m
 induction m with
 | zero=>intro i _ _; rfl
 | succ m ih=>
   intro i h0 h1
   unfold yB qe
   simp only [Cp,Cm,Cn,Co,Cq,v7,vr,vo,vp,vq,vt,r9,Wy,arY,Lw,Wx,aq]
   by_cases hi:i < (s.length:Int)
   ·have d:decide (i < (s.length:Int))=true:=decide_eq_true hi
    have hb:0≤i∧i < (s.length:Int):=⟨h0,hi⟩
    have w1:IntKind.i64.wrap (i+1)=i+1:=fm (by unfold bG at hs; omega)
    have w2:IntKind.i64.wrap (i+2)=i+2:=fm (by unfold bG at hs; omega)
    simp only [d,aL,if_pos hb,w1,w2]
    generalize hc:((s.getD i.toNat 0).toNat:Int)=c
    cases h3:sm c with
    | true=>simp only [aL]; exact ih (i+1) (by omega) (by omega)
    | false=>
      simp only [aB]
      cases h4:dg c with
      | true=>simp only [aL]; exact ih (i+1) (by omega) (by omega)
      | false=>
        simp only [aB]
        by_cases h5:c=45
        ·have e1:(c==(45:Int))=true:=by simpa using h5
         have e2:(c != (45:Int))=false:=by simp [h5]
         simp only [e1,e2,aL,aB]
         by_cases h6:i+1 < (s.length:Int)
         ·have e3:decide (i+1 < (s.length:Int))=true:=decide_eq_true h6
          have e4:((i+1)==(s.length:Int))=false:=by
           simp only [beq_eq_false_iff_ne,ne_eq]; omega
          have hb2:0≤i+1∧i+1 < (s.length:Int):=by omega
          simp only [e3,e4,aL,aB,if_pos hb2]
          generalize ((s.getD (i+1).toNat 0).toNat:Int)=c2
          cases h7:sm c2 with
          | true=>simp only [aL,eb,aB]; exact ih (i+2) (by omega) (by omega)
          | false=>
            simp only [aB,fo,aL]
            cases h8:dg c2 with
            | true=>simp only [aL,eb,aB]; exact ih (i+2) (by omega) (by omega)
            | false=>simp only [aB,fo,aL]
         ·have e3:decide (i+1 < (s.length:Int))=false:=decide_eq_false h6
          have e4:((i+1)==(s.length:Int))=true:=by
           simp only [beq_iff_eq]; omega
          simp only [e3,e4,aL,aB]
        ·have e1:(c==(45:Int))=false:=by simpa using h5
         have e2:(c != (45:Int))=true:=by simpa using h5
         simp only [e1,e2,aL,aB]
   ·have d:decide (i < (s.length:Int))=false:=decide_eq_false hi
    simp only [d,aB]
theorem aee (s:List UInt8) (hs:s.length≤bG):
  ∀ (m:Nat) (i:Int),0≤i→i≤s.length+1→(s.length:Int)+1 - i < m→∃ n,qe (cF 2000) (bw 2000) (fun _ i=>some i) m s i=some n:=by
 intro m
 induction m with
 | zero=>intro i h0 h1 h2; omega
 | succ m ih=>
   intro i h0 h1 h2
   unfold qe
   simp only [vr,vo,vp,vq,vt,r9,Lw,Wx,aq]
   by_cases hi:i < (s.length:Int)
   ·have d:decide (i < (s.length:Int))=true:=decide_eq_true hi
    have hb:0≤i∧i < (s.length:Int):=⟨h0,hi⟩
    have w1:IntKind.i64.wrap (i+1)=i+1:=fm (by unfold bG at hs; omega)
    have w2:IntKind.i64.wrap (i+2)=i+2:=fm (by unfold bG at hs; omega)
    simp only [d,aL,if_pos hb,w1,w2]
    generalize hc:((s.getD i.toNat 0).toNat:Int)=c
    cases h3:sm c with
    | true=>simp only [aL]; exact ih (i+1) (by omega) (by omega) (by omega)
    | false=>
      simp only [aB]
      cases h4:dg c with
      | true=>simp only [aL]; exact ih (i+1) (by omega) (by omega) (by omega)
      | false=>
        simp only [aB]
        cases e2:(c != (45:Int)) with
        | true=>exact ⟨i,by simp only [aL]⟩
        | false=>
          simp only [aB]
          by_cases h6:i+1 < (s.length:Int)
          ·have e4:((i+1)==(s.length:Int))=false:=by
            simp only [beq_eq_false_iff_ne,ne_eq]; omega
           have hb2:0≤i+1∧i+1 < (s.length:Int):=by omega
           simp only [e4,aB,if_pos hb2]
           generalize ((s.getD (i+1).toNat 0).toNat:Int)=c2
           cases h7:sm c2 with
           | true=>simp only [eb,aB]; exact ih (i+2) (by omega) (by omega) (by omega)
           | false=>
             simp only [fo,aL]
             cases h8:dg c2 with
             | true=>simp only [eb,aB]; exact ih (i+2) (by omega) (by omega) (by omega)
             | false=>exact ⟨i,by simp only [fo,aL]⟩
          ·have e4:((i+1)==(s.length:Int))=true:=by
            simp only [beq_iff_eq]; omega
           exact ⟨i,by simp only [e4,aL]⟩
   ·have d:decide (i < (s.length:Int))=false:=decide_eq_false hi
    exact ⟨i,by simp only [d,aB]⟩
theorem v141 (s:List UInt8) (hs:s.length < 1900):∃ n,gV 2000 s=some n∧gS 2000 s=some n:=by
 have hb:s.length≤bG:=by unfold bG; omega
 have e1:=aed s hb (R:=Int) some 2000 1 (by omega) (by omega)
 obtain ⟨n,e2⟩:=aee s hb 2000 1 (by omega) (by omega) (by omega)
 unfold gV gS
 simp only [Cp,Cm,Cn,Co,Cq,v7,vr,vo,vp,vq,vt,r9,Wy,Lw,aq]
 cases h0:(s==([]:List UInt8)) with
 | true=>exact ⟨0,by simp only [aL],by simp only [aL]⟩
 | false=>
   have hne:s≠[]:=by simpa using h0
   have hp:0 < s.length:=zn.2 hne
   have hb0:(0:Int)≤0∧(0:Int) < (s.length:Int):=by omega
   simp only [aB,if_pos hb0]
   cases sm ((s.getD (0:Int).toNat 0).toNat:Int) with
   | false=>exact ⟨0,by simp only [fo,aL],by simp only [fo,aL]⟩
   | true=>
     refine ⟨n,?_,?_⟩
     ·simp only [eb,aB]
      rw [e2] at e1; exact e1
     ·simp only [eb,aB]
      exact e2
theorem arS (s:List UInt8):∃ b,fe 2000 s=some b∧eZ 2000 s=some b:=by
 unfold fe eZ
 simp only [Jr,Cf,Kd,CK]
 cases h0:(s != ([]:List UInt8)) with
 | false=>exact ⟨false,by simp only [aB],by simp only [aB]⟩
 | true=>
   simp only [aL]
   by_cases h1:(s.length:Int)≤20
   ·obtain ⟨n,e1,e2⟩:=v141 s (by omega)
    have d:decide ((s.length:Int)≤20)=true:=decide_eq_true h1
    exact ⟨n==(s.length:Int),by simp only [d,aL,e1,aq],by simp only [d,aL,e2,aq]⟩
   ·have d:decide ((s.length:Int)≤20)=false:=decide_eq_false h1
    exact ⟨false,by simp only [d,aB],by simp only [d,aB]⟩
def cR (c:Int):Bool:=match bu 2000 c with | some b=>b | none=>false
theorem ad0:((List.range 256).all fun n=>ca 2000 (n:Int)==some (cR (n:Int))&&bu 2000 (n:Int)==some (cR (n:Int)))=true:=by kernel_rfl
theorem Ds (b:UInt8):ca 2000 (b.toNat:Int)=some (cR (b.toNat:Int))∧bu 2000 (b.toNat:Int)=some (cR (b.toNat:Int)):=by
 have:=fq.1 ad0 b.toNat (DH.2 b.toNat_lt)
 simp only [au,beq_iff_eq] at this
 exact this
def fl (b:UInt8):UInt8:=if 65≤b.toNat∧b.toNat≤90 then kx (b.toNat+32) else b
def fold (s:List UInt8):List UInt8:=s.map fl
theorem RF (b:UInt8) (h:65≤b.toNat∧b.toNat≤90):IntKind.u8.wrap (IntKind.u8.wrap ((b.toNat:Int) - 65)+97)=((fl b).toNat:Int):=by
 have e:(fl b).toNat=b.toNat+32:=by
  unfold fl; rw [if_pos h]
  simp [UInt8.toNat_ofNat]
  omega
 rw [e]
 have w:∀ n:Int,0≤n→n≤255→IntKind.u8.wrap n=n:=by
  intro n h0 h1
  simp only [IntKind.wrap,IntKind.signed,IntKind.bits]
  simp
  omega
 rw [w ((b.toNat:Int) - 65) (by omega) (by omega),w ((b.toNat:Int) - 65+97) (by omega) (by omega)]
 omega
theorem Mg (s:List UInt8):(s.map fun b=>(b.toNat:Int)).map (fun n=>kx n.toNat)=s:=by
 rw [List.map_map]
 conv=>rhs; rw [←List.map_id s]
 apply List.map_congr_left
 intro b _
 simp
theorem VS {α:Type} (pre ys:List α) (y z:α):(pre++y::ys).set (fG (pre.length:Int)) z=pre++z::ys:=by simp
theorem tv {α:Type} (pre ys:List α) (y:α):(fG (pre.length:Int) < (pre++y::ys).length)=True:=by simp
theorem ad7 {R:Type} (k0:List Int→Int→Int→Option R):
  ∀ (ys:List UInt8) (pre:List Int) (m:Nat),ys.length < m→(pre++ys.map fun b=>(b.toNat:Int)).length≤bG→
    tl k0 m (pre++ys.map fun b=>(b.toNat:Int)) ((pre++ys.map fun b=>(b.toNat:Int)).length:Int) (pre.length:Int)=k0 (pre++(fold ys).map fun b=>(b.toNat:Int)) ((pre++ys.map fun b=>(b.toNat:Int)).length:Int) ((pre++ys.map fun b=>(b.toNat:Int)).length:Int):=by
 intro ys
 induction ys with
 | nil=>
   intro pre m hm hb
   cases m with
   | zero=>simp at hm
   | succ m=>
     unfold tl
     simp only [xP,xL,xM,xN,xO,xQ,sN,qT,er,aB]
     simp [fold]
 | cons y ys ih=>
   intro pre m hm hb
   cases m with
   | zero=>simp at hm
   | succ m=>
     rw [fQ] at hb ⊢
     unfold tl
     simp only [xP,xL,xM,xN,xO,xQ,sN,ei,dG,c9,if_true,aL,tv,VS,ew pre _ _ hb]
     by_cases h1:65≤y.toNat∧y.toNat≤90
     ·have d1:decide ((y.toNat:Int)≥65)=true:=decide_eq_true (by omega)
      have d2:decide ((y.toNat:Int)≤90)=true:=decide_eq_true (by omega)
      simp only [d1,d2,aL,RF y h1]
      have:=ih (pre++[((fl y).toNat:Int)]) m (by simpa using hm) (by simpa using hb)
      simp only [bJ,LS,cq,dV,nc,dI] at this ⊢
      simp only [fold,fQ] at this ⊢
      exact this
     ·have hf:fl y=y:=by unfold fl; rw [if_neg h1]
      have step:=ih (pre++[(y.toNat:Int)]) m (by simpa using hm) (by simpa using hb)
      simp only [bJ,LS,cq,dV,nc,dI] at step ⊢
      simp only [fold,fQ,hf] at step ⊢
      by_cases h2:65≤y.toNat
      ·have d1:decide ((y.toNat:Int)≥65)=true:=decide_eq_true (by omega)
       have d2:decide ((y.toNat:Int)≤90)=false:=decide_eq_false (by omega)
       simp only [d1,d2,aL,aB]
       exact step
      ·have d1:decide ((y.toNat:Int)≥65)=false:=decide_eq_false (by omega)
       simp only [d1,aB]
       exact step
theorem v72 (s:List UInt8) (hs:s.length < 2000):ep 2000 s=some (fold s):=by
 unfold ep
 have:=ad7 (R:=List UInt8) (fun x _ _=>some (x.map fun n=>kx n.toNat)) s [] 2000 hs (by unfold bG; simp; omega)
 simp only [xP,xL,xM,xN,xO,xQ,sN]
 simp only [dd,dI,Mg] at this
 exact this
theorem ad8 {R:Type} (k0:List UInt8→List Int→Int→Option R):
  ∀ (ys pre:List UInt8) (m:Nat),ys.length < m→(pre++ys).length≤bG→
    sZ k0 m (pre++ys) ((fold pre).map (fun b=>(b.toNat:Int))++fc ys.length 0) (pre.length:Int)=k0 (pre++ys) ((fold (pre++ys)).map fun b=>(b.toNat:Int)) ((pre++ys).length:Int):=by
 intro ys
 induction ys with
 | nil=>
   intro pre m hm hb
   cases m with
   | zero=>simp at hm
   | succ m=>
     unfold sZ
     simp only [vm,vi,vj,vk,vl,vn,r8,er,aB]
     simp
 | cons y ys ih=>
   intro pre m hm hb
   cases m with
   | zero=>simp at hm
   | succ m=>
     have hpl:((fold pre).map (fun b=>(b.toNat:Int))).length=pre.length:=by simp [fold]
     have e1:∀ z:Int,(((fold pre).map (fun b=>(b.toNat:Int))++z::fc ys.length 0).length:Int)=((pre++y::ys).length:Int):=by intro z; simp [fold]
     have e2:∀ z z2:Int,((fold pre).map (fun b=>(b.toNat:Int))++z::fc ys.length 0).set (fG (pre.length:Int)) z2=(fold pre).map (fun b=>(b.toNat:Int))++z2::fc ys.length 0:=by
      intro z z2
      have:=VS ((fold pre).map (fun b=>(b.toNat:Int))) (fc ys.length 0) z z2
      rw [hpl] at this; exact this
     have e3:∀ z:Int,(fG (pre.length:Int) < ((fold pre).map (fun b=>(b.toNat:Int))++z::fc ys.length 0).length)=True:=by intro z; simp [fold]
     rw [dV,List.replicate_succ]
     unfold sZ
     simp only [vm,vi,vj,vk,vl,vn,r8,e1,e2,e3,ei,dG,c9,if_true,aL,ew pre _ _ hb]
     have fin:(fold (pre++[y])).map (fun b=>(b.toNat:Int))=(fold pre).map (fun b=>(b.toNat:Int))++[((fl y).toNat:Int)]:=by simp [fold]
     have step:=ih (pre++[y]) m (by simpa using hm) (by simpa using hb)
     rw [fin] at step
     simp only [bJ,LS] at step
     by_cases h1:65≤y.toNat∧y.toNat≤90
     ·have d1:decide ((y.toNat:Int)≥65)=true:=decide_eq_true (by omega)
      have d2:decide ((y.toNat:Int)≤90)=true:=decide_eq_true (by omega)
      simp only [d1,d2,aL,RF y h1]
      exact step
     ·have hf:fl y=y:=by unfold fl; rw [if_neg h1]
      rw [hf] at step
      by_cases h2:65≤y.toNat
      ·have d1:decide ((y.toNat:Int)≥65)=true:=decide_eq_true (by omega)
       have d2:decide ((y.toNat:Int)≤90)=false:=decide_eq_false (by omega)
       simp only [d1,d2,aL,aB]
       exact step
      ·have d1:decide ((y.toNat:Int)≥65)=false:=decide_eq_false (by omega)
       simp only [d1,aB]
       exact step
theorem arQ (s:List UInt8) (hs:s.length < 2000):fr 2000 s=some (fold s):=by
 unfold fr
 have:=ad8 (R:=List UInt8) (fun _ x _=>some (x.map fun n=>kx n.toNat)) s [] 2000 hs (by unfold bG; simp; omega)
 have hb:0≤(s.length:Int)∧(s.length:Int)≤(s.length:Int)∧(s.length:Int)≤((140737488355328:Nat):Int):=by omega
 simp only [vm,vi,vj,vk,vl,vn,r8,if_pos hb,mw]
 simp only [dd,dI,Mg,fold,qT] at this
 exact this
abbrev bU:Type:=Int×(Int×(List UInt8×Unit))
abbrev s0:bU:=((0:Int),((0:Int),([],())))
def gA (s:bU):Bool:=s.1==1 || s.1==2
theorem v87 (s:bU):cU 2000 s=some (gA s):=by
 unfold cU
 simp only [Kc,sR,gA]
 cases h:(s.1==(1:Int))<;>simp only [aL,aB,tT,oi]
theorem as9 (s:bU):ft 2000 s=some (gA s):=by
 unfold ft
 simp only [Jm,Ce,gA]
 cases h:(s.1==(1:Int))<;>simp only [aL,aB,tT,oi]
def asQ (l:List bU):Int:=
 if 0 < l.length∧gA (l.getD (l.length - 1) s0)=true then 1
 else if 1 < l.length∧gA (l.getD (l.length - 2) s0)=true∧(l.getD (l.length - 1) s0).1=5∧(l.getD (l.length - 1) s0).2.2.1=[109] then 2
 else 0
theorem atc {n k:Nat} (h:k≤n) (hb:n≤bG):IntKind.i64.wrap ((n:Int) - (k:Int))=((n - k:Nat):Int):=by
 rw [fm]
 ·omega
 ·unfold bG at hb; omega
def nb (s:bU):Bool:=s.1 != 9
def jr (p:bU→Bool):List bU→Nat→Int
 | [],_=> -1
 | y::ys,i=>if p y then (i:Int) else jr p ys (i+1)
def asX (l:List bU):Int:=if jr nb l 0 < 0 then (l.length:Int) else jr nb l 0
def uu:List bU→Nat→Int
 | [],_=> -1
 | y::ys,i=>if gA y then (i:Int) else if nb y then -1 else uu ys (i+1)
def asC (l:List bU):Bool:=decide (0≤uu l 0)
theorem RC (p:bU→Bool):∀ (l:List bU) (i:Nat),jr p l i= -1∨((i:Int)≤jr p l i∧jr p l i < (i:Int)+l.length)
 | [],i=>.inl rfl
 | y::ys,i=>by
   simp only [jr]
   split
   ·right; simp; omega
   ·rcases RC p ys (i+1) with h | h
    ·exact .inl h
    ·right; simp only [dV]; omega
theorem afC {s:bU} (h:gA s=true):nb s=true:=by
 unfold gA at h; unfold nb
 simp only [na,beq_iff_eq] at h
 simp only [bne_iff_ne,ne_eq]
 omega
theorem Xk:∀ (l:List bU) (i:Nat),(uu l i=if 0≤jr nb l i∧gA (l.getD (jr nb l i - i).toNat s0)=true then jr nb l i else -1)
 | [],i=>by simp [uu,jr]
 | y::ys,i=>by
   simp only [uu,jr]
   by_cases h1:gA y=true
   ·simp only [h1,afC h1,if_true]
    have:(0:Int)≤(i:Int):=by omega
    simp [this,h1]
   ·have h1:gA y=false:=by simpa using h1
    simp only [h1,ea,if_false]
    by_cases h2:nb y=true
    ·simp only [h2,if_true]
     simp [h1]
    ·have h2:nb y=false:=by simpa using h2
     simp only [h2,ea,if_false]
     rw [Xk ys (i+1)]
     rcases RC nb ys (i+1) with h | h
     ·rw [h]; simp
     ·have e:(jr nb ys (i+1) - (i:Int)).toNat=(jr nb ys (i+1) - ((i+1:Nat):Int)).toNat+1:=by omega
      rw [e]
      simp only [List.getD_cons_succ]
def jF (c:Int):Bool:=(decide (c≥97)&&decide (c≤122)) || ((decide (c≥48)&&decide (c≤57)) || ((c==95) || ((c==94) || (c==39))))
def fh (s:List UInt8):Bool:=s.any fun b=>!jF (b.toNat:Int)
theorem ar0 (c:Int):gZ 2000 c=some (jF c):=by
 unfold gZ jF
 simp only [JM,Cy]
 cases decide (c≥97)<;>cases decide (c≤122)<;>cases decide (c≥48)<;>cases decide (c≤57)<;>cases (c==95)<;>cases (c==94)<;>rfl
theorem arW (c:Int):dt 2000 c=some (jF c):=by
 unfold dt jF
 simp only [Jz,Cl]
 cases decide (c≥97)<;>cases decide (c≤122)<;>cases decide (c≥48)<;>cases decide (c≤57)<;>cases (c==95)<;>cases (c==94)<;>rfl
theorem WG {c:Int} (h:128≤c):jF c=false:=by
 unfold jF
 have h1:decide (c≤122)=false:=decide_eq_false (by omega)
 have h2:decide (c≤57)=false:=decide_eq_false (by omega)
 have h3:(c==95)=false:=by simp; omega
 have h4:(c==94)=false:=by simp; omega
 have h5:(c==39)=false:=by simp; omega
 rw [h1,h2,h3,h4,h5]; simp
theorem v154 (c:Int):gY 2000 c=some (!jF c):=by
 unfold gY
 simp only [JL,Cx,ar0,aq]
theorem XA (s:ByteArray) (i:Nat) (h:128≤(s.get! (i+0)).toNat):128≤(Utf8.decode s i).1:=by
 unfold Utf8.decode
 simp only [Utf8.runeError]
 rw [if_neg (by omega)]
 repeat' split
 all_goals first | (simp only; omega) | (simp only [ge_iff_le,au,decide_eq_true_eq] at *; omega)
theorem XC (s:ByteArray) (i:Nat) (h:(s.get! (i+0)).toNat < 128):Utf8.decode s i=((s.get! (i+0)).toNat,1):=by
 unfold Utf8.decode
 simp only
 rw [if_pos h]
theorem get_at (pre ys:List UInt8) (y:UInt8):(⟨⟨pre++y::ys⟩⟩:ByteArray).get! (pre.length+0)=y:=by
 show (⟨pre++y::ys⟩:Array UInt8)[pre.length+0]! =y
 simp
theorem ad9 (f:Int×Unit→Option Bool) (hf:∀ c,f (c,())=some (!jF c)) {R:Type} (k0:Int→Option R) (k2:(Int×Unit→Option Bool)→Bool→List UInt8→Nat→Bool→Option R) (e:Option R) (hk:∀ a b c d g,k2 a b c d g=e):
  ∀ (ys pre:List UInt8) (m:Nat),ys.length < m→
    ∃ j:Int,0≤j∧s9 k0 k2 m f true (pre++ys) pre.length=(if fh ys=true then k0 j else e):=by
 intro ys
 induction ys with
 | nil=>
   intro pre m hm
   cases m with
   | zero=>simp at hm
   | succ m=>
     refine ⟨0,by omega,?_⟩
     have h:decide (pre.length < (pre++([]:List UInt8)).length)=false:=by simp
     unfold s9
     simp only [wI,wJ,wK,wL,wM,wN,sk,h,aB,hk,fh,zj,ea,if_false]
 | cons y ys ih=>
   intro pre m hm
   cases m with
   | zero=>simp at hm
   | succ m=>
     have h:decide (pre.length < (pre++y::ys).length)=true:=by simp
     unfold s9
     simp only [wI,wJ,wK,wL,wM,wN,sk,h,aL,hf,aq]
     by_cases hy:y.toNat < 128
     ·have hd:Utf8.decode ⟨⟨pre++y::ys⟩⟩ pre.length=(y.toNat,1):=by
       have:=XC ⟨⟨pre++y::ys⟩⟩ pre.length (by rw [get_at]; exact hy)
       rwa [get_at] at this
      simp only [hd]
      cases hw:jF (y.toNat:Int) with
      | false=>
        refine ⟨(pre.length:Int),by omega,?_⟩
        have:fh (y::ys)=true:=by unfold fh; rw [ot,hw]; rfl
        simp only [fo,beq_self_eq_true,aL,this,if_true]
      | true=>
        obtain ⟨j,hj,h2⟩:=ih (pre++[y]) m (by simpa using hm)
        refine ⟨j,hj,?_⟩
        have e1:fh (y::ys)=fh ys:=by unfold fh; rw [ot,hw]; rfl
        have e2:((!true)==true)=false:=rfl
        have e3:pre.length+1=(pre++[y]).length:=by simp
        simp only [e2,aB]
        rw [e1,←h2,←bC pre ys y,←e3]
     ·have hd:128≤(Utf8.decode ⟨⟨pre++y::ys⟩⟩ pre.length).1:=XA _ _ (by rw [get_at]; omega)
      have hw1:jF ((Utf8.decode ⟨⟨pre++y::ys⟩⟩ pre.length).1:Int)=false:=WG (by omega)
      have hw2:jF (y.toNat:Int)=false:=WG (by omega)
      have:fh (y::ys)=true:=by unfold fh; rw [ot,hw2]; rfl
      refine ⟨(pre.length:Int),by omega,?_⟩
      simp only [hw1,fo,beq_self_eq_true,aL,this,if_true]
theorem arZ (f:Int×Unit→Option Bool) (hf:∀ c,f (c,())=some (!jF c)) (s:List UInt8) (hs:s.length < 2000):gX 2000 s f=some (fh s):=by
 obtain ⟨j,hj,h⟩:=ad9 f hf (R:=Int) some (fun _ _ _ _ _=>some (-1)) (some (-1)) (fun _ _ _ _ _=>rfl) s [] 2000 hs
 have h1:hP 2000 s f true=(if fh s=true then some j else some (-1)):=by
  unfold hP
  simp only [wI,wJ,wK,wL,wM,wN,sk]
  simpa using h
 have h2:hN 2000 s f=(if fh s=true then some j else some (-1)):=by
  unfold hN
  simp only [JN,Cz,h1]
  split<;>rfl
 unfold gX
 simp only [JK,Cw,h2]
 cases fh s with
 | true=>
   have:decide (j≥0)=true:=decide_eq_true hj
   simp only [if_true,aq,this]
 | false=>
   simp only [ea,if_false,aq]
   rfl
def qE (s:bU):Bool:=cond (s.1==1) (decide (s.2.1≥1)&&decide (s.2.1≤3)) (cond (s.1==2) (s.2.1==2) (s.2.1==0))
def oc (s:bU):Int:=cond (decide (s.1 < 1)) 1 (cond (decide (s.1 > 9)) 1 (cond (!qE s) 6 (cond (s.2.2.1==[]) 7 (cond (decide ((s.2.2.1.length:Int) > 8)) 3 (cond (fh s.2.2.1) 2 0)))))
theorem v152 (s:bU):gW 2000 s=some (qE s):=by
 unfold gW qE
 simp only [JJ,Cv]
 cases (s.1==1)<;>cases (s.1==2)<;>cases decide (s.2.1≥1)<;>rfl
theorem asr (s:bU):du 2000 s=some (oc s):=by
 unfold du oc
 simp only [JF,Cs,v152,aq]
 cases decide (s.1 < 1) with
 | true=>rfl
 | false=>
   simp only [aB,cond_false]
   cases decide (s.1 > 9) with
   | true=>rfl
   | false=>
     simp only [aB,cond_false]
     cases qE s with
     | false=>rfl
     | true=>
       simp only [eb,aB,cond_false]
       cases (s.2.2.1==[]) with
       | true=>rfl
       | false=>
         simp only [aB,cond_false]
         cases hd:decide ((s.2.2.1.length:Int) > 8) with
         | true=>rfl
         | false=>
           simp only [aB,cond_false]
           have hl:s.2.2.1.length≤8:=by
            have:=of_decide_eq_false hd
            omega
           rw [arZ _ (fun c=>by simp only [v154,aq,jQ]; rfl) s.2.2.1 (by omega)]
           simp only [aq]
           cases fh s.2.2.1<;>rfl
theorem afq {R:Type} (k0:Int→Option R) (k1:bU→Int→Option R) (e:Option R) (hk:∀ a b,k1 a b=e) (a b:Int) (u:Unit):
  ∀ (ys pre:List UInt8) (m:Nat),ys.length < m→(pre++ys).length≤bG→
    s4 (dt 2000) k0 k1 m (a,b,(pre++ys),u) (pre.length:Int)=(if fh ys=true then k0 2 else e):=by
 intro ys
 induction ys with
 | nil=>
   intro pre m hm hb
   cases m with
   | zero=>simp at hm
   | succ m=>
     unfold s4
     simp only [vG,vF,vB,vC,vD,vE,vH,sc,er,aB,hk,fh,zj,ea,if_false]
 | cons y ys ih=>
   intro pre m hm hb
   cases m with
   | zero=>simp at hm
   | succ m=>
     unfold s4
     simp only [vG,vF,vB,vC,vD,vE,vH,sc,ei,dG,c9,if_true,aL,arW,aq]
     cases hw:jF (y.toNat:Int) with
     | false=>
       have:fh (y::ys)=true:=by unfold fh; rw [ot,hw]; rfl
       simp only [fo,aL,this,if_true]
     | true=>
       have e1:fh (y::ys)=fh ys:=by unfold fh; rw [ot,hw]; rfl
       simp only [eb,aB,ew pre ys y hb]
       rw [e1,bC pre ys y,ih (pre++[y]) m (by simpa using hm) (by rw [←bC]; exact hb)]
theorem v117 (s:bU):bM 2000 s=some (oc s):=by
 unfold bM oc
 obtain ⟨a,b,t,u⟩:=s
 simp only [vG,vF,vB,vC,vD,vE,vH,sc]
 cases decide (a < 1) with
 | true=>rfl
 | false=>
   simp only [aB,cond_false]
   cases decide (a > 9) with
   | true=>rfl
   | false=>
     simp only [aB,cond_false]
     have hq:∀ (K:Bool→Option Int),ad (a==1) (ad (decide (b≥1)) (ad (a==2) (K (b==2)) (K (decide (b≤3)))) (ad (a==2) (K (b==2)) (K false))) (ad (a==2) (K (b==2)) (K (b==0)))=K (qE (a,b,t,u)):=by
      intro K
      unfold qE
      by_cases h1:a=1
      ·subst h1
       have e:((1:Int)==2)=false:=rfl
       have e':((1:Int)==1)=true:=rfl
       simp only [e,e',aL,aB,cond_true]
       cases decide (b≥1)<;>rfl
      ·have e:(a==1)=false:=by simpa using h1
       simp only [e,aB,cond_false]
       cases (a==2)<;>rfl
     rw [hq fun q=>ad (!q) _ _]
     cases qE (a,b,t,u) with
     | false=>rfl
     | true=>
       simp only [eb,aB,cond_false]
       cases (t==[]) with
       | true=>rfl
       | false=>
         simp only [aB,cond_false]
         cases hd:decide ((t.length:Int) > 8) with
         | true=>rfl
         | false=>
           simp only [aB,cond_false]
           have hl:t.length≤8:=by
            have:=of_decide_eq_false hd
            omega
           have:=afq (R:=Int) some (fun _ _=>some 0) (some 0) (fun _ _=>rfl) a b u t [] 2000 (by omega) (by unfold bG; simp; omega)
           simp only [dd,dI,Int.natCast_zero] at this
           rw [this]
           cases fh t<;>rfl
def jE:List bU→Int
 | []=>0
 | s::r=>cond (oc s != 0) (oc s) (jE r)
theorem ad2 {R:Type} (k0:Bool→Option R) (k1:List bU→Int→Option R) (hk:∀ a b,k1 a b=k0 true):
  ∀ (ys pre:List bU) (m:Nat),ys.length < m→(pre++ys).length≤bG→∃ b,tk k0 k1 m (pre++ys) (pre.length:Int)=k0 b:=by
 intro ys
 induction ys with
 | nil=>
   intro pre m hm hb
   cases m with
   | zero=>simp at hm
   | succ m=>
     refine ⟨true,?_⟩
     unfold tk
     simp only [sK,sG,sH,sI,sJ,sL,pT,er,aB,hk]
 | cons y ys ih=>
   intro pre m hm hb
   cases m with
   | zero=>simp at hm
   | succ m=>
     unfold tk
     simp only [sK,sG,sH,sI,sJ,sL,pT,ei,dG,c9,if_true,aL]
     cases decide ((y.2.2.1.length:Int) > 40) with
     | true=>exact ⟨false,by simp only [aL]⟩
     | false=>
       obtain ⟨b,h⟩:=ih (pre++[y]) m (by simpa using hm) (by rw [←bC]; exact hb)
       refine ⟨b,?_⟩
       simp only [aB,ew pre ys y hb]
       rw [bC pre ys y,h]
abbrev bX:Type:=List UInt8×(List bU×(Int×(Int×Unit)))
abbrev aM:Type:=List UInt8×(List bX×Unit)
abbrev g0:bX:=([],([],((0:Int),((0:Int),()))))
theorem Mn:∀ s:List UInt8,Op.bytesLess s s=false
 | []=>rfl
 | b::s=>by
   simp only [Op.bytesLess]
   simp [Mn s]
def mo (a b:bU):Bool:=(a.1==b.1)&&((a.2.1==b.2.1)&&((a.2.2.1==b.2.2.1)&&true))
def fb:List bU→List bU→Bool
 | [],[]=>true
 | x::xs,y::ys=>mo x y&&fb xs ys
 | _,_=>false
theorem aky {a b:bU} (h:mo a b=true):a=b:=by
 obtain ⟨a1,a2,a3,a4⟩:=a; obtain ⟨b1,b2,b3,b4⟩:=b
 simp only [mo,gR,au,beq_iff_eq] at h
 obtain ⟨h1,h2,h3⟩:=h
 subst h1; subst h2; subst h3; rfl
theorem akz (a:bU):mo a a=true:=by simp [mo]
theorem Dn:∀ {a b:List bU},fb a b=true↔a=b
 | [],[]=>by simp [fb]
 | [],_::_=>by simp [fb]
 | _::_,[]=>by simp [fb]
 | x::xs,y::ys=>by
   simp only [fb,au,gr,Dn (a:=xs) (b:=ys)]
   exact ⟨fun h=>⟨aky h.1,h.2⟩,fun h=>⟨by rw [h.1]; exact akz y,h.2⟩⟩
theorem akA (a b:List bU):fb a b=fb b a:=by
 rw [tS,Dn,Dn]; exact eq_comm
def C8 (a b:Int):Int:=ad (decide (a < b)) (-1) (ad (decide (a > b)) 1 0)
theorem v86 (a b:Int):gJ 2000 a b=some (C8 a b):=by
 unfold gJ C8
 simp only [Kb,CJ]
 cases decide (a < b)<;>cases decide (a > b)<;>rfl
theorem Lf (a b:Int):(C8 a b != 0)=!(a==b):=by
 unfold C8
 by_cases h:a < b
 ·rw [decide_eq_true h]; have:(a==b)=false:=beq_eq_false_iff_ne.2 (by omega)
  rw [this]; rfl
 ·by_cases h2:a > b
  ·rw [decide_eq_false h,decide_eq_true h2]; have:(a==b)=false:=beq_eq_false_iff_ne.2 (by omega)
   rw [this]; rfl
  ·rw [decide_eq_false h,decide_eq_false h2]; have:(a==b)=true:=beq_iff_eq.2 (by omega)
   rw [this]; rfl
theorem v59 (a b:bU):∃ n,dv 2000 a b=some n∧(n != 0)=!mo a b:=by
 unfold dv mo
 simp only [JZ,CG,v86,aq,Lf]
 cases h1:a.1==b.1 with
 | false=>exact ⟨_,rfl,by rw [Lf,h1]; rfl⟩
 | true=>
   cases h2:a.2.1==b.2.1 with
   | false=>exact ⟨_,rfl,by rw [Lf,h2]; rfl⟩
   | true=>
     simp only [eb,aB,fF,gR]
     cases h3:a.2.2.1==b.2.2.1 with
     | true=>
       have h4:a.2.2.1=b.2.2.1:=by simpa using h3
       rw [h4,Mn]
       exact ⟨_,rfl,rfl⟩
     | false=>
       cases Op.bytesLess a.2.2.1 b.2.2.1 with
       | true=>exact ⟨_,rfl,rfl⟩
       | false=>exact ⟨_,rfl,rfl⟩
theorem aet {R:Type} (k0:Bool→Option R) (K:Option R):
  ∀ (ys pre zs pre2:List bU) (m:Nat),ys.length < m→(pre++ys).length≤bG→pre.length=pre2.length→ys.length=zs.length→
    te (dv 2000) k0 (fun _ _ _=>K) m (pre++ys) (pre2++zs) (pre.length:Int)=ad (fb ys zs) K (k0 false):=by
 intro ys
 induction ys with
 | nil=>
   intro pre zs pre2 m hm hb hp hz
   have:zs=[]:=mz.1 hz.symm
   subst this
   cases m with
   | zero=>omega
   | succ m=>
     unfold te
     simp only [wS,wO,wP,wQ,wR,wT,sn,er,aB,fb,aL]
 | cons y ys ih=>
   intro pre zs pre2 m hm hb hp hz
   obtain ⟨z,zs,rfl⟩:∃ z zs',zs=z::zs':=by
    cases zs with
    | nil=>simp at hz
    | cons z zs=>exact ⟨z,zs,rfl⟩
   cases m with
   | zero=>omega
   | succ m=>
     have hwr:=ew pre ys y hb
     obtain ⟨n,h1,h2⟩:=v59 y z
     have i2:(0≤(pre.length:Int)∧(pre.length:Int) < ((pre2++z::zs).length:Int))=True:=by rw [hp]; exact dG _ _ _
     have a2:(pre2++z::zs).getD (fG (pre.length:Int)) s0=z:=by rw [hp]; exact c9 _ _ _ _
     unfold te
     simp only [wS,wO,wP,wQ,wR,wT,sn,ei,dG,c9,if_true,aL,hwr,i2,a2,h1,aq,h2,fb]
     cases h:mo y z with
     | false=>simp only [fo,aL,jc,aB]
     | true=>
       simp only [eb,aB,fF]
       rw [bC pre ys y,bC pre2 zs z]
       exact ih (pre++[y]) zs (pre2++[z]) m (by simpa using hm) (by rw [←bC]; exact hb) (by simp [hp]) (by simpa using hz)
theorem Wd {a b:List bU} (h:a.length≠b.length):fb a b=false:=by
 cases h2:fb a b with
 | false=>rfl
 | true=>exact absurd (congrArg jV (Dn.1 h2)) h
theorem v28 (a b:List bU) (h:a.length < 2000):bK 2000 a b=some (fb a b):=by
 unfold bK
 simp only [wS,wO,wP,wQ,wR,wT,sn]
 by_cases hl:a.length=b.length
 ·have e:((a.length:Int) != (b.length:Int))=false:=by simp [hl]
  have:=aet (R:=Bool) some (some true) a [] b [] 2000 h (by unfold bG; simp; omega) rfl hl
  simp only [dd,dI] at this
  simp only [e,aB]
  refine dB this ?_
  cases fb a b<;>rfl
 ·have e:((a.length:Int) != (b.length:Int))=true:=bne_iff_ne.2 (by omega)
  simp only [e,aL]
  rw [Wd hl]
theorem adW {R:Type} (k0:Bool→Option R) (K:Option R):
  ∀ (ys pre zs pre2:List bU) (m:Nat),ys.length < m→(pre++ys).length≤bG→pre.length=pre2.length→ys.length=zs.length→
    s6 k0 (fun _ _ _ _=>K) m (pre++ys) (pre2++zs) ((pre++ys).length:Int) (pre.length:Int)=ad (fb ys zs) K (k0 false):=by
 intro ys
 induction ys with
 | nil=>
   intro pre zs pre2 m hm hb hp hz
   have:zs=[]:=mz.1 hz.symm
   subst this
   cases m with
   | zero=>omega
   | succ m=>
     unfold s6
     simp only [vS,vO,vP,vQ,vR,vT,se,er,aB,fb,aL]
 | cons y ys ih=>
   intro pre zs pre2 m hm hb hp hz
   obtain ⟨z,zs,rfl⟩:∃ z zs',zs=z::zs':=by
    cases zs with
    | nil=>simp at hz
    | cons z zs=>exact ⟨z,zs,rfl⟩
   cases m with
   | zero=>omega
   | succ m=>
     have hwr:=ew pre ys y hb
     have i2:(0≤(pre.length:Int)∧(pre.length:Int) < ((pre2++z::zs).length:Int))=True:=by rw [hp]; exact dG _ _ _
     have a2:(pre2++z::zs).getD (fG (pre.length:Int)) s0=z:=by rw [hp]; exact c9 _ _ _ _
     unfold s6
     simp only [vS,vO,vP,vQ,vR,vT,se,ei,dG,c9,if_true,aL,hwr,i2,a2,fb]
     have e:(y.1==z.1&&(y.2.1==z.2.1&&(y.2.2.1==z.2.2.1&&true)))=mo y z:=rfl
     rw [e]
     cases h:mo y z with
     | false=>simp only [fo,aL,jc,aB]
     | true=>
       simp only [eb,aB,fF]
       rw [bC pre ys y,bC pre2 zs z]
       exact ih (pre++[y]) zs (pre2++[z]) m (by simpa using hm) (by rw [←bC]; exact hb) (by simp [hp]) (by simpa using hz)
theorem arV (a b:List bU) (h:a.length < 2000):gU 2000 a b=some (fb a b):=by
 unfold gU
 simp only [vS,vO,vP,vQ,vR,vT,se]
 by_cases hl:a.length=b.length
 ·have e:((a.length:Int) != (b.length:Int))=false:=by simp [hl]
  have:=adW (R:=Bool) some (some true) a [] b [] 2000 h (by unfold bG; simp; omega) rfl hl
  simp only [dd,dI] at this
  simp only [e,aB]
  refine dB this ?_
  cases fb a b<;>rfl
 ·have e:((a.length:Int) != (b.length:Int))=true:=bne_iff_ne.2 (by omega)
  simp only [e,aL]
  rw [Wd hl]
def up (b:UInt8):Bool:=decide ((b.toNat:Int)≥65)&&decide ((b.toNat:Int)≤90)
def jw (b:UInt8):Bool:=cR (b.toNat:Int)&&!up b
def tE (s:List UInt8):Int:=cond (s==[]) 7 (cond (decide ((s.length:Int) > 4)) 3 (cond (s.all jw) 0 2))
theorem XK (b:UInt8):(fl b=b)↔up b=false:=by
 unfold fl up
 by_cases h:65≤b.toNat∧b.toNat≤90
 ·rw [if_pos h,decide_eq_true (show (b.toNat:Int)≥65 by omega),decide_eq_true (show (b.toNat:Int)≤90 by omega)]
  constructor
  ·intro e
   have e2:=congrArg UInt8.toNat e
   simp only [UInt8.toNat_ofNat'] at e2
   omega
  ·intro e; cases e
 ·rw [if_neg h]
  have:(decide ((b.toNat:Int)≥65)&&decide ((b.toNat:Int)≤90))=false:=by
   rw [Bool.and_eq_false_iff]
   by_cases h1:65≤b.toNat
   ·exact .inr (decide_eq_false (by omega))
   ·exact .inl (decide_eq_false (by omega))
  rw [this]; simp
theorem Ca:∀ s:List UInt8,(fold s==s)=s.all fun b=>!up b
 | []=>rfl
 | b::s=>by
   rw [tS]
   have ih:=Ca s
   rw [tS] at ih
   simp only [fold,fQ,dN,au,beq_iff_eq,gr,dq] at ih ⊢
   rw [XK,ih]
theorem afp {R:Type} (k0:Int→Option R) (K:Option R):
  ∀ (ys pre:List UInt8) (m:Nat),ys.length < m→(pre++ys).length≤bG→
    s3 (bu 2000) k0 (fun _ _=>K) m (pre++ys) (pre.length:Int)=cond (ys.all jw) K (k0 2):=by
 intro ys
 induction ys with
 | nil=>
   intro pre m hm hb
   cases m with
   | zero=>omega
   | succ m=>
     unfold s3
     simp only [vz,vu,vw,vx,vy,vA,sa,er,aB,my,cond_true]
 | cons y ys ih=>
   intro pre m hm hb
   cases m with
   | zero=>omega
   | succ m=>
     have hwr:=ew pre ys y hb
     unfold s3
     simp only [vz,vu,vw,vx,vy,vA,sa,ei,dG,c9,if_true,aL,hwr,(Ds y).2,aq,dN,jw,up]
     have hgo:=ih (pre++[y]) m (by simpa using hm) (by rw [←bC]; exact hb)
     rw [←bC] at hgo
     cases cR (y.toNat:Int) with
     | false=>simp only [fo,aL,jc,cond_false]
     | true=>
       simp only [eb,aB,fF]
       cases decide ((y.toNat:Int)≥65) with
       | false=>simp only [aB,jc,fo,fF]; exact hgo
       | true=>
         simp only [aL,fF]
         cases decide ((y.toNat:Int)≤90) with
         | false=>simp only [aB,fo,fF]; exact hgo
         | true=>simp only [aL,eb,jc,cond_false]
theorem arR (s:List UInt8):fu 2000 s=some (tE s):=by
 unfold fu tE
 simp only [vz,vu,vw,vx,vy,vA,sa]
 cases h0:s==[] with
 | true=>rfl
 | false=>
   cases h1:decide ((s.length:Int) > 4) with
   | true=>rfl
   | false=>
     have h2:¬ (s.length:Int) > 4:=of_decide_eq_false h1
     have:=afp (R:=Int) some (some 0) s [] 2000 (by omega) (by unfold bG; simp; omega)
     simp only [dd,dI] at this
     simp only [aB,cond_false]
     refine dB this ?_
     cases s.all jw<;>rfl
def qD (v:Int):Bool:=!decide (v < 32)&&!decide (v > 126)
theorem afr {R:Type} (k0:Int→Option R) (K:Option R):
  ∀ (ys pre:List Int) (m:Nat),ys.length < m→(pre++ys).length≤bG→
    s7 k0 (fun _ _ _=>K) m (pre++ys) ((pre++ys).length:Int) (pre.length:Int)=cond (ys.all qD) K (k0 2):=by
 intro ys
 induction ys with
 | nil=>
   intro pre m hm hb
   cases m with
   | zero=>omega
   | succ m=>
     unfold s7
     simp only [wz,wq,wu,wv,wx,wA,sj,er,aB,my,cond_true]
 | cons y ys ih=>
   intro pre m hm hb
   cases m with
   | zero=>omega
   | succ m=>
     have hwr:=ew pre ys y hb
     have hl:(fG (pre.length:Int) < (pre++y::ys).length)=True:=tv pre ys y
     unfold s7
     simp only [wz,wq,wu,wv,wx,wA,sj,ei,dG,c9,if_true,aL,hwr,hl,dN,qD]
     have hgo:=ih (pre++[y]) m (by simpa using hm) (by rw [←bC]; exact hb)
     rw [←bC] at hgo
     cases decide (y < 32) with
     | true=>simp only [aL,eb,jc,cond_false]
     | false=>
       cases decide (y > 126) with
       | true=>simp only [aL,aB,eb,fo,fF,jc,cond_false]
       | false=>simp only [aB,fo,fF]; exact hgo
def ch (b:UInt8):Int:=(b.toNat:Int)
theorem ar1 (s:List UInt8) (h:s.length≤120):fw 2000 s=some (cond ((s.map ch).all qD) 0 2):=by
 unfold fw
 have h1:decide ((s.length:Int) > 120)=false:=decide_eq_false (by omega)
 simp only [wz,wq,wu,wv,wx,wA,sj,h1,aB]
 have:=afr (R:=Int) some (some 0) (s.map ch) [] 2000 (by simp; omega) (by unfold bG; simp; omega)
 simp only [dd,dI] at this
 refine dB this ?_
 cases (s.map ch).all qD<;>rfl
abbrev mB:Type:=Int×(Int×Unit)
structure Jw (P:List Int) (out:List mB):Prop where
 yes:P.all cR=true→out=if P=[] then [] else [(0,((P.length:Nat):Int),())]
 no:P.all cR=false→out.length≠1∨∃ a b,out=[(a,b,())]∧b - a < (P.length:Int)
 bd:∀ x∈out,0≤x.1∧x.1≤(P.length:Int)∧0≤x.2.1∧x.2.1≤(P.length:Int)
 len:out.length≤P.length
theorem uj (P:List Int) (y:Int):(P++[y]).all cR=(P.all cR&&cR y):=by simp
theorem Jw.skip {P:List Int} {out:List mB} {y:Int} (h:Jw P out) (hy:cR y=false):Jw (P++[y]) out:=by
 have ha:(P++[y]).all cR=false:=by rw [uj,hy,Dv]
 refine ⟨fun e=>by rw [ha] at e; (cases e),fun _=>?_,fun x hx=>?_,by have:=h.len; simp; omega⟩
 ·cases hp:P.all cR with
  | true=>
    rw [h.yes hp]
    split
    ·exact .inl (by simp)
    ·exact .inr ⟨_,_,rfl,by simp; omega⟩
  | false=>
    rcases h.no hp with h1 | ⟨a,b,h1,h2⟩
    ·exact .inl h1
    ·exact .inr ⟨a,b,h1,by simp; omega⟩
 ·have:=h.bd x hx
  simp only [cq,iG]; omega
theorem Jw.ext {P:List Int} {o:List mB} {a:Int} {y:Int} (h:Jw P (o++[(a,((P.length:Nat):Int),())])) (hy:cR y=true):Jw (P++[y]) (o++[(a,((P.length:Nat):Int)+1,())]):=by
 refine ⟨fun e=>?_,fun e=>?_,fun x hx=>?_,by have:=h.len; simp at this ⊢; omega⟩
 ·rw [uj,hy,gR] at e
  have h1:=h.yes e
  split at h1
  ·simp at h1
  ·have h2:o=[]:=by
    have:=congrArg jV h1
    simp at this; exact mz.1 (by simpa using this)
   subst h2
   simp only [dd,gr,eE,and_true] at h1
   rw [if_neg (by simp),h1]
   simp
 ·rw [uj,hy,gR] at e
  rcases h.no e with h1 | ⟨a',b',h1,h2⟩
  ·exact .inl (by simpa using h1)
  ·have h3:o=[]:=by
    have:=congrArg jV h1
    simp at this; exact mz.1 (by simpa using this)
   subst h3
   simp only [dd,gr,eE,and_true] at h1
   exact .inr ⟨a,_,rfl,by simp; omega⟩
 ·simp only [cq,iG]
  rcases dx.1 hx with h1 | h1
  ·have:=h.bd x (List.mem_append_left _ h1); omega
  ·have h2:=h.bd (a,((P.length:Nat):Int),()) (by simp)
   simp only [iI] at h1
   subst h1
   simp only at h2 ⊢; omega
theorem Jw.new {P:List Int} {out:List mB} {y:Int} (h:Jw P out) (hy:cR y=true) (hn:∀ o a,out≠o++[(a,((P.length:Nat):Int),())]):Jw (P++[y]) (out++[(((P.length:Nat):Int),((P.length:Nat):Int)+1,())]):=by
 refine ⟨fun e=>?_,fun e=>?_,fun x hx=>?_,by have:=h.len; simp; omega⟩
 ·rw [uj,hy,gR] at e
  have h1:=h.yes e
  split at h1
  ·rename_i hp; subst hp; subst h1; simp
  ·exact absurd h1 (hn [] 0)
 ·rw [uj,hy,gR] at e
  cases out with
  | nil=>
    refine .inr ⟨_,_,rfl,?_⟩
    cases P with
    | nil=>cases e
    | cons p P=>simp; omega
  | cons x o=>exact .inl (by simp)
 ·simp only [cq,iG]
  rcases dx.1 hx with h1 | h1
  ·have:=h.bd x h1; omega
  ·simp only [iI] at h1
   subst h1
   simp only; omega
theorem aft {R:Type} (K:List mB→Option R):
  ∀ (ys pre:List Int) (m:Nat) (out:List mB),ys.length < m→(pre++ys).length≤120→(∀ v∈ys,ca 2000 v=some (cR v))→Jw pre out→
    ∃ o,Jw (pre++ys) o∧qh (ca 2000) (fun o _ _ _=>K o) m out (pre++ys) ((pre++ys).length:Int) (pre.length:Int)=K o:=by
 intro ys
 induction ys with
 | nil=>
   intro pre m out hm hb hs hJ
   cases m with
   | zero=>omega
   | succ m=>
     refine ⟨out,by simpa using hJ,?_⟩
     unfold qh
     simp only [wm,wh,wi,wj,wk,wo,si,er,aB]
 | cons y ys ih=>
   intro pre m out hm hb hs hJ
   cases m with
   | zero=>omega
   | succ m=>
     have hwr:=ew pre ys y (by unfold bG; omega)
     have hl:(fG (pre.length:Int) < (pre++y::ys).length)=True:=tv pre ys y
     have hy:=hs y (by simp)
     have hbp:pre.length < 120:=by simp at hb; omega
     have hgo:∀ o,Jw (pre++[y]) o→∃ o',Jw (pre++y::ys) o'∧qh (ca 2000) (fun o _ _ _=>K o) m o (pre++y::ys) ((pre++y::ys).length:Int) ((pre++[y]).length:Int)=K o':=by
      intro o ho
      have:=ih (pre++[y]) m o (by simpa using hm) (by rw [←bC]; exact hb) (fun v hv=>hs v (eR _ hv)) ho
      rwa [←bC] at this
     unfold qh
     simp only [wm,wh,wi,wj,wk,wo,si,ei,dG,c9,if_true,aL,hl,hwr,hy,aq]
     cases hly:cR y with
     | false=>
       simp only [fo,aL]
       exact hgo out (hJ.skip hly)
     | true=>
       simp only [eb,aB]
       have h3:(((pre++[y]).length:Nat):Int)=(pre.length:Int)+1:=by simp
       rcases LN out with h0 | ⟨o,x,h0⟩
       ·subst h0
        have d:decide ((([]:List mB).length:Int) > 0)=false:=rfl
        have hl2:(([]:List mB).length+[((pre.length:Int),(((pre++[y]).length:Nat):Int),())].length≤8796093022208)=True:=by simp
        have hn:=hJ.new hly (by intro o a; simp)
        rw [←h3] at hn
        simp only [d,aB,hl2,if_true]
        exact hgo _ hn
       ·rw [LL] at h0
        subst h0
        have hol:(o++[x]).length≤pre.length:=hJ.len
        have hol':o.length < 120:=by simp at hol; omega
        have d:decide ((((o++[x]).length:Nat):Int) > 0)=true:=decide_eq_true (by simp only [cq,iG]; omega)
        have w2:IntKind.i64.wrap ((((o++[x]).length:Nat):Int) - 1)=(o.length:Int):=by
         have:(((o++[x]).length:Nat):Int) - 1=(o.length:Int):=by simp
         rw [this]; exact fm (by omega)
        have i1:(0≤(o.length:Int)∧(o.length:Int) < (((o++[x]).length:Nat):Int))=True:=by rw [eq_iff_iff,iff_true]; simp only [cq,iG]; omega
        have i2:(fG (o.length:Int) < (o++[x]).length)=True:=by simp
        have g1:(o++[x]).getD (fG (o.length:Int)) ((0:Int),((0:Int),()))=x:=by simp
        have s1:∀ z,(o++[x]).set (fG (o.length:Int)) z=o++[z]:=by intro z; simp
        simp only [d,aL,w2,i1,i2,if_true,g1,s1]
        cases hx:x.2.1==(pre.length:Int) with
        | true=>
          have hx':x.2.1=(pre.length:Int):=by simpa using hx
          obtain ⟨a,b,u⟩:=x
          simp only at hx'
          subst hx'
          have hn:=hJ.ext hly
          rw [←h3] at hn
          simp only [aL,hwr]
          exact hgo _ hn
        | false=>
          have hx':x.2.1≠(pre.length:Int):=by simpa using hx
          have hl2:((o++[x]).length+[((pre.length:Int),(((pre++[y]).length:Nat):Int),())].length≤8796093022208)=True:=by
           simp only [cq,iG,eq_iff_iff,iff_true]; omega
          have hn:=hJ.new hly (by
           intro o' a e
           have:=(List.append_inj' e rfl).2
           simp only [gr,and_true] at this
           rw [this] at hx'
           exact hx' rfl)
          rw [←h3] at hn
          simp only [aB,hl2,if_true]
          exact hgo _ hn
theorem adY:((List.range 256).all fun n=>!cR (n:Int) || qD (n:Int))=true:=by kernel_rfl
theorem adZ (b:UInt8) (h:cR (b.toNat:Int)=true):qD (b.toNat:Int)=true:=by
 have:=fq.1 adY b.toNat (DH.2 b.toNat_lt)
 rw [h] at this
 simpa using this
theorem arX (s:List UInt8):fv 2000 s=some (tE s):=by
 unfold fv tE
 simp only [JE,Cr]
 cases h0:s==[] with
 | true=>rfl
 | false=>
   have h0':s≠[]:=by simpa using h0
   cases h1:decide ((s.length:Int) > 4) with
   | true=>rfl
   | false=>
     have h2:¬ (s.length:Int) > 4:=of_decide_eq_false h1
     simp only [aB,cond_false,v72 s (by omega),aq]
     have hne:(fold s != s)=!(fold s==s):=rfl
     rw [hne,Ca]
     cases hu:s.all fun b=>!up b with
     | false=>
       have:s.all jw=false:=by
        rw [LK] at hu ⊢
        obtain ⟨b,hb,h3⟩:=hu
        exact ⟨b,hb,by unfold jw; simp only [Bool.not_eq_true] at h3 ⊢; rw [h3,Dv]⟩
       rw [this]; rfl
     | true=>
       have hlk:s.all jw=(s.map ch).all cR:=by
        rw [tS]
        simp only [fq,dc,forall_exists_index,and_imp,forall_apply_eq_imp_iff₂] at hu ⊢
        exact ⟨fun h b hb=>by have:=h b hb; unfold jw at this; simp only [au] at this; exact this.1,fun h b hb=>by unfold jw; rw [hu b hb,gR]; exact h b hb⟩
       simp only [eb,aB]
       unfold iL
       simp only [wm,wh,wi,wj,wk,wo,si,ar1 s (by omega),aq]
       cases hv:(s.map ch).all qD with
       | false=>
         have:s.all jw=false:=by
          rw [hlk,LK]
          rw [LK] at hv
          obtain ⟨v,hvm,h3⟩:=hv
          refine ⟨v,hvm,fun h4=>h3 ?_⟩
          obtain ⟨b,_,rfl⟩:=dc.1 hvm
          exact adZ b h4
         rw [this]; rfl
       | true=>
         have e0:((cond true (0:Int) 2) != 0)=false:=rfl
         simp only [e0,aB]
         obtain ⟨o,hJ,ho⟩:=aft (R:=List mB×Int) (fun o=>some (o,0)) (s.map ch) [] 2000 [] (by simp; omega) (by simp; omega) (by
          intro v hv
          obtain ⟨b,_,rfl⟩:=dc.1 hv
          exact (Ds b).1) ⟨fun _=>rfl,(fun e=>by cases e),(fun x hx=>by simp at hx),by simp⟩
         simp only [dd,dI] at ho hJ
         have hch:(s.map fun b=>(b.toNat:Int))=s.map ch:=rfl
         rw [hch]
         have ho':=ho
         rw [show ((0:Nat):Int)=0 from rfl] at ho'
         simp only [ho']
         have e1:((0:Int) != 0)=false:=rfl
         simp only [aq,e1,aB]
         cases ha:(s.map ch).all cR with
         | true=>
           have h5:=hJ.yes ha
           rw [if_neg (by simpa using h0')] at h5
           subst h5
           have w:IntKind.i64.wrap (s.length:Int)=(s.length:Int):=fm (by omega)
           have hk:s.all jw=true:=by rw [hlk,ha]
           rw [hk]
           simp [w,ad]
         | false=>
           rw [hlk,ha]
           rcases hJ.no ha with h5 | ⟨a,b,h5,h6⟩
           ·have:((o.length:Int) != 1)=true:=bne_iff_ne.2 (by omega)
            rw [this]; rfl
           ·subst h5
            have hbd:=hJ.bd (a,b,()) (by simp)
            simp only [nc] at hbd h6
            have w:IntKind.i64.wrap (b - a)=b - a:=fm (by omega)
            have:(b - a != (s.length:Int))=true:=bne_iff_ne.2 (by omega)
            simp [w,this,ad]
theorem asI (n:Int):(n != 0)=!(n==0):=rfl
def ur (x:bX):Bool:=decide (x.2.2.1 < 0) || (decide (x.2.2.1 > 99) || (decide (x.2.2.2.1 < 0) || decide (x.2.2.2.1 > 4)))
def gE (x:bX):Int:=cond (tE x.1 != 0) (tE x.1) (cond ((x.2.1.length:Int)==0) 7 (cond (decide ((x.2.1.length:Int) > 2)) 3 (cond (jE x.2.1 != 0) (jE x.2.1) (cond (ur x) 6 0))))
theorem adJ {R:Type} (k0:Int→Option R) (K:bX→Option R) (x:bX):
  ∀ (ys pre:List bU) (m:Nat),ys.length < m→(pre++ys).length≤bG→
    s5 (du 2000) k0 (fun y0 _ _ _=>K y0) m x (pre++ys) ((pre++ys).length:Int) (pre.length:Int)=cond (jE ys != 0) (k0 (jE ys)) (K x):=by
 intro ys
 induction ys with
 | nil=>
   intro pre m hm hb
   cases m with
   | zero=>omega
   | succ m=>
     unfold s5
     simp only [vM,vI,vJ,vK,vL,vN,sd,er,aB,jE]
     rfl
 | cons y ys ih=>
   intro pre m hm hb
   cases m with
   | zero=>omega
   | succ m=>
     have hwr:=ew pre ys y hb
     have hgo:=ih (pre++[y]) m (by simpa using hm) (by rw [←bC]; exact hb)
     rw [←bC] at hgo
     unfold s5
     simp only [vM,vI,vJ,vK,vL,vN,sd,ei,dG,c9,if_true,aL,hwr,asr,aq,jE]
     cases h:oc y != 0 with
     | true=>simp only [aL,cond_true,h]
     | false=>simp only [aB,cond_false]; exact hgo
theorem aeu {R:Type} (k0:Int→Option R) (K:bX→Option R) (t:List UInt8) (r:Int×(Int×Unit)):
  ∀ (ys pre:List bU) (m:Nat),ys.length < m→(pre++ys).length≤bG→
    tp (bM 2000) k0 (fun y0 _=>K y0) m (t,(pre++ys,r)) (pre.length:Int)=cond (jE ys != 0) (k0 (jE ys)) (K (t,(pre++ys,r))):=by
 intro ys
 induction ys with
 | nil=>
   intro pre m hm hb
   cases m with
   | zero=>omega
   | succ m=>
     unfold tp
     simp only [yh,yd,ye,yf,yg,yi,sS,er,aB,jE]
     rfl
 | cons y ys ih=>
   intro pre m hm hb
   cases m with
   | zero=>omega
   | succ m=>
     have hwr:=ew pre ys y hb
     have hgo:=ih (pre++[y]) m (by simpa using hm) (by rw [←bC]; exact hb)
     rw [←bC] at hgo
     unfold tp
     simp only [yh,yd,ye,yf,yg,yi,sS,ei,dG,c9,if_true,aL,hwr,v117,aq,jE]
     cases h:oc y != 0 with
     | true=>simp only [aL,cond_true,h]
     | false=>simp only [aB,cond_false]; exact hgo
theorem arT (x:bX):de 2000 x=some (gE x):=by
 unfold de gE
 simp only [vM,vI,vJ,vK,vL,vN,sd,arX,aq]
 cases tE x.1 != 0 with
 | true=>rfl
 | false=>
   cases (x.2.1.length:Int)==0 with
   | true=>rfl
   | false=>
     cases h:decide ((x.2.1.length:Int) > 2) with
     | true=>rfl
     | false=>
       have h2:¬ (x.2.1.length:Int) > 2:=of_decide_eq_false h
       have:=adJ (R:=Int) some (fun x0=>ad (decide (x0.2.2.1 < (0:Int))) (some 6) (ad (decide (x0.2.2.1 > (99:Int))) (some 6) (ad (decide (x0.2.2.2.1 < (0:Int))) (some 6) (ad (decide (x0.2.2.2.1 > (4:Int))) (some 6) (some 0))))) x x.2.1 [] 2000 (by omega) (by unfold bG; simp; omega)
       simp only [dd,dI] at this
       simp only [aB,aL,cond_false]
       refine dB this ?_
       unfold ur
       cases jE x.2.1 != 0<;>cases decide (x.2.2.1 < 0)<;>cases decide (x.2.2.1 > 99)<;>cases decide (x.2.2.2.1 < 0)<;>cases decide (x.2.2.2.1 > 4)<;>rfl
theorem v91 (x:bX):cJ 2000 x=some (gE x):=by
 obtain ⟨t,l,r⟩:=x
 unfold cJ gE
 simp only [yh,yd,ye,yf,yg,yi,sS,arR,aq]
 cases tE t != 0 with
 | true=>rfl
 | false=>
   cases (l.length:Int)==0 with
   | true=>rfl
   | false=>
     cases h:decide ((l.length:Int) > 2) with
     | true=>rfl
     | false=>
       have h2:¬ (l.length:Int) > 2:=of_decide_eq_false h
       have:=aeu (R:=Int) some (fun x0=>ad (decide (x0.2.2.1 < (0:Int))) (some 6) (ad (decide (x0.2.2.1 > (99:Int))) (some 6) (ad (decide (x0.2.2.2.1 < (0:Int))) (some 6) (ad (decide (x0.2.2.2.1 > (4:Int))) (some 6) (some 0))))) t r l [] 2000 (by omega) (by unfold bG; simp; omega)
       simp only [dd,dI] at this
       simp only [aB,aL,cond_false]
       refine dB this ?_
       unfold ur
       cases jE l != 0<;>cases decide (r.1 < 0)<;>cases decide (r.1 > 99)<;>cases decide (r.2.1 < 0)<;>cases decide (r.2.1 > 4)<;>rfl
theorem ju {x:bX} (h:gE x=0):x.2.1.length≤2∧x.2.1≠[]∧x.1≠[]∧x.1.length≤4:=by
 unfold gE at h
 cases h1:tE x.1 != 0 with
 | true=>rw [h1,cond_true] at h; rw [h] at h1; cases h1
 | false=>
   rw [h1,cond_false] at h
   have ht:x.1≠[]∧x.1.length≤4:=by
    unfold tE at h1
    cases h3:x.1==[] with
    | true=>rw [h3] at h1; cases h1
    | false=>
      rw [h3] at h1
      cases h4:decide ((x.1.length:Int) > 4) with
      | true=>rw [h4] at h1; cases h1
      | false=>exact ⟨by simpa using h3,by have:=of_decide_eq_false h4; omega⟩
   cases h2:(x.2.1.length:Int)==0 with
   | true=>rw [h2,cond_true] at h; cases h
   | false=>
     rw [h2,cond_false] at h
     cases h3:decide ((x.2.1.length:Int) > 2) with
     | true=>rw [h3,cond_true] at h; cases h
     | false=>
       have:=of_decide_eq_false h3
       refine ⟨by omega,fun e=>?_,ht.1,ht.2⟩
       rw [e] at h2; cases h2
def yL (t y:bX):Bool:=(t.1==y.1)&&((t.2.2.2.1==y.2.2.2.1)&&fb t.2.1 y.2.1)
def k9 (y:bX) (pre:List bX):Bool:=pre.any fun t=>yL t y
def iB:List bX→List bX→Int
 | _,[]=>0
 | pre,y::ys=>cond (gE y != 0) (gE y) (cond (k9 y pre) 5 (iB (pre++[y]) ys))
def nX (s:List UInt8):Bool:=match eZ 2000 s with | some b=>b | none=>false
theorem Vk (s:List UInt8):fe 2000 s=some (nX s)∧eZ 2000 s=some (nX s):=by
 obtain ⟨b,h1,h2⟩:=arS s
 have:nX s=b:=by unfold nX; rw [h2]
 rw [this]; exact ⟨h1,h2⟩
def oE (o:aM):Int:=cond (!nX o.1) 2 (cond ((o.2.1.length:Int)==0) 7 (cond (decide ((o.2.1.length:Int) > 120)) 3 (iB [] o.2.1)))
theorem ad4 {R:Type} (k0:Int→Option R) (K:Option R) (f:bX×Unit→Option Bool) (p:bX→Bool):
  ∀ (ys pre:List bX) (m:Nat),(∀ t∈ys,f (t,())=some (p t))→ys.length < m→(pre++ys).length≤bG→
    (ys.any p=false→qg k0 (fun _ _ _ _=>K) m (pre++ys) f ((pre++ys).length:Int) (pre.length:Int)=K)∧
    (ys.any p=true→∃ i:Nat,qg k0 (fun _ _ _ _=>K) m (pre++ys) f ((pre++ys).length:Int) (pre.length:Int)=k0 (i:Int)):=by
 intro ys
 induction ys with
 | nil=>
   intro pre m hf hm hb
   cases m with
   | zero=>omega
   | succ m=>
     unfold qg
     simp only [v8,wa,wb,wc,we,wg,sh,er,aB,zj]
     exact ⟨fun _=>trivial,fun h=>by cases h⟩
 | cons y ys ih=>
   intro pre m hf hm hb
   cases m with
   | zero=>omega
   | succ m=>
     have hwr:=ew pre ys y hb
     have hgo:=ih (pre++[y]) m (fun t ht=>hf t (eR _ ht)) (by simpa using hm) (by rw [←bC]; exact hb)
     rw [←bC] at hgo
     unfold qg
     simp only [v8,wa,wb,wc,we,wg,sh,ei,dG,c9,if_true,aL,hwr,hf y (by simp),aq,ot]
     cases h:p y with
     | true=>simp only [aL,tT]; exact ⟨(fun h=>by cases h),fun _=>⟨pre.length,rfl⟩⟩
     | false=>simp only [aB,oi]; exact hgo
theorem arU (xs:List bX) (hx:xs.length < 2000) (f:bX×Unit→Option Bool) (p:bX→Bool) (hf:∀ t∈xs,f (t,())=some (p t)):c6 2000 xs f=some (xs.any p):=by
 unfold c6
 simp only [Js,Cg]
 unfold iK
 simp only [v8,wa,wb,wc,we,wg,sh]
 have h:=ad4 (R:=Int) some (some (-1)) f p xs [] 2000 hf hx (by unfold bG; simp; omega)
 simp only [dd,dI] at h
 have z:((0:Nat):Int)=0:=rfl
 rw [z] at h
 cases ha:xs.any p with
 | false=>rw [h.1 ha]; rfl
 | true=>
   obtain ⟨i,h1⟩:=h.2 ha
   rw [h1]
   simp only [aq]
   have:decide ((i:Int)≥0)=true:=decide_eq_true (by omega)
   rw [this]
theorem adO {R:Type} (k0:Int→Int→Option R) (K:Option R) (nm:List UInt8):
  ∀ (ys pre:List bX) (m:Nat),ys.length < m→(pre++ys).length≤120→(∀ t∈pre,t.2.1.length≤2)→
    (iB pre ys=0→qq (de 2000) (c6 2000) (df 2000) k0 (fun _ _ _ _=>K) m (nm,(pre++ys,())) (pre++ys) ((pre++ys).length:Int) (pre.length:Int)=K)∧
    (iB pre ys≠0→∃ i,qq (de 2000) (c6 2000) (df 2000) k0 (fun _ _ _ _=>K) m (nm,(pre++ys,())) (pre++ys) ((pre++ys).length:Int) (pre.length:Int)=k0 i (iB pre ys)):=by
 intro ys
 induction ys with
 | nil=>
   intro pre m hm hb hp
   cases m with
   | zero=>omega
   | succ m=>
     unfold qq
     simp only [yn,yj,yk,yl,ym,yp,sT,er,aB,iB]
     exact ⟨fun _=>trivial,fun h=>absurd rfl h⟩
 | cons y ys ih=>
   intro pre m hm hb hp
   cases m with
   | zero=>omega
   | succ m=>
     have hwr:=ew pre ys y (by unfold bG; omega)
     unfold qq
     simp only [yn,yj,yk,yl,ym,yp,sT,ei,dG,c9,if_true,aL,hwr,arT,aq,iB]
     cases h:gE y != 0 with
     | true=>
       have h':gE y≠0:=by simpa using h
       simp only [aL,cond_true]
       exact ⟨fun e=>absurd e h',fun _=>⟨_,rfl⟩⟩
     | false=>
       have h':gE y=0:=by simpa using h
       have hy:=ju h'
       have hbp:pre.length < 120:=by simp at hb; omega
       have hc:(0≤(0:Int)∧(0:Int)≤(pre.length:Int)∧(pre.length:Int)≤((pre++y::ys).length:Int)∧((pre++y::ys).length:Int)≤((pre++y::ys).length:Int))=True:=by
        rw [eq_iff_iff,iff_true]; simp only [cq,dV]; omega
       have ht:((pre++y::ys).drop (0:Int).toNat).take ((pre.length:Int).toNat - (0:Int).toNat)=pre:=by simp
       have hd:c6 2000 pre (fun (x0:bX×Unit)=>((df 2000 x0.1 y).bind fun b=>some [.v .bool b]).bind (jQ .bool))=some (k9 y pre):=
        arU pre (by omega) _ (fun t=>yL t y) (fun t ht=>by
         unfold df yL
         have:=hp t ht
         simp only [Jt,Ci,arV t.2.1 y.2.1 (by omega),aq]
         cases t.1==y.1<;>cases t.2.2.2.1==y.2.2.2.1<;>cases fb t.2.1 y.2.1<;>rfl)
       simp only [aB,cond_false,hc,if_true,ht,hd,aq]
       cases h2:k9 y pre with
       | true=>
         simp only [aL,cond_true]
         exact ⟨(fun e=>by cases e),fun _=>⟨_,rfl⟩⟩
       | false=>
         simp only [aB,cond_false]
         have hgo:=ih (pre++[y]) m (by simpa using hm) (by rw [←bC]; exact hb) (by
          intro t ht
          rcases dx.1 ht with h | h
          ·exact hp t h
          ·rw [iI.1 h]; exact hy.1)
         rw [←bC] at hgo
         exact hgo
theorem v70 (o:aM):eo 2000 o=some (oE o):=by
 obtain ⟨nm,l,u⟩:=o
 unfold eo
 simp only [J7,CH]
 unfold iO oE
 simp only [yn,yj,yk,yl,ym,yp,sT,(Vk nm).1,aq]
 cases nX nm with
 | false=>rfl
 | true=>
   cases (l.length:Int)==0 with
   | true=>rfl
   | false=>
     cases h:decide ((l.length:Int) > 120) with
     | true=>rfl
     | false=>
       have h2:¬ (l.length:Int) > 120:=of_decide_eq_false h
       have hk:=adO (R:=Int×Int) (fun a b=>some (a,b)) (some (-1,0)) nm l [] 2000 (by omega) (by simp; omega) (by simp)
       simp only [dd,dI] at hk
       have z:((0:Nat):Int)=0:=rfl
       rw [z] at hk
       simp only [eb,aB,cond_false]
       by_cases he:iB [] l=0
       ·rw [hk.1 he,he]; rfl
       ·obtain ⟨i,h3⟩:=hk.2 he
        rw [h3]; rfl
theorem ad6 {R:Type} (k0:Int→Int→Option R) (K:aM→Int→Option R) (o:aM) (y:bX) (L:List bX) (hL:o.2.1=L) (i:Nat) (hi:i < L.length) (hy:L.getD i g0=y):
  ∀ (ys pre zs:List bX) (m:Nat),L=pre++ys++zs→(pre++ys).length=i→ys.length < m→L.length≤120→(∀ t∈ys,t.2.1.length≤2)→y.2.1.length≤2→
    (k9 y ys=false→qn (bK 2000) k0 (fun a b _=>K a b) m o (i:Int) (pre.length:Int)=K o (i:Int))∧
    (k9 y ys=true→qn (bK 2000) k0 (fun a b _=>K a b) m o (i:Int) (pre.length:Int)=k0 (i:Int) 5):=by
 intro ys
 induction ys with
 | nil=>
   intro pre zs m hl hlen hm hb hp hy2
   cases m with
   | zero=>omega
   | succ m=>
     have d:decide ((pre.length:Int) < (i:Int))=false:=decide_eq_false (by simp at hlen; omega)
     unfold qn
     simp only [pX,pU,p7,p5,pV,pZ,p6,p8,p9,pW,pY,nP,d,aB,k9,zj]
     exact ⟨fun _=>trivial,fun h=>by cases h⟩
 | cons x ys ih=>
   intro pre zs m hl hlen hm hb hp hy2
   cases m with
   | zero=>omega
   | succ m=>
     have hpi:pre.length < i:=by simp at hlen; omega
     have d:decide ((pre.length:Int) < (i:Int))=true:=decide_eq_true (by omega)
     have c1:(0≤(i:Int)∧(i:Int) < (L.length:Int))=True:=by rw [eq_iff_iff,iff_true]; omega
     have c2:(0≤(pre.length:Int)∧(pre.length:Int) < (L.length:Int))=True:=by rw [eq_iff_iff,iff_true]; omega
     have g1:L.getD (fG (i:Int)) g0=y:=hy
     have g2:L.getD (fG (pre.length:Int)) g0=x:=by rw [hl,bJ]; exact c9 _ _ _ _
     have hw:IntKind.i64.wrap ((pre.length:Int)+1)=((pre++[x]).length:Int):=by
      rw [fm (by omega)]; simp
     have hgo:=ih (pre++[x]) zs m (by rw [hl]; simp) (by rw [←bC]; exact hlen) (by simpa using hm) hb (fun t ht=>hp t (eR _ ht)) hy2
     have hs:bK 2000 y.2.1 x.2.1=some (fb x.2.1 y.2.1):=by
      rw [v28 y.2.1 x.2.1 (by omega),akA]
     have hx:k9 y (x::ys)=(yL x y || k9 y ys):=rfl
     have e1:(y.1==x.1)=(x.1==y.1):=by rw [tS]; simp only [beq_iff_eq]; exact eq_comm
     have e2:(y.2.2.2.1==x.2.2.2.1)=(x.2.2.2.1==y.2.2.2.1):=by rw [tS]; simp only [beq_iff_eq]; exact eq_comm
     unfold qn
     simp only [pX,pU,p7,p5,pV,pZ,p6,p8,p9,pW,pY,nP,d,aL,hL,c1,c2,if_true,g1,g2,e1,e2,hs,aq,hw,hx,yL]
     cases x.1==y.1 with
     | false=>simp only [aB,jc,oi]; exact hgo
     | true=>
       cases x.2.2.2.1==y.2.2.2.1 with
       | false=>simp only [aB,aL,fF,jc,oi]; exact hgo
       | true=>
         cases fb x.2.1 y.2.1 with
         | false=>simp only [aB,aL,fF,oi]; exact hgo
         | true=>
           simp only [aL,fF,tT]
           exact ⟨(fun h=>by cases h),fun _=>trivial⟩
theorem ad5 {R:Type} (k0:Int→Int→Option R) (K:Option R) (nm:List UInt8):
  ∀ (ys pre:List bX) (m:Nat),ys.length < m→(pre++ys).length≤120→(∀ t∈pre,t.2.1.length≤2)→
    (iB pre ys=0→nS 2000 (bK 2000) (cJ 2000) k0 (fun _ _=>K) m (nm,(pre++ys,())) (pre.length:Int)=K)∧
    (iB pre ys≠0→∃ i,nS 2000 (bK 2000) (cJ 2000) k0 (fun _ _=>K) m (nm,(pre++ys,())) (pre.length:Int)=k0 i (iB pre ys)):=by
 intro ys
 induction ys with
 | nil=>
   intro pre m hm hb hp
   cases m with
   | zero=>omega
   | succ m=>
     unfold nS
     simp only [pX,pU,p7,p5,pV,pZ,p6,p8,p9,pW,pY,nP,er,aB,iB]
     exact ⟨fun _=>trivial,fun h=>absurd rfl h⟩
 | cons y ys ih=>
   intro pre m hm hb hp
   cases m with
   | zero=>omega
   | succ m=>
     have hwr:=ew pre ys y (by unfold bG; omega)
     unfold nS
     simp only [pX,pU,p7,p5,pV,pZ,p6,p8,p9,pW,pY,nP,ei,dG,c9,if_true,aL,v91,aq,iB]
     cases h:gE y != 0 with
     | true=>
       have h':gE y≠0:=by simpa using h
       simp only [aL,cond_true]
       exact ⟨fun e=>absurd e h',fun _=>⟨_,rfl⟩⟩
     | false=>
       have h':gE y=0:=by simpa using h
       have hy:=ju h'
       have hbp:pre.length < 120:=by simp at hb; omega
       have hin:=ad6 k0 (fun x0 x1=>nS 2000 (bK 2000) (cJ 2000) k0 (fun _ _=>K) m x0 (IntKind.i64.wrap (x1+(1:Int)))) (nm,(pre++y::ys,())) y (pre++y::ys) rfl pre.length (by simp) (by simp) pre [] (y::ys) 2000 (by simp) (by simp) (by omega) hb hp hy.1
       simp only [dI] at hin
       have z:((0:Nat):Int)=0:=rfl
       rw [z] at hin
       simp only [aB,cond_false]
       cases h2:k9 y pre with
       | true=>
         rw [hin.2 h2]
         simp only [cond_true]
         exact ⟨(fun e=>by cases e),fun _=>⟨_,rfl⟩⟩
       | false=>
         rw [hin.1 h2,hwr]
         simp only [cond_false]
         have hgo:=ih (pre++[y]) m (by simpa using hm) (by rw [←bC]; exact hb) (by
          intro t ht
          rcases dx.1 ht with h | h
          ·exact hp t h
          ·rw [iI.1 h]; exact hy.1)
         rw [←bC] at hgo
         exact hgo
theorem v35 (o:aM):hY 2000 o=some (oE o):=by
 obtain ⟨nm,l,u⟩:=o
 unfold hY
 simp only [JQ,CA]
 unfold dD oE
 simp only [pX,pU,p7,p5,pV,pZ,p6,p8,p9,pW,pY,nP,(Vk nm).2,aq]
 cases nX nm with
 | false=>rfl
 | true=>
   cases (l.length:Int)==0 with
   | true=>rfl
   | false=>
     cases h:decide ((l.length:Int) > 120) with
     | true=>rfl
     | false=>
       have h2:¬ (l.length:Int) > 120:=of_decide_eq_false h
       have hk:=ad5 (R:=Int×Int) (fun a b=>some (a,b)) (some (-1,0)) nm l [] 2000 (by omega) (by simp; omega) (by simp)
       simp only [dd,dI] at hk
       have z:((0:Nat):Int)=0:=rfl
       rw [z] at hk
       simp only [eb,aB,cond_false]
       by_cases he:iB [] l=0
       ·rw [hk.1 he,he]; rfl
       ·obtain ⟨i,h3⟩:=hk.2 he
        rw [h3]; rfl
theorem asb (l:List bU):∃ b,dn 2000 l 6=some b:=by
 unfold dn
 cases e:decide ((l.length:Int) > 6) with
 | true=>exact ⟨false,by simp only [sK,sG,sH,sI,sJ,sL,pT,e,aL]⟩
 | false=>
   have hl:l.length≤6:=by
    have:=of_decide_eq_false e
    omega
   obtain ⟨b,h⟩:=ad2 (R:=Bool) some (fun _ _=>some true) (fun _ _=>rfl) l [] 2000 (by omega) (by unfold bG; simp; omega)
   refine ⟨b,?_⟩
   simp only [sK,sG,sH,sI,sJ,sL,pT,e,aB]
   simpa using h
theorem ad1 {R:Type} (k0:Bool→Option R) (K:Int→Option R) (nm:List UInt8):
  ∀ (ys pre:List bX) (m:Nat) (n:Int),ys.length < m→(pre++ys).length≤bG→
    (∃ q,ql (dn 2000) k0 (fun _ n _=>K n) m (nm,(pre++ys,())) n (pre.length:Int)=K q)∨ql (dn 2000) k0 (fun _ n _=>K n) m (nm,(pre++ys,())) n (pre.length:Int)=k0 false:=by
 intro ys
 induction ys with
 | nil=>
   intro pre m n hm hb
   cases m with
   | zero=>omega
   | succ m=>
     left; refine ⟨n,?_⟩
     unfold ql
     simp only [wY,wU,wV,wW,wX,wZ,sq,er,aB]
 | cons y ys ih=>
   intro pre m n hm hb
   cases m with
   | zero=>omega
   | succ m=>
     have hwr:=ew pre ys y hb
     obtain ⟨b,h⟩:=asb y.2.1
     have hgo:=ih (pre++[y]) m (IntKind.i64.wrap (n+(y.1.length:Int))) (by simpa using hm) (by rw [←bC]; exact hb)
     rw [←bC] at hgo
     unfold ql
     simp only [wY,wU,wV,wW,wX,wZ,sq,ei,dG,c9,if_true,aL,hwr,h,aq]
     cases b with
     | false=>right; simp only [fo,aL]
     | true=>simp only [eb,aB]; exact hgo
theorem v12 (o:aM) (w:List UInt8) (l:List Int):∃ b,gT 2000 o w l=some b∧(b=true→w.length≤40∧l.length≤40):=by
 have hf:∃ b,hX 2000 o=some b:=by
  obtain ⟨nm,s,u⟩:=o
  unfold hX
  simp only [wY,wU,wV,wW,wX,wZ,sq]
  cases decide ((nm.length:Int) > 60) with
  | true=>exact ⟨false,rfl⟩
  | false=>
    cases h:decide ((s.length:Int) > 130) with
    | true=>exact ⟨false,rfl⟩
    | false=>
      have h2:=of_decide_eq_false h
      have:=ad1 (R:=Bool) some (fun n=>some (decide (n≤(1500:Int)))) nm s [] 2000 0 (by omega) (by unfold bG; simp; omega)
      simp only [dd,dI] at this
      simp only [aB]
      rcases this with ⟨q,h⟩ | h
      ·exact ⟨_,h⟩
      ·exact ⟨_,h⟩
 obtain ⟨b,hb⟩:=hf
 unfold gT
 simp only [Jv,g12,hb,aq]
 cases b with
 | false=>exact ⟨false,rfl,fun h=>by cases h⟩
 | true=>
   cases h1:decide ((w.length:Int)≤40) with
   | false=>exact ⟨false,rfl,fun h=>by cases h⟩
   | true=>
     refine ⟨decide ((l.length:Int)≤40),rfl,fun h=>?_⟩
     have:=of_decide_eq_true h; have:=of_decide_eq_true h1
     omega
theorem VV:∀ (ys pre:List bX),iB pre ys=0→∀ y∈ys,gE y=0
 | [],_,_,y,hy=>absurd hy (by simp)
 | x::xs,pre,h,y,hy=>by
   unfold iB at h
   cases h1:gE x != 0 with
   | true=>
     rw [h1,cond_true] at h; rw [h] at h1; cases h1
   | false=>
     rw [h1,cond_false] at h
     have hx:gE x=0:=by simpa using h1
     cases h2:k9 x pre with
     | true=>rw [h2,cond_true] at h; cases h
     | false=>
       rw [h2,cond_false] at h
       rcases cL.1 hy with rfl | hy
       ·exact hx
       ·exact VV xs _ h y hy
theorem ki {o:aM} (h:oE o=0):(∀ y∈o.2.1,gE y=0)∧o.2.1.length≤120∧o.2.1≠[]:=by
 unfold oE at h
 cases h1:nX o.1 with
 | false=>rw [h1] at h; cases h
 | true=>
   rw [h1] at h
   cases h2:(o.2.1.length:Int)==0 with
   | true=>rw [h2] at h; cases h
   | false=>
     rw [h2] at h
     cases h3:decide ((o.2.1.length:Int) > 120) with
     | true=>rw [h3] at h; cases h
     | false=>
       rw [h3] at h
       have:=of_decide_eq_false h3
       refine ⟨VV _ _ h,by omega,fun e=>?_⟩
       rw [e] at h2; cases h2
def sg (o:aM) (i:Int):bX:=o.2.1.getD i.toNat g0
theorem ml {o:aM} (h:oE o=0) {i:Int} (hi:0≤i∧i < (o.2.1.length:Int)):gE (sg o i)=0:=by
 refine (ki h).1 _ ?_
 unfold sg
 rw [qR,eX (by omega)]
 exact LQ _
def dw (o:aM) (i:Int):Bool:=!decide (i < 0)&&!decide (i≥(o.2.1.length:Int))
theorem iU {o:aM} {i:Int}:dw o i=true↔0≤i∧i < (o.2.1.length:Int):=by
 unfold dw
 simp only [au,dq,decide_eq_false_iff_not]; omega
def fZ (o:aM):List Int→List UInt8
 | []=> []
 | i::r=>(sg o i).1++fZ o r
def tL (o:aM):List Int→List bU
 | []=> []
 | i::r=>(sg o i).2.1++tL o r
def qy (o:aM):Int→List Int→List Int
 | _,[]=> []
 | at_,i::r=>fc (sg o i).2.1.length at_++qy o (at_+((sg o i).1.length:Int)) r
theorem arN {o:aM} (h:oE o=0):∀ {l:List Int},l.all (dw o)=true→(fZ o l).length≤4 * l.length
 | [],_=>by simp [fZ]
 | i::r,hl=>by
   simp only [dN,au] at hl
   have h1:=(ju (ml h (iU.1 hl.1))).2.2.2
   have h2:=arN h hl.2
   simp only [fZ,cq,dV]; omega
theorem akB {o:aM} (h:oE o=0):∀ {l:List Int},l.all (dw o)=true→(tL o l).length≤2 * l.length
 | [],_=>by simp [tL]
 | i::r,hl=>by
   simp only [dN,au] at hl
   have h1:=(ju (ml h (iU.1 hl.1))).1
   have h2:=akB h hl.2
   simp only [tL,cq,dV]; omega
theorem aeb {R:Type} (k0:List UInt8→Bool→Option R) (K:List UInt8→Option R) (o:aM) (ho:oE o=0):
  ∀ (ys pre:List Int) (m:Nat) (acc:List UInt8),ys.length < m→(pre++ys).length≤1000→acc.length+4 * ys.length≤100000→
    tj (cD 2000) k0 (fun _ a _ _ _=>K a) m o acc (pre++ys) ((pre++ys).length:Int) (pre.length:Int)=cond (ys.all (dw o)) (K (acc++fZ o ys)) (k0 [] false):=by
 intro ys
 induction ys with
 | nil=>
   intro pre m acc hm hb ha
   cases m with
   | zero=>omega
   | succ m=>
     unfold tj
     simp only [xD,xz,xA,xB,xC,xE,sE,er,aB,my,cond_true,fZ,je acc]
 | cons y ys ih=>
   intro pre m acc hm hb ha
   cases m with
   | zero=>omega
   | succ m=>
     have hwr:=ew pre ys y (by unfold bG; omega)
     unfold tj
     simp only [xD,xz,xA,xB,xC,xE,sE,ei,dG,c9,if_true,aL,hwr,dN]
     cases h1:decide (y < 0) with
     | true=>simp only [aL,dw,h1,eb,jc,cond_false]
     | false=>
       cases h2:decide (y≥(o.2.1.length:Int)) with
       | true=>simp only [aL,aB,dw,h1,h2,eb,fo,Dv,jc,cond_false]
       | false=>
         have hix:dw o y=true:=by unfold dw; rw [h1,h2]; rfl
         have hy:=iU.1 hix
         have hg:=ju (ml ho hy)
         have hin:(0≤y∧y < (o.2.1.length:Int))=True:=by rw [eq_iff_iff,iff_true]; exact hy
         have hs:o.2.1.getD y.toNat g0=sg o y:=rfl
         have hw:cD 2000 acc (sg o y).1=some (acc++(sg o y).1):=by
          unfold cD
          rw [if_pos (by simp only [dV] at ha; omega)]
         simp only [aB,hin,if_true,hs,hw,aq,hix,fF,fZ]
         have:=ih (pre++[y]) m (acc++(sg o y).1) (by simpa using hm) (by rw [←bC]; exact hb) (by simp only [cq,dV] at ha ⊢; omega)
         rw [←bC,bJ] at this
         exact this
theorem v57 (o:aM) (l:List Int) (ho:oE o=0) (hl:l.length≤1000):ic 2000 o l=some (cond (l.all (dw o)) (fZ o l,true) ([],false)):=by
 unfold ic
 have:=aeb (R:=List UInt8×Bool) (fun a b=>some (a,b)) (fun x=>(dW 2000 x).bind fun r=>some (r,true)) o ho l [] 2000 [] (by omega) (by simpa using hl) (by simp; omega)
 simp only [dd,dI] at this
 simp only [xD,xz,xA,xB,xC,xE,sE]
 refine dB this ?_
 cases l.all (dw o)<;>rfl
def lE (o:aM) (l:List Int):Int:=cond (oE o != 0) (oE o) (cond (decide ((l.length:Int) > 16)) 3 (cond (l.all (dw o)) 0 6))
theorem v55 (o:aM) (l:List Int) (hl:l.length≤40):fy 2000 o l=some (lE o l):=by
 unfold fy lE
 simp only [JY,CF,v70,aq]
 cases h:oE o != 0 with
 | true=>rfl
 | false=>
   have ho:oE o=0:=by simpa using h
   cases decide ((l.length:Int) > 16) with
   | true=>rfl
   | false=>
     simp only [aB,cond_false,v57 o l ho (by omega),aq]
     cases l.all (dw o)<;>rfl
theorem adF {o:aM} {l:List Int} (h:lE o l=0):oE o=0∧l.length≤16∧l.all (dw o)=true:=by
 unfold lE at h
 cases h1:oE o != 0 with
 | true=>rw [h1,cond_true] at h; rw [h] at h1; cases h1
 | false=>
   have ho:oE o=0:=by simpa using h1
   rw [h1,cond_false] at h
   cases h2:decide ((l.length:Int) > 16) with
   | true=>rw [h2,cond_true] at h; cases h
   | false=>
     rw [h2,cond_false] at h
     have:=of_decide_eq_false h2
     cases h3:l.all (dw o) with
     | false=>rw [h3] at h; cases h
     | true=>exact ⟨ho,by omega,rfl⟩
theorem aeg {R:Type} (K:aM→List Int→Int→Int→List Int→Int→Int→Option R) (o:aM) (a:Int) (i:Int) (L:List Int) (n j:Int):
  ∀ (c d m:Nat) (acc:List Int),c < m→c+d≤1000→acc.length+c≤100000→
    td (fun y0 y1 y2 y3 y4 y5 y6 _ _=>K y0 y1 y2 y3 y4 y5 y6) m o acc a i L n j ((d+c:Nat):Int) (d:Int)=K o (acc++fc c a) a i L n j:=by
 intro c
 induction c with
 | zero=>
   intro d m acc hm hb ha
   cases m with
   | zero=>omega
   | succ m=>
     have e:decide ((d:Int) < ((d+0:Nat):Int))=false:=decide_eq_false (by omega)
     unfold td
     simp only [pM,pF,pI,pG,pO,pP,pQ,pR,pH,pJ,pK,pL,pN,g24,e,aB,List.replicate_zero,je]
 | succ c ih=>
   intro d m acc hm hb ha
   cases m with
   | zero=>omega
   | succ m=>
     have e:decide ((d:Int) < ((d+(c+1):Nat):Int))=true:=decide_eq_true (by omega)
     have hl:(acc.length+[a].length≤17592186044416)=True:=by rw [eq_iff_iff,iff_true]; simp only [iG]; omega
     have hw:IntKind.i64.wrap ((d:Int)+1)=((d+1:Nat):Int):=by rw [fm (by omega)]; simp
     unfold td
     simp only [pM,pF,pI,pG,pO,pP,pQ,pR,pH,pJ,pK,pL,pN,g24,e,aL,hl,if_true,hw]
     have:=ih (d+1) m (acc++[a]) (by omega) (by omega) (by simp; omega)
     rw [show d+1+c=d+(c+1) by omega,bJ] at this
     rw [this]
     rfl
theorem aeh {R:Type} (K:List Int→Option R) (o:aM) (ho:oE o=0):
  ∀ (ys pre:List Int) (m:Nat) (acc:List Int) (a:Int),ys.all (dw o)=true→ys.length < m→(pre++ys).length≤1000→acc.length+4 * ys.length≤100000→0≤a→a+4 * ys.length≤100000→
    qk 2000 (fun _ a _ _ _ _=>K a) m o acc a (pre++ys) ((pre++ys).length:Int) (pre.length:Int)=K (acc++qy o a ys):=by
 intro ys
 induction ys with
 | nil=>
   intro pre m acc a hi hm hb ha h0 h1
   cases m with
   | zero=>omega
   | succ m=>
     unfold qk
     simp only [pM,pF,pI,pG,pO,pP,pQ,pR,pH,pJ,pK,pL,pN,g24,er,aB,qy,je acc]
 | cons y ys ih=>
   intro pre m acc a hi hm hb ha h0 h1
   cases m with
   | zero=>omega
   | succ m=>
     have hwr:=ew pre ys y (by unfold bG; omega)
     simp only [dN,au] at hi
     have hy:=iU.1 hi.1
     have hg:=ju (ml ho hy)
     have hin:(0≤y∧y < (o.2.1.length:Int))=True:=by rw [eq_iff_iff,iff_true]; exact hy
     have hs:o.2.1.getD y.toNat g0=sg o y:=rfl
     simp only [dV] at ha h1
     have hw:IntKind.i64.wrap (a+((sg o y).1.length:Int))=a+((sg o y).1.length:Int):=fm (by omega)
     have hI:=aeg (R:=R) (fun y0 y1 y2 y3 y4 y5 y6=>if 0≤y3∧y3 < (y0.2.1.length:Int) then qk 2000 (fun _ a _ _ _ _=>K a) m y0 y1 (IntKind.i64.wrap (y2+(((y0.2.1.getD y3.toNat g0).1).length:Int))) y4 y5 (IntKind.i64.wrap (y6+(1:Int))) else none) o a y (pre++y::ys) ((pre++y::ys).length:Int) (pre.length:Int) (sg o y).2.1.length 0 2000 acc (by omega) (by omega) (by omega)
     simp only [kr] at hI
     have z:((0:Nat):Int)=0:=rfl
     rw [z] at hI
     unfold qk
     simp only [pM,pF,pI,pG,pO,pP,pQ,pR,pH,pJ,pK,pL,pN,g24,ei,dG,c9,if_true,aL,hin,hs]
     refine dB hI ?_
     simp only [hin,if_true,hs,hw,hwr,qy]
     have:=ih (pre++[y]) m (acc++fc (sg o y).2.1.length a) (a+((sg o y).1.length:Int)) hi.2 (by simpa using hm) (by rw [←bC]; exact hb) (by simp only [cq,zo]; omega) (by omega) (by omega)
     rw [←bC,bJ] at this
     exact this
theorem v24 (o:aM) (l:List Int) (hl:l.length≤40):gH 2000 o l=some (cond (lE o l != 0) ([],lE o l) (qy o 0 l,0)):=by
 unfold gH
 simp only [pM,pF,pI,pG,pO,pP,pQ,pR,pH,pJ,pK,pL,pN,g24,v55 o l hl,aq]
 cases h:lE o l != 0 with
 | true=>rfl
 | false=>
   obtain ⟨ho,h16,hi⟩:=adF (by simpa using h)
   have:=aeh (R:=List Int×Int) (fun a=>some (a,0)) o ho l [] 2000 [] 0 hi (by omega) (by simp; omega) (by simp; omega) (by omega) (by omega)
   simp only [dd,dI] at this
   exact this
theorem adX {R:Type} (k0:Bool→Option R) (K:Option R):
  ∀ (ys pre zs pre2:List Int) (m:Nat),ys.length < m→(pre++ys).length≤bG→pre.length=pre2.length→ys.length=zs.length→
    s8 k0 (fun _ _ _ _=>K) m (pre++ys) (pre2++zs) ((pre++ys).length:Int) (pre.length:Int)=ad (ys==zs) K (k0 false):=by
 intro ys
 induction ys with
 | nil=>
   intro pre zs pre2 m hm hb hp hz
   have:zs=[]:=mz.1 hz.symm
   subst this
   cases m with
   | zero=>omega
   | succ m=>
     unfold s8
     simp only [wG,wB,wC,wD,wF,wH,g15,er,aB]
     rfl
 | cons y ys ih=>
   intro pre zs pre2 m hm hb hp hz
   obtain ⟨z,zs,rfl⟩:∃ z zs',zs=z::zs':=by
    cases zs with
    | nil=>simp at hz
    | cons z zs=>exact ⟨z,zs,rfl⟩
   cases m with
   | zero=>omega
   | succ m=>
     have hwr:=ew pre ys y hb
     have i2:(0≤(pre.length:Int)∧(pre.length:Int) < ((pre2++z::zs).length:Int))=True:=by rw [hp]; exact dG _ _ _
     have a2:(pre2++z::zs).getD (fG (pre.length:Int)) (0:Int)=z:=by rw [hp]; exact c9 _ _ _ _
     have e:((y::ys)==(z::zs))=(y==z&&ys==zs):=rfl
     unfold s8
     simp only [wG,wB,wC,wD,wF,wH,g15,ei,dG,c9,if_true,aL,hwr,i2,a2,e]
     cases h:y==z with
     | false=>
       have:(y != z)=true:=by unfold bne; rw [h]; rfl
       simp only [this,aL,jc,aB]
     | true=>
       have:(y != z)=false:=by unfold bne; rw [h]; rfl
       simp only [this,aB,fF]
       rw [bC pre ys y,bC pre2 zs z]
       exact ih (pre++[y]) zs (pre2++[z]) m (by simpa using hm) (by rw [←bC]; exact hb) (by simp [hp]) (by simpa using hz)
theorem v15 (a b:List Int) (h:a.length < 2000):gG 2000 a b=some (a==b):=by
 unfold gG
 simp only [wG,wB,wC,wD,wF,wH,g15]
 by_cases hl:a.length=b.length
 ·have e:((a.length:Int) != (b.length:Int))=false:=by simp [hl]
  have:=adX (R:=Bool) some (some true) a [] b [] 2000 h (by unfold bG; simp; omega) rfl hl
  simp only [dd,dI] at this
  simp only [e,aB]
  refine dB this ?_
  cases a==b<;>rfl
 ·have e:((a.length:Int) != (b.length:Int))=true:=bne_iff_ne.2 (by omega)
  simp only [e,aL]
  have:(a==b)=false:=beq_eq_false_iff_ne.2 fun e=>hl (congrArg jV e)
  rw [this]
theorem afF {o:aM} (h:oE o=0):∀ {l:List Int} {a:Int},l.all (dw o)=true→(qy o a l).length=(tL o l).length
 | [],_,_=>rfl
 | i::r,a,hl=>by
   simp only [dN,au] at hl
   simp only [qy,tL,cq,zo,afF h hl.2]
def oB:List bU→Bool
 | []=>false
 | s::_=>gA s
def en (l:List bU):Bool:=match l.getLast? with | none=>false | some s=>gA s
def r7 (w:Int) (bf af:List bU):Bool:=cond (w==0) true (cond (w==1) (oB af) (cond (w==2) (oB af&&(bf.length:Int)==0) (cond (w==3) (oB af&&en bf) (cond (w==4) (!oB af) false))))
def iu (o:aM) (i:Int) (bf af:List bU):Bool:=dw o i&&r7 (sg o i).2.2.2.1 bf af
theorem XE (l:List bU) (s:bU):en (l++[s])=gA s:=by unfold en; simp
theorem asY (w:Int) (bf af af2:List bU) (h:oB af=oB af2):r7 w bf af=r7 w bf af2:=by unfold r7; rw [h]
theorem v60 (o:aM) (i:Int) (bf af:List bU) (hb:bf.length≤bG):bA 2000 o i bf af=some (iu o i bf af):=by
 unfold bA iu dw
 simp only [J1,J2,J3,J4,J5,sF,v87,aq]
 cases h1:decide (i < 0) with
 | true=>rfl
 | false=>
   cases h2:decide (i≥(o.2.1.length:Int)) with
   | true=>rfl
   | false=>
     have e1:=of_decide_eq_false h1
     have e2:=of_decide_eq_false h2
     have hin:(0≤i∧i < (o.2.1.length:Int))=True:=by rw [eq_iff_iff,iff_true]; omega
     have hs:o.2.1.getD i.toNat g0=sg o i:=rfl
     have key:∀ b:Bool,oB af=b→(ad ((sg o i).2.2.2.1==(0:Int)) (some true) (ad ((sg o i).2.2.2.1==(1:Int)) (some b) (ad ((sg o i).2.2.2.1==(2:Int)) (ad b (some ((bf.length:Int)==(0:Int))) (some false)) (ad ((sg o i).2.2.2.1==(3:Int)) (ad b (ad (decide ((bf.length:Int) > (0:Int)))
       (if 0≤IntKind.i64.wrap ((bf.length:Int) - 1)∧IntKind.i64.wrap ((bf.length:Int) - 1) < (bf.length:Int) then some (gA (bf.getD (IntKind.i64.wrap ((bf.length:Int) - 1)).toNat s0)) else none) (some false)) (some false)) (ad ((sg o i).2.2.2.1==(4:Int)) (some (!b)) (some false))))))=some (!false&&!false&&r7 (sg o i).2.2.2.1 bf af):=by
      intro b hbb
      have hl:(ad (decide ((bf.length:Int) > (0:Int))) (if 0≤IntKind.i64.wrap ((bf.length:Int) - 1)∧IntKind.i64.wrap ((bf.length:Int) - 1) < (bf.length:Int) then some (gA (bf.getD (IntKind.i64.wrap ((bf.length:Int) - 1)).toNat s0)) else none) (some false))=some (en bf):=by
       rcases LN bf with h | ⟨l,s,h⟩
       ·subst h; rfl
       ·rw [LL] at h
        subst h
        have hlen:l.length < bG:=by simp at hb; omega
        have w:IntKind.i64.wrap (((l++[s]).length:Int) - 1)=(l.length:Int):=by
         have:((l++[s]).length:Int) - 1=(l.length:Int):=by simp
         rw [this]; exact fm (by unfold bG at hlen; omega)
        have d:decide (((l++[s]).length:Int) > 0)=true:=decide_eq_true (by simp only [cq,iG]; omega)
        have c:(0≤(l.length:Int)∧(l.length:Int) < ((l++[s]).length:Int))=True:=by rw [eq_iff_iff,iff_true]; simp only [cq,iG]; omega
        rw [w,d,XE]
        simp only [c,if_true,aL]
        simp
      rw [hl]
      unfold r7
      rw [hbb]
      cases (sg o i).2.2.2.1==(0:Int)<;>cases (sg o i).2.2.2.1==(1:Int)<;>cases (sg o i).2.2.2.1==(2:Int)<;>cases (sg o i).2.2.2.1==(3:Int)<;>cases (sg o i).2.2.2.1==(4:Int)<;>cases b<;>rfl
     simp only [aB,hin,if_true,hs]
     cases af with
     | nil=>
       have d:decide ((([]:List bU).length:Int) > 0)=false:=rfl
       simp only [d,aB]
       exact key false rfl
     | cons s af=>
       have d:decide (((s::af).length:Int) > 0)=true:=decide_eq_true (by simp only [dV]; omega)
       have c:(0≤(0:Int)∧(0:Int) < ((s::af).length:Int))=True:=by rw [eq_iff_iff,iff_true]; simp only [dV]; omega
       simp only [d,aL,c,if_true]
       exact key (gA s) rfl
def eQ (o:aM) (i:Int):List bU:=cond (decide (i < 0)) [] (sg o i).2.1
abbrev Nd:Type:=Int×(Int×(Int×Unit))
abbrev jJ:Type:=aM×(List UInt8×(List (Nd×Int)×Unit))
theorem WA (x:jJ) (i:Int) (h:i < (x.1.2.1.length:Int)):bB 2000 x i=some (eQ x.1 i):=by
 unfold bB eQ
 simp only [J8,sO]
 cases h1:decide (i < 0) with
 | true=>rfl
 | false=>
   have e1:=of_decide_eq_false h1
   have hin:(0≤i∧i < (x.1.2.1.length:Int))=True:=by rw [eq_iff_iff,iff_true]; omega
   simp only [aB,hin,if_true]
   rfl
theorem Wc {o:aM} (ho:oE o=0) (i:Int) (h:i < (o.2.1.length:Int)):(eQ o i).length≤2:=by
 unfold eQ
 cases h1:decide (i < 0) with
 | true=>simp
 | false=>exact (ju (ml ho ⟨by have:=of_decide_eq_false h1; omega,h⟩)).1
def pf (s t:List UInt8):Bool:=decide ((s.length:Int)≥(t.length:Int))&&(s.take t.length==t)
theorem v54 (s t:List UInt8):aS 2000 s t=some (pf s t):=by
 unfold aS
 simp only [JX,sD]
 unfold eS pf
 simp only [Ka,sQ]
 cases h:decide ((s.length:Int)≥(t.length:Int)) with
 | false=>rfl
 | true=>
   have:=of_decide_eq_true h
   have c:(0≤(0:Int)∧(0:Int)≤(t.length:Int)∧(t.length:Int)≤(s.length:Int))=True:=by rw [eq_iff_iff,iff_true]; omega
   simp only [aL,c,if_true,aq,fF]
   simp
theorem yE {s t:List UInt8}:pf s t=true↔∃ r,s=t++r:=by
 unfold pf
 rw [au,decide_eq_true_iff,beq_iff_eq]
 constructor
 ·rintro ⟨_,h⟩
  exact ⟨s.drop t.length,by rw [←h]; conv=>lhs; rw [←List.take_append_drop t.length s]
                            simp [h]⟩
 ·rintro ⟨r,rfl⟩
  simp; omega
def jz (o:aM) (w:List UInt8) (n:Nd) (s:bX):Bool:=pf (w.drop n.2.2.1.toNat) s.1&&(decide (n.2.1 < 0) || iu o n.2.1 (eQ o n.1) s.2.1)
def oe (n:Nd) (i:Int) (s:bX):Nd:=(n.2.1,(i,(n.2.2.1+(s.1.length:Int),())))
def dQ (o:aM) (w:List UInt8) (n:Nd):List bX→Int→List Nd
 | [],_=> []
 | s::r,i=>cond (jz o w n s) (oe n i s::dQ o w n r (i+1)) (dQ o w n r (i+1))
structure Ok (o:aM) (w:List UInt8) (n:Nd):Prop where
 b:n.1 < (o.2.1.length:Int)
 s:n.2.1 < (o.2.1.length:Int)
 e0:0≤n.2.2.1
 e1:n.2.2.1≤(w.length:Int)
theorem aef {R:Type} (K:List Nd→Option R) (x:jJ) (ho:oE x.1=0) (hw:x.2.1.length≤100) (n:Nd) (hn:Ok x.1 x.2.1 n):
  ∀ (ys pre:List bX) (m:Nat) (acc:List Nd),ys.length < m→(pre++ys).length≤120→acc.length≤pre.length→(∀ s∈ys,s.1.length≤4)→
    qp (aS 2000) (bA 2000) (bB 2000) (fun _ _ a _ _ _=>K a) m x n acc (pre++ys) ((pre++ys).length:Int) (pre.length:Int)=K (acc++dQ x.1 x.2.1 n ys (pre.length:Int)):=by
 intro ys
 induction ys with
 | nil=>
   intro pre m acc hm hb ha hy
   cases m with
   | zero=>omega
   | succ m=>
     unfold qp
     simp only [xV,xR,xS,xT,xU,xW,nQ,er,aB,dQ,je acc]
 | cons y ys ih=>
   intro pre m acc hm hb ha hy
   cases m with
   | zero=>omega
   | succ m=>
     have hwr:=ew pre ys y (by unfold bG; omega)
     have hl:((pre++[y]).length:Int)=(pre.length:Int)+1:=by simp
     have hbp:pre.length < 120:=by simp at hb; omega
     have hy4:=hy y (by simp)
     have hgo:∀ a:List Nd,a.length≤pre.length+1→qp (aS 2000) (bA 2000) (bB 2000) (fun _ _ a _ _ _=>K a) m x n a (pre++y::ys) ((pre++y::ys).length:Int) ((pre++[y]).length:Int)=K (a++dQ x.1 x.2.1 n ys ((pre.length:Int)+1)):=by
      intro a h
      have:=ih (pre++[y]) m a (by simpa using hm) (by rw [←bC]; exact hb) (by simpa using h) (fun s hs=>hy s (eR _ hs))
      rw [←bC,hl] at this
      rw [hl]; exact this
     have he0:=hn.e0; have he1:=hn.e1
     have c:(0≤n.2.2.1∧n.2.2.1≤(x.2.1.length:Int)∧(x.2.1.length:Int)≤(x.2.1.length:Int))=True:=by rw [eq_iff_iff,iff_true]; omega
     have ht:(x.2.1.drop n.2.2.1.toNat).take ((x.2.1.length:Int).toNat - n.2.2.1.toNat)=x.2.1.drop n.2.2.1.toNat:=by
      apply LU; rw [kQ]; omega
     have hwe:IntKind.i64.wrap (n.2.2.1+(y.1.length:Int))=n.2.2.1+(y.1.length:Int):=fm (by omega)
     have hla:∀ z:Nd,(acc.length+[z].length≤5864062014805)=True:=by intro z; rw [eq_iff_iff,iff_true]; simp only [iG]; omega
     have hto:((n.2.1,((pre.length:Int),(n.2.2.1+(y.1.length:Int),()))):Nd)=oe n (pre.length:Int) y:=rfl
     have hyes:K ((acc++[oe n (pre.length:Int) y])++dQ x.1 x.2.1 n ys ((pre.length:Int)+1))=K (acc++oe n (pre.length:Int) y::dQ x.1 x.2.1 n ys ((pre.length:Int)+1)):=by rw [bJ]; rfl
     unfold qp
     simp only [xV,xR,xS,xT,xU,xW,nQ,ei,dG,c9,if_true,aL,hwr,c,ht,v54,aq,hwe,hla,hto,dQ,jz]
     cases h1:pf (x.2.1.drop n.2.2.1.toNat) y.1 with
     | false=>simp only [aB,jc,cond_false]; exact hgo acc (by omega)
     | true=>
       simp only [aL,fF]
       cases h2:decide (n.2.1 < 0) with
       | true=>
         simp only [aL,tT,cond_true]
         exact (hgo _ (by simp; omega)).trans hyes
       | false=>
         simp only [aB,oi,WA x n.1 hn.b,aq,v60 x.1 n.2.1 (eQ x.1 n.1) y.2.1 (by have:=Wc ho n.1 hn.b; unfold bG; omega)]
         cases h3:iu x.1 n.2.1 (eQ x.1 n.1) y.2.1 with
         | false=>simp only [aB,cond_false]; exact hgo acc (by omega)
         | true=>
           simp only [aL,cond_true]
           exact (hgo _ (by simp; omega)).trans hyes
theorem WB (x:jJ) (ho:oE x.1=0) (hw:x.2.1.length≤100) (n:Nd) (hn:Ok x.1 x.2.1 n):cx 2000 x n=some (dQ x.1 x.2.1 n x.1.2.1 0):=by
 unfold cx
 have h120:=(ki ho).2.1
 have:=aef (R:=List Nd) some x ho hw n hn x.1.2.1 [] 2000 [] (by omega) (by simpa using h120) (by simp) (fun s hs=>(ju ((ki ho).1 s hs)).2.2.2)
 simp only [dd,dI] at this
 simp only [xV,xR,xS,xT,xU,xW,nQ]
 exact this
theorem K8 {o:aM} {w:List UInt8} {n m:Nd} (ho:oE o=0) (hn:Ok o w n):∀ (ys pre:List bX),o.2.1=pre++ys→m∈dQ o w n ys (pre.length:Int)→
  m.1=n.2.1∧0≤m.2.1∧m.2.1 < (o.2.1.length:Int)∧n.2.2.1 < m.2.2.1∧m.2.2.1≤(w.length:Int)∧m.2.2.1=n.2.2.1+((sg o m.2.1).1.length:Int)∧jz o w n (sg o m.2.1)=true
 | [],_,_,h=>absurd h (by simp [dQ])
 | y::ys,pre,hl,h=>by
   have hgo:=K8 (m:=m) ho hn ys (pre++[y]) (by rw [hl,bC])
   have hlen:((pre++[y]).length:Int)=(pre.length:Int)+1:=by simp
   rw [hlen] at hgo
   unfold dQ at h
   cases hk:jz o w n y with
   | false=>rw [hk,cond_false] at h; exact hgo h
   | true=>
     rw [hk,cond_true] at h
     rcases cL.1 h with h | h
     ·subst h
      have hsg:sg o (pre.length:Int)=y:=by unfold sg; rw [hl]; exact c9 _ _ _ _
      have hmem:y∈o.2.1:=by rw [hl]; simp
      have hg:=ju ((ki ho).1 y hmem)
      have hpos:0 < y.1.length:=zn.2 hg.2.2.1
      have hkk:=hk
      unfold jz at hk
      simp only [au] at hk
      obtain ⟨r,hr⟩:=yE.1 hk.1
      have h1:=congrArg jV hr
      simp only [kQ,cq] at h1
      have he0:=hn.e0; have he1:=hn.e1
      refine ⟨rfl,by show 0≤(pre.length:Int); omega,by show (pre.length:Int) < _; rw [hl]; simp only [cq,dV]; omega,by show n.2.2.1 < n.2.2.1+(y.1.length:Int); omega,by show n.2.2.1+(y.1.length:Int)≤_; omega,by show n.2.2.1+(y.1.length:Int)=n.2.2.1+((sg o (pre.length:Int)).1.length:Int); rw [hsg],by show jz o w n (sg o (pre.length:Int))=true; rw [hsg]; exact hkk⟩
     ·exact hgo h
theorem afE {o:aM} {w:List UInt8} {n m:Nd} (ho:oE o=0) (hn:Ok o w n) (h:m∈dQ o w n o.2.1 0):Ok o w m∧n.2.2.1 < m.2.2.1∧0≤m.2.1:=by
 have:=K8 ho hn o.2.1 [] rfl h
 have he0:=hn.e0
 exact ⟨⟨by rw [this.1]; exact hn.s,this.2.2.1,by omega,this.2.2.2.2.1⟩,this.2.2.2.1,this.2.1⟩
def wy (o:aM) (w:List UInt8):Nat→Nd→List (List Int)
 | 0,_=> []
 | f+1,n=>cond (n.2.2.1==(w.length:Int)) (cond (decide (n.2.1≥0)&&iu o n.2.1 (eQ o n.1) []) [[]] []) ((dQ o w n o.2.1 0).flatMap fun m=>(wy o w f m).map (m.2.1:: ·))
def rm (w:List UInt8) (n:Nd):Nat:=((w.length:Int) - n.2.2.1).toNat
def ways (o:aM) (w:List UInt8) (n:Nd):List (List Int):=wy o w (rm w n+1) n
theorem mW {o:aM} {w:List UInt8} {n m:Nd} (ho:oE o=0) (hn:Ok o w n) (h:m∈dQ o w n o.2.1 0):Ok o w m∧rm w m < rm w n∧0≤m.2.1:=by
 have h1:=afE ho hn h
 have:=h1.1.e1; have:=h1.2.1
 exact ⟨h1.1,by unfold rm; omega,h1.2.2⟩
theorem RG {α β:Type} {l:List α} {f g:α→List β} (h:∀ x∈l,f x=g x):l.flatMap f=l.flatMap g:=by
 induction l with
 | nil=>rfl
 | cons x l ih=>rw [zk,zk,h x (by simp),ih (fun y hy=>h y (eR _ hy))]
theorem WJ {o:aM} {w:List UInt8} (ho:oE o=0):∀ (f f':Nat) (n:Nd),Ok o w n→rm w n < f→rm w n < f'→wy o w f n=wy o w f' n
 | 0,_,_,_,h,_=>by omega
 | _+1,0,_,_,_,h=>by omega
 | f+1,f'+1,n,hn,h1,h2=>by
   unfold wy
   rw [RG fun m hm=>by
    have h3:=mW ho hn hm
    rw [WJ ho f f' m h3.1 (by omega) (by omega)]]
theorem Ly {o:aM} {w:List UInt8} {n:Nd} (h:(n.2.2.1==(w.length:Int))=true):ways o w n=cond (decide (n.2.1≥0)&&iu o n.2.1 (eQ o n.1) []) [[]] []:=by
 unfold ways wy; rw [h,cond_true]
theorem Dt {o:aM} {w:List UInt8} {n:Nd} (ho:oE o=0) (hn:Ok o w n) (h:(n.2.2.1==(w.length:Int))=false):ways o w n=(dQ o w n o.2.1 0).flatMap fun m=>(ways o w m).map (m.2.1:: ·):=by
 have h0:ways o w n=wy o w (rm w n+1) n:=rfl
 rw [h0]
 unfold wy; rw [h,cond_false]
 refine RG fun m hm=>?_
 have h3:=mW ho hn hm
 have h4:ways o w m=wy o w (rm w m+1) m:=rfl
 rw [h4,WJ ho (rm w n) (rm w m+1) m h3.1 (by omega) (by omega)]
theorem LB {o:aM} {w:List UInt8} (ho:oE o=0):∀ (f:Nat) (n:Nd),Ok o w n→∀ l∈wy o w f n,l.length≤rm w n
 | 0,_,_,l,h=>absurd h (by simp [wy])
 | f+1,n,hn,l,h=>by
   unfold wy at h
   cases he:n.2.2.1==(w.length:Int) with
   | true=>
     rw [he,cond_true] at h
     cases hf:decide (n.2.1≥0)&&iu o n.2.1 (eQ o n.1) [] with
     | true=>rw [hf,cond_true] at h; rw [iI.1 h]; simp
     | false=>rw [hf,cond_false] at h; cases h
   | false=>
     rw [he,cond_false] at h
     obtain ⟨m,hm,h2⟩:=DG.1 h
     obtain ⟨l',hl',rfl⟩:=dc.1 h2
     have h3:=mW ho hn hm
     have:=LB ho f m h3.1 l' hl'
     simp only [dV]; omega
def cn (o:aM) (w:List UInt8) (n:Nd):Int:=((min 201 (ways o w n).length:Nat):Int)
abbrev lX (a b:Nd):Bool:=(a.1==b.1)&&((a.2.1==b.2.1)&&((a.2.2.1==b.2.2.1)&&true))
theorem XG {a b:Nd} (h:lX a b=true):a=b:=by
 obtain ⟨a1,a2,a3,a4⟩:=a; obtain ⟨b1,b2,b3,b4⟩:=b
 simp only [lX,gR,au,beq_iff_eq] at h
 obtain ⟨h1,h2,h3⟩:=h
 subst h1; subst h2; subst h3; rfl
def Inv (o:aM) (w:List UInt8) (mp:List (Nd×Int)):Prop:=∀ p∈mp,p.2=cn o w p.1
theorem Vf {o:aM} {w:List UInt8} {k:Nd}:∀ {mp:List (Nd×Int)},Inv o w mp→(iw lX 0 mp k).2=true→(iw lX 0 mp k).1=cn o w k
 | [],_,h=>by simp [iw] at h
 | e::r,hI,h=>by
   unfold iw at h ⊢
   cases he:lX k e.1 with
   | true=>
     simp only [he]
     rw [XG he]
     exact hI e (by simp)
   | false=>
     simp only [he] at h ⊢
     exact Vf (fun p hp=>hI p (eR _ hp)) h
theorem Vh {o:aM} {w:List UInt8} {k:Nd}:∀ {mp:List (Nd×Int)},Inv o w mp→Inv o w (iW lX mp k (cn o w k))
 | [],_,p,hp=>by
   simp only [iW,iI] at hp
   rw [hp]
 | e::r,hI,p,hp=>by
   unfold iW at hp
   cases he:lX k e.1 with
   | true=>
     simp only [he] at hp
     rcases cL.1 hp with h | h
     ·rw [h]
     ·exact hI p (eR _ h)
   | false=>
     simp only [he] at hp
     rcases cL.1 hp with h | h
     ·rw [h]; exact hI e (by simp)
     ·exact Vh (fun p hp=>hI p (eR _ hp)) p h
def kM (o:aM) (w:List UInt8):List Nd→Nat
 | []=>0
 | m::r=>(ways o w m).length+kM o w r
theorem Lv (o:aM) (w:List UInt8):∀ l:List Nd,(l.flatMap fun m=>(ways o w m).map (m.2.1:: ·)).length=kM o w l
 | []=>rfl
 | m::r=>by rw [zk,cq,nc,Lv o w r]; rfl
theorem sat (s c:Nat):(if (201:Int) < ((min 201 s:Nat):Int)+((min 201 c:Nat):Int) then (201:Int) else ((min 201 s:Nat):Int)+((min 201 c:Nat):Int))=((min 201 (s+c):Nat):Int):=by
 split<;>omega
theorem aew {R:Type} (F:jJ→Nd→Option (jJ×Int)) (o:aM) (w:List UInt8) (n:Nd) (k0:jJ→Nd→Int→Option R):
  ∀ (ys pre:List Nd) (M:Nat) (mp:List (Nd×Int)) (s:Nat),ys.length < M→(pre++ys).length≤1000→Inv o w mp→
    (∀ y∈ys,∀ mp,Inv o w mp→∃ mp',Inv o w mp'∧F (o,(w,(mp,()))) y=some ((o,(w,(mp',()))),cn o w y))→
    ∃ mp',Inv o w mp'∧tg F (fun y0 y1 y2 _ _ _=>k0 y0 y1 y2) M (o,(w,(mp,()))) n ((min 201 s:Nat):Int) (pre++ys) ((pre++ys).length:Int) (pre.length:Int)=k0 (o,(w,(mp',()))) n ((min 201 (s+kM o w ys):Nat):Int):=by
 intro ys
 induction ys with
 | nil=>
   intro pre M mp s hM hb hI hF
   cases M with
   | zero=>omega
   | succ M=>
     refine ⟨mp,hI,?_⟩
     unfold tg
     simp only [xf,xb,xc,xd,xe,xg,ss,er,aB,kM,Nat.add_zero]
 | cons y ys ih=>
   intro pre M mp s hM hb hI hF
   cases M with
   | zero=>omega
   | succ M=>
     have hwr:=ew pre ys y (by unfold bG; omega)
     have hl:(fG (pre.length:Int) < (pre++y::ys).length)=True:=tv pre ys y
     obtain ⟨mp1,hI1,h1⟩:=hF y (by simp) mp hI
     obtain ⟨mp2,hI2,h2⟩:=ih (pre++[y]) M mp1 (s+(ways o w y).length) (by simpa using hM) (by rw [←bC]; exact hb) hI1 (fun z hz=>hF z (eR _ hz))
     rw [←bC] at h2
     refine ⟨mp2,hI2,?_⟩
     have hc:cn o w y=((min 201 (ways o w y).length:Nat):Int):=rfl
     have hw:IntKind.i64.wrap (((min 201 s:Nat):Int)+cn o w y)=((min 201 s:Nat):Int)+cn o w y:=fm (by rw [hc]; omega)
     unfold tg
     simp only [xf,xb,xc,xd,xe,xg,ss,ei,dG,c9,if_true,aL,hl,h1,aq,hw,hwr]
     rw [hc,sat]
     refine dB h2 ?_
     rw [show kM o w (y::ys)=(ways o w y).length+kM o w ys from rfl,Nat.add_assoc]
theorem K7 (o:aM) (w:List UInt8) (n:Nd):∀ (ys:List bX) (i:Int),(dQ o w n ys i).length≤ys.length
 | [],_=>by simp [dQ]
 | y::ys,i=>by
   have:=K7 o w n ys (i+1)
   unfold dQ
   cases jz o w n y<;>simp only [cond_true,cond_false,dV]<;>omega
theorem adQ {o:aM} {w:List UInt8} (ho:oE o=0) (hw:w.length≤100):∀ (m:Nat) (n:Nd) (mp:List (Nd×Int)),Ok o w n→rm w n < m→Inv o w mp→
  ∃ mp',Inv o w mp'∧ng 2000 m (o,(w,(mp,()))) n=some ((o,(w,(mp',()))),cn o w n):=by
 intro m
 induction m with
 | zero=>intro n mp hn hm; omega
 | succ m ih=>
   intro n mp hn hm hI
   unfold ng
   simp only [xf,xb,xc,xd,xe,xg,ss]
   cases he:n.2.2.1==(w.length:Int) with
   | true=>
     refine ⟨mp,hI,?_⟩
     have hc:cn o w n=cond (decide (n.2.1≥0)&&iu o n.2.1 (eQ o n.1) []) 1 0:=by
      unfold cn; rw [Ly he]
      cases decide (n.2.1≥0)&&iu o n.2.1 (eQ o n.1) []<;>rfl
     rw [hc]
     simp only [aL]
     cases hd:decide (n.2.1≥0) with
     | false=>rfl
     | true=>
       simp only [aL,WA (o,(w,(mp,()))) n.1 hn.b,aq,v60 o n.2.1 (eQ o n.1) [] (by have:=Wc ho n.1 hn.b; unfold bG; omega),fF]
       cases iu o n.2.1 (eQ o n.1) []<;>rfl
   | false=>
     simp only [aB]
     have hg:=Vf (k:=n) hI
     have hdef:iw (fun a b:Nd=>(a.1==b.1)&&((a.2.1==b.2.1)&&((a.2.2.1==b.2.2.1)&&true))) (0:Int) mp n=iw lX 0 mp n:=rfl
     rw [hdef]
     cases hb:(iw lX 0 mp n).2 with
     | true=>
       refine ⟨mp,hI,?_⟩
       rw [hg hb]
       rfl
     | false=>
       have hnx:=WB (o,(w,(mp,()))) ho hw n hn
       simp only at hnx
       have h120:=(ki ho).2.1
       have hnl:=K7 o w n o.2.1 0
       obtain ⟨mp1,hI1,h1⟩:=aew (R:=jJ×Int) (ng 2000 m) o w n (fun x0 x1 x2=>some ((x0.1,(x0.2.1,((iW (fun a b:Nd=>((a.1==b.1)&&((a.2.1==b.2.1)&&((a.2.2.1==b.2.2.1)&&true)))) x0.2.2.1 x1 x2),x0.2.2.2))),x2)) (dQ o w n o.2.1 0) [] 2000 mp 0 (by omega) (by simp; omega) hI (fun y hy mp hI=>by
        have h3:=mW ho hn hy
        exact ih y mp h3.1 (by omega) hI)
       have hcn:((min 201 (0+kM o w (dQ o w n o.2.1 0)):Nat):Int)=cn o w n:=by
        unfold cn; rw [Dt ho hn he,Lv,kr]
       simp only [dd,dI] at h1
       rw [hcn] at h1
       refine ⟨iW lX mp1 n (cn o w n),Vh hI1,?_⟩
       simp only [aB,hnx,aq]
       exact h1
theorem WE {o:aM} {w:List UInt8} (ho:oE o=0) (hw:w.length≤100) (n:Nd) (mp:List (Nd×Int)) (hn:Ok o w n) (hI:Inv o w mp):
  ∃ mp',Inv o w mp'∧aW 2000 (o,(w,(mp,()))) n=some ((o,(w,(mp',()))),cn o w n):=by
 unfold aW
 have h0:=hn.e0
 exact adQ ho hw 250 n mp hn (by unfold rm; omega) hI
def al (o:aM) (w:List UInt8) (n:Nd):List (List Int):=cond (n.2.2.1==(w.length:Int)) [[]] (ways o w n)
theorem L4 {o:aM} {w:List UInt8} {n:Nd} (h:ways o w n≠[]):al o w n=ways o w n:=by
 unfold al
 cases he:n.2.2.1==(w.length:Int) with
 | false=>rfl
 | true=>
   rw [Ly he] at h ⊢
   cases hf:decide (n.2.1≥0)&&iu o n.2.1 (eQ o n.1) [] with
   | true=>rfl
   | false=>rw [hf] at h; exact absurd rfl h
theorem aeo {R:Type} (K:jJ→List (List Int)→List Nd→Int→Int→Option R) (x:jJ) (n:Nd) (L:List Nd) (a b:Int):
  ∀ (ys pre:List (List Int)) (m:Nat) (acc:List (List Int)),ys.length < m→(pre++ys).length≤1000→acc.length+ys.length≤100000→(∀ l∈ys,l.length≤1000)→
    th (fun y0 y1 _ y3 y4 y5 _ _ _=>K y0 y1 y3 y4 y5) m x acc n L a b (pre++ys) ((pre++ys).length:Int) (pre.length:Int)=K x (acc++ys.map (n.2.1:: ·)) L a b:=by
 intro ys
 induction ys with
 | nil=>
   intro pre m acc hm hb ha hy
   cases m with
   | zero=>omega
   | succ m=>
     unfold th
     simp only [nG,nD,nM,nJ,nE,nI,nK,nL,nN,nO,nF,nH,mQ,er,aB,qT,je acc]
 | cons y ys ih=>
   intro pre m acc hm hb ha hy
   cases m with
   | zero=>omega
   | succ m=>
     have hwr:=ew pre ys y (by unfold bG; omega)
     have hl:(fG (pre.length:Int) < (pre++y::ys).length)=True:=tv pre ys y
     have hy1:=hy y (by simp)
     simp only [dV] at ha
     have c1:([n.2.1].length+y.length≤17592186044416)=True:=by rw [eq_iff_iff,iff_true]; simp only [iG]; omega
     have c2:(acc.length+[[n.2.1]++y].length≤5864062014805)=True:=by rw [eq_iff_iff,iff_true]; simp only [iG]; omega
     unfold th
     simp only [nG,nD,nM,nJ,nE,nI,nK,nL,nN,nO,nF,nH,mQ,ei,dG,c9,if_true,aL,hwr,hl,c1,c2,fQ]
     have:=ih (pre++[y]) m (acc++[[n.2.1]++y]) (by simpa using hm) (by rw [←bC]; exact hb) (by simp only [cq,iG]; omega) (fun l hl=>hy l (eR _ hl))
     rw [←bC,bJ] at this
     exact this
theorem adI {R:Type} (F:jJ→Nd→Option (jJ×List (List Int))) {o:aM} {w:List UInt8} (ho:oE o=0) (hw:w.length≤100) (K:jJ→List (List Int)→Option R):
  ∀ (ys pre:List Nd) (M:Nat) (mp:List (Nd×Int)) (acc:List (List Int)),ys.length < M→(pre++ys).length≤1000→Inv o w mp→(∀ y∈ys,Ok o w y)→acc.length+kM o w ys≤200→
    (∀ y∈ys,∀ mp,Inv o w mp→(ways o w y).length≤200→∃ mp',Inv o w mp'∧F (o,(w,(mp,()))) y=some ((o,(w,(mp',()))),al o w y))→
    ∃ mp',Inv o w mp'∧nR 2000 (aW 2000) F (fun y0 y1 _ _ _=>K y0 y1) M (o,(w,(mp,()))) acc (pre++ys) ((pre++ys).length:Int) (pre.length:Int)=K (o,(w,(mp',()))) (acc++ys.flatMap fun m=>(ways o w m).map (m.2.1:: ·)):=by
 intro ys
 induction ys with
 | nil=>
   intro pre M mp acc hM hb hI hO ha hF
   cases M with
   | zero=>omega
   | succ M=>
     refine ⟨mp,hI,?_⟩
     unfold nR
     simp only [nG,nD,nM,nJ,nE,nI,nK,nL,nN,nO,nF,nH,mQ,er,aB,List.flatMap_nil,je acc]
 | cons y ys ih=>
   intro pre M mp acc hM hb hI hO ha hF
   cases M with
   | zero=>omega
   | succ M=>
     have hwr:=ew pre ys y (by unfold bG; omega)
     have hl:(fG (pre.length:Int) < (pre++y::ys).length)=True:=tv pre ys y
     have hy:=hO y (by simp)
     have ht:kM o w (y::ys)=(ways o w y).length+kM o w ys:=rfl
     rw [ht] at ha
     obtain ⟨mp1,hI1,h1⟩:=WE ho hw y mp hy hI
     have hgo:=fun (mp:List (Nd×Int)) (acc:List (List Int)) (hI:Inv o w mp) (ha:acc.length+kM o w ys≤200)=>ih (pre++[y]) M mp acc (by simpa using hM) (by rw [←bC]; exact hb) hI (fun z hz=>hO z (eR _ hz)) ha (fun z hz=>hF z (eR _ hz))
     by_cases hc:cn o w y=0
     ·have hnil:ways o w y=[]:=by
       unfold cn at hc
       exact mz.1 (by omega)
      obtain ⟨mp2,hI2,h2⟩:=hgo mp1 acc hI1 (by omega)
      rw [←bC] at h2
      refine ⟨mp2,hI2,?_⟩
      have e:(cn o w y==0)=true:=beq_iff_eq.2 hc
      unfold nR
      simp only [nG,nD,nM,nJ,nE,nI,nK,nL,nN,nO,nF,nH,mQ,ei,dG,c9,if_true,aL,hl,h1,aq,e,hwr]
      rw [h2,zk,hnil]
      rfl
     ·have hne:ways o w y≠[]:=by
       intro h; apply hc; unfold cn; rw [h]; rfl
      obtain ⟨mp2,hI2,h2⟩:=hF y (by simp) mp1 hI1 (by omega)
      rw [L4 hne] at h2
      have e:(cn o w y==0)=false:=beq_eq_false_iff_ne.2 hc
      obtain ⟨mp3,hI3,h3⟩:=hgo mp2 (acc++(ways o w y).map (y.2.1:: ·)) hI2 (by rw [cq,nc]; omega)
      rw [←bC,bJ] at h3
      refine ⟨mp3,hI3,?_⟩
      have hp:=aeo (R:=R) (fun y0 y1 y3 y4 y5=>nR 2000 (aW 2000) F (fun y0 y1 _ _ _=>K y0 y1) M y0 y1 y3 y4 (IntKind.i64.wrap (y5+(1:Int)))) (o,(w,(mp2,()))) y (pre++y::ys) ((pre++y::ys).length:Int) (pre.length:Int) (ways o w y) [] 2000 acc (by omega) (by simp; omega) (by omega) (fun l hl=>by
       have h0:=hy.e0
       have:=LB ho _ y hy l hl
       unfold rm at this; omega)
      simp only [dd,dI] at hp
      unfold nR
      simp only [nG,nD,nM,nJ,nE,nI,nK,nL,nN,nO,nF,nH,mQ,ei,dG,c9,if_true,aL,hl,h1,aq,e,aB,h2]
      refine dB hp ?_
      rw [hwr,h3,zk]
theorem adH {o:aM} {w:List UInt8} (ho:oE o=0) (hw:w.length≤100):∀ (m:Nat) (n:Nd) (mp:List (Nd×Int)),Ok o w n→rm w n < m→Inv o w mp→(ways o w n).length≤200→
  ∃ mp',Inv o w mp'∧nh 2000 m (o,(w,(mp,()))) n=some ((o,(w,(mp',()))),al o w n):=by
 intro m
 induction m with
 | zero=>intro n mp hn hm; omega
 | succ m ih=>
   intro n mp hn hm hI h200
   unfold nh al
   simp only [nG,nD,nM,nJ,nE,nI,nK,nL,nN,nO,nF,nH,mQ]
   cases he:n.2.2.1==(w.length:Int) with
   | true=>exact ⟨mp,hI,rfl⟩
   | false=>
     have hnx:=WB (o,(w,(mp,()))) ho hw n hn
     simp only at hnx
     have h120:=(ki ho).2.1
     have hnl:=K7 o w n o.2.1 0
     rw [Dt ho hn he,Lv] at h200
     obtain ⟨mp1,hI1,h1⟩:=adI (R:=jJ×List (List Int)) (nh 2000 m) ho hw (fun x0 x1=>some (x0,x1)) (dQ o w n o.2.1 0) [] 2000 mp [] (by omega) (by simp; omega) hI (fun y hy=>(mW ho hn hy).1) (by simpa using h200) (fun y hy mp hI h2=>by
      have h3:=mW ho hn hy
      exact ih y mp h3.1 (by omega) hI h2)
     simp only [dd,dI] at h1
     refine ⟨mp1,hI1,?_⟩
     simp only [aB,cond_false,hnx,aq,Dt ho hn he]
     exact h1
def wE (s:List UInt8):Int:=cond (s==[]) 7 (cond (decide ((s.length:Int) > 16)) 3 (cond (s.all jw) 0 2))
def eV (o:aM) (w:List UInt8):Int:=cond (oE o != 0) (oE o) (wE w)
theorem ad3 {R:Type} (k0:Int→Option R) (K:Option R) (f:Int×Unit→Option Bool) (p:Int→Bool):
  ∀ (ys pre:List Int) (m:Nat),(∀ t∈ys,f (t,())=some (p t))→ys.length < m→(pre++ys).length≤bG→
    (ys.any p=false→qf k0 (fun _ _ _ _=>K) m (pre++ys) f ((pre++ys).length:Int) (pre.length:Int)=K)∧
    (ys.any p=true→∃ i:Nat,qf k0 (fun _ _ _ _=>K) m (pre++ys) f ((pre++ys).length:Int) (pre.length:Int)=k0 (i:Int)):=by
 intro ys
 induction ys with
 | nil=>
   intro pre m hf hm hb
   cases m with
   | zero=>omega
   | succ m=>
     unfold qf
     simp only [vU,vV,vW,vX,vY,vZ,sf,er,aB,zj]
     exact ⟨fun _=>trivial,fun h=>by cases h⟩
 | cons y ys ih=>
   intro pre m hf hm hb
   cases m with
   | zero=>omega
   | succ m=>
     have hwr:=ew pre ys y hb
     have hgo:=ih (pre++[y]) m (fun t ht=>hf t (eR _ ht)) (by simpa using hm) (by rw [←bC]; exact hb)
     rw [←bC] at hgo
     unfold qf
     simp only [vU,vV,vW,vX,vY,vZ,sf,ei,dG,c9,if_true,aL,hwr,hf y (by simp),aq,ot]
     cases h:p y with
     | true=>simp only [aL,tT]; exact ⟨(fun h=>by cases h),fun _=>⟨pre.length,rfl⟩⟩
     | false=>simp only [aB,oi]; exact hgo
theorem v96 (xs:List Int) (hx:xs.length < 2000) (f:Int×Unit→Option Bool) (p:Int→Bool) (hf:∀ t∈xs,f (t,())=some (p t)):c7 2000 xs f=some (xs.any p):=by
 unfold c7
 simp only [Kh,CL]
 unfold iJ
 simp only [vU,vV,vW,vX,vY,vZ,sf]
 have h:=ad3 (R:=Int) some (some (-1)) f p xs [] 2000 hf hx (by unfold bG; simp; omega)
 simp only [dd,dI] at h
 have z:((0:Nat):Int)=0:=rfl
 rw [z] at h
 cases ha:xs.any p with
 | false=>rw [h.1 ha]; rfl
 | true=>
   obtain ⟨i,h1⟩:=h.2 ha
   rw [h1]
   simp only [aq]
   have:decide ((i:Int)≥0)=true:=decide_eq_true (by omega)
   rw [this]
theorem Xa (s:List UInt8):(s.map ch).any (fun t=>!cR t)=!(s.map ch).all cR:=by
 induction s with
 | nil=>rfl
 | cons b s ih=>simp only [fQ,ot,dN,ih]; cases cR (ch b)<;>rfl
theorem US (s:List UInt8):s.all jw=((s.map ch).all cR&&s.all fun b=>!up b):=by
 induction s with
 | nil=>rfl
 | cons b s ih=>
   simp only [fQ,dN,ih,jw]
   have:cR (ch b)=cR (b.toNat:Int):=rfl
   rw [this]
   cases cR (b.toNat:Int)<;>cases up b<;>cases (s.map ch).all cR<;>cases s.all fun b=>!up b<;>rfl
theorem v71 (w:List UInt8) (h0:w≠[]) (hl:w.length≤16):∃ s,ig 2000 [w]=some (s,cond ((w.map ch).all cR) 0 2):=by
 have hc:c7 2000 (w.map fun b=>(b.toNat:Int)) (fun (x0:Int×Unit)=>((dp 2000 x0.1).bind fun b=>some [.v .bool b]).bind (jQ .bool))=some ((w.map ch).any fun t=>!cR t):=
  v96 (w.map ch) (by simp; omega) _ (fun t=>!cR t) (fun t ht=>by
   obtain ⟨b,_,rfl⟩:=dc.1 ht
   unfold dp
   simp only [Ki,CM]
   have:=(Ds b).1
   rw [show ca 2000 (ch b)=some (cR (ch b)) from this]
   rfl)
 have hJ:fB 2000 [w] [32]=some w:=by
  unfold fB
  simp only [Ko,Kk,Kl,Km,Kn,Kp,CN]
  rfl
 have h00:(w==[])=false:=by simpa using h0
 unfold ig
 simp only [xF,xG,xH,xI,xJ,xK,sM]
 show ∃ s,qo (c7 2000) (dp 2000) _ _ (1999+1) [w] [w] (1:Int) (0:Int)=_
 unfold qo
 have d0:decide ((0:Int) < 1)=true:=rfl
 have c0:(0≤(0:Int)∧(0:Int) < (([w]:List (List UInt8)).length:Int))=True:=by rw [eq_iff_iff,iff_true]; exact ⟨by omega,by simp⟩
 have g:([w]:List (List UInt8)).getD (0:Int).toNat []=w:=rfl
 simp only [xF,xG,xH,xI,xJ,xK,sM,d0,aL,c0,if_true,g,h00,aB,hc,aq,Xa]
 cases ha:(w.map ch).all cR with
 | false=>exact ⟨[],rfl⟩
 | true=>
   simp only [eb,aB]
   show ∃ s,qo (c7 2000) (dp 2000) _ _ (1998+1) [w] [w] (1:Int) (IntKind.i64.wrap (0+1))=_
   unfold qo
   have w1:IntKind.i64.wrap (0+1)=1:=rfl
   have d1:decide ((1:Int) < 1)=false:=rfl
   have d2:decide ((w.length:Int) > 120)=false:=decide_eq_false (by omega)
   simp only [xF,xG,xH,xI,xJ,xK,sM,w1,d1,aB,hJ,aq,d2]
   exact ⟨w,rfl⟩
theorem v40 (o:aM) (w:List UInt8):dz 2000 o w=some (eV o w):=by
 unfold dz eV wE
 simp only [JS,CB,v70,aq]
 cases oE o != 0 with
 | true=>rfl
 | false=>
   cases h0:w==[] with
   | true=>rfl
   | false=>
     cases h1:decide ((w.length:Int) > 16) with
     | true=>rfl
     | false=>
       have h2:=of_decide_eq_false h1
       obtain ⟨s,hs⟩:=v71 w (by simpa using h0) (by omega)
       simp only [aB,cond_false,hs,aq,v72 w (by omega)]
       rw [show (fold w != w)=!(fold w==w) from rfl,Ca,US]
       cases (w.map ch).all cR<;>cases w.all (fun b=>!up b)<;>rfl
theorem afs {R:Type} (k0:Int→Option R) (K:Option R):
  ∀ (ys pre:List UInt8) (m:Nat),ys.length < m→(pre++ys).length≤bG→
    tn (bu 2000) k0 (fun _ _=>K) m (pre++ys) (pre.length:Int)=cond ((ys.map ch).all cR) K (k0 2):=by
 intro ys
 induction ys with
 | nil=>
   intro pre m hm hb
   cases m with
   | zero=>omega
   | succ m=>
     unfold tn
     simp only [yb,xX,xY,xZ,ya,yc,sP,er,aB,qT,my,cond_true]
 | cons y ys ih=>
   intro pre m hm hb
   cases m with
   | zero=>omega
   | succ m=>
     have hwr:=ew pre ys y hb
     have hgo:=ih (pre++[y]) m (by simpa using hm) (by rw [←bC]; exact hb)
     rw [←bC] at hgo
     have hl:cR (ch y)=cR (y.toNat:Int):=rfl
     unfold tn
     simp only [yb,xX,xY,xZ,ya,yc,sP,ei,dG,c9,if_true,aL,hwr,(Ds y).2,aq,fQ,dN,hl]
     cases cR (y.toNat:Int) with
     | false=>simp only [fo,aL,jc,cond_false]
     | true=>simp only [eb,aB,fF]; exact hgo
theorem v48 (o:aM) (w:List UInt8):fx 2000 o w=some (eV o w):=by
 unfold fx eV
 simp only [JV,CE,v35,aq]
 cases oE o != 0 with
 | true=>rfl
 | false=>
   unfold iN wE
   simp only [yb,xX,xY,xZ,ya,yc,sP,aB,cond_false]
   cases h0:w==[] with
   | true=>rfl
   | false=>
     cases h1:decide ((w.length:Int) > 16) with
     | true=>rfl
     | false=>
       have h2:=of_decide_eq_false h1
       simp only [aB,cond_false,arQ w (by omega),aq]
       rw [show (fold w != w)=!(fold w==w) from rfl,Ca,US]
       cases w.all (fun b=>!up b) with
       | false=>rw [Dv]; rfl
       | true=>
         have:=afs (R:=Int) some (some 0) w [] 2000 (by omega) (by unfold bG; simp; omega)
         simp only [dd,dI] at this
         have z:((0:Nat):Int)=0:=rfl
         rw [z] at this
         simp only [eb,aB,gR]
         rw [this]
         cases (w.map ch).all cR<;>rfl
theorem sU {o:aM} {w:List UInt8} (h:eV o w=0):oE o=0∧w≠[]∧w.length≤16:=by
 unfold eV at h
 cases h1:oE o != 0 with
 | true=>rw [h1,cond_true] at h; rw [h] at h1; cases h1
 | false=>
   rw [h1,cond_false] at h
   unfold wE at h
   cases h2:w==[] with
   | true=>rw [h2] at h; cases h
   | false=>
     rw [h2] at h
     cases h3:decide ((w.length:Int) > 16) with
     | true=>rw [h3] at h; cases h
     | false=>have:=of_decide_eq_false h3; exact ⟨by simpa using h1,by simpa using h2,by omega⟩
def eU (o:aM):List Int→Int
 | []=>0
 | i::r=>(sg o i).2.2.1+eU o r
theorem Tl {x:bX} (h:gE x=0):0≤x.2.2.1∧x.2.2.1≤99:=by
 unfold gE at h
 cases h1:tE x.1 != 0 with
 | true=>rw [h1,cond_true] at h; rw [h] at h1; cases h1
 | false=>
   rw [h1,cond_false] at h
   cases h2:(x.2.1.length:Int)==0 with
   | true=>rw [h2] at h; cases h
   | false=>
     rw [h2,cond_false] at h
     cases h3:decide ((x.2.1.length:Int) > 2) with
     | true=>rw [h3] at h; cases h
     | false=>
       rw [h3,cond_false] at h
       cases h4:jE x.2.1 != 0 with
       | true=>rw [h4,cond_true] at h; rw [h] at h4; cases h4
       | false=>
         rw [h4,cond_false] at h
         cases h5:ur x with
         | true=>rw [h5] at h; cases h
         | false=>
           unfold ur at h5
           simp only [Bool.or_eq_false_iff,decide_eq_false_iff_not] at h5
           omega
theorem Xr {o:aM} (ho:oE o=0):∀ {l:List Int},l.all (dw o)=true→0≤eU o l∧eU o l≤99 * l.length
 | [],_=>by simp [eU]
 | i::r,h=>by
   simp only [dN,au] at h
   have h1:=Tl (ml ho (iU.1 h.1))
   have h2:=Xr ho h.2
   simp only [eU,dV]; omega
theorem adP {R:Type} (K:Int→Option R) (o:aM) (ho:oE o=0):
  ∀ (ys pre:List Int) (m:Nat) (s:Int),ys.all (dw o)=true→ys.length < m→(pre++ys).length≤1000→0≤s→s≤99 * pre.length→
    tf (fun _ y1 _ _ _=>K y1) m o s (pre++ys) ((pre++ys).length:Int) (pre.length:Int)=K (s+eU o ys):=by
 intro ys
 induction ys with
 | nil=>
   intro pre m s hi hm hb h0 h1
   cases m with
   | zero=>omega
   | succ m=>
     unfold tf
     simp only [w8,w0,w3,w4,w7,w9,sr,er,aB,eU,Int.add_zero]
 | cons y ys ih=>
   intro pre m s hi hm hb h0 h1
   cases m with
   | zero=>omega
   | succ m=>
     have hwr:=ew pre ys y (by unfold bG; omega)
     simp only [dN,au] at hi
     have hy:=iU.1 hi.1
     have hg:=Tl (ml ho hy)
     have hbp:pre.length < 1000:=by simp at hb; omega
     have hin:(0≤y∧y < (o.2.1.length:Int))=True:=by rw [eq_iff_iff,iff_true]; exact hy
     have hs:o.2.1.getD y.toNat g0=sg o y:=rfl
     have hw:IntKind.i64.wrap (s+(sg o y).2.2.1)=s+(sg o y).2.2.1:=fm (by omega)
     unfold tf
     simp only [w8,w0,w3,w4,w7,w9,sr,ei,dG,c9,if_true,aL,hwr,hin,hs,hw,eU]
     have:=ih (pre++[y]) m (s+(sg o y).2.2.1) hi.2 (by simpa using hm) (by rw [←bC]; exact hb) (by omega) (by simp only [cq,iG]; omega)
     rw [←bC,Int.add_assoc] at this
     exact this
theorem Lx (o:aM) (l:List Int) (ho:oE o=0) (hi:l.all (dw o)=true) (hl:l.length≤1000):ef 2000 o l=some (eU o l):=by
 unfold ef
 have:=adP (R:=Int) some o ho l [] 2000 0 hi (by omega) (by simpa using hl) (by omega) (by simp)
 simp only [dd,dI,Int.zero_add] at this
 simp only [w8,w0,w3,w4,w7,w9,sr]
 exact this
def il (a b:Int):Int:=ad (decide (a < b)) (-1) (ad (decide (a > b)) 1 0)
theorem v46 (a b:Int):ct 2000 a b=some (il a b):=by
 unfold ct il
 simp only [JU,CD]
 have h:∀ x:Int,gI 2000 x=some false:=by
  intro x
  unfold gI
  simp only [J9,CI,bne_self_eq_false]
 simp only [h,aq,aB]
 cases decide (a < b)<;>cases decide (a > b)<;>rfl
theorem HM {a b:Int} (h:a < b):il a b= -1:=by unfold il; rw [decide_eq_true h]; rfl
theorem Q1 {a b:Int} (h:b < a):il a b=1:=by unfold il; rw [decide_eq_false (show ¬ a < b by omega),decide_eq_true (show a > b from h)]; rfl
theorem Q0 (a:Int):il a a=0:=by
 have h:decide (a < a)=false:=decide_eq_false (by omega)
 unfold il
 simp only [gt_iff_lt,h,aB]
theorem rl (x:Int):ad ((-1:Int) != 0) (-1) x= -1:=rfl
theorem rn (x:Int):ad ((1:Int) != 0) 1 x=1:=rfl
def lex:List Int→List Int→Int
 | [],[]=>0
 | [],_::_=> -1
 | _::_,[]=>1
 | x::xs,y::ys=>ad (il x y != 0) (il x y) (lex xs ys)
theorem aec {R:Type} (k0:Int→Option R) (K:List Int→List Int→Option R):
  ∀ (ys pre zs pre2:List Int) (m:Nat),ys.length < m→(pre++ys).length≤bG→pre.length=pre2.length→(∀ r,ys≠[]∨r=K (pre++ys) (pre2++zs)→(ys=[]→K (pre++ys) (pre2++zs)=k0 (lex ys zs))→True)→
    (∀ A B,A=pre++ys→B=pre2++zs→A.length < B.length→K A B=k0 (-1))→(∀ A B,A=pre++ys→B=pre2++zs→¬ A.length < B.length→K A B=k0 0)→
    ti (ct 2000) k0 (fun y0 y1 _ _ _=>K y0 y1) m (pre++ys) (pre2++zs) (pre++ys) ((pre++ys).length:Int) (pre.length:Int)=k0 (lex ys zs):=by
 intro ys
 induction ys with
 | nil=>
   intro pre zs pre2 m hm hb hp _ h1 h2
   cases m with
   | zero=>omega
   | succ m=>
     unfold ti
     simp only [xi,xj,xk,xl,xm,xn,sB,er,aB]
     cases zs with
     | nil=>exact h2 _ _ rfl rfl (by simp [hp])
     | cons z zs=>exact h1 _ _ rfl rfl (by simp [hp])
 | cons y ys ih=>
   intro pre zs pre2 m hm hb hp _ h1 h2
   cases m with
   | zero=>omega
   | succ m=>
     have hwr:=ew pre ys y hb
     unfold ti
     simp only [xi,xj,xk,xl,xm,xn,sB,ei,dG,c9,if_true,aL,hwr]
     cases zs with
     | nil=>
       have d:decide ((pre.length:Int)≥((pre2++([]:List Int)).length:Int))=true:=decide_eq_true (by simp [hp])
       simp only [d,aL,lex]
     | cons z zs=>
       have d:decide ((pre.length:Int)≥((pre2++z::zs).length:Int))=false:=decide_eq_false (by simp [hp]; omega)
       have i2:(0≤(pre.length:Int)∧(pre.length:Int) < ((pre2++z::zs).length:Int))=True:=by rw [hp]; exact dG _ _ _
       have a2:(pre2++z::zs).getD (fG (pre.length:Int)) (0:Int)=z:=by rw [hp]; exact c9 _ _ _ _
       simp only [d,aB,i2,if_true,a2,v46,aq,lex]
       cases h:il y z != 0 with
       | true=>simp only [aL]
       | false=>
         simp only [aB]
         rw [bC pre ys y,bC pre2 zs z]
         exact ih (pre++[y]) zs (pre2++[z]) m (by simpa using hm) (by rw [←bC]; exact hb) (by simp [hp]) (fun _ _ _=>trivial) (fun A B hA hB=>h1 A B (by rw [hA,←bC]) (by rw [hB,←bC])) (fun A B hA hB=>h2 A B (by rw [hA,←bC]) (by rw [hB,←bC]))
theorem v47 (a b:List Int) (h:a.length < 2000):ib 2000 a b=some (lex a b):=by
 unfold ib
 simp only [xi,xj,xk,xl,xm,xn,sB]
 have:=aec (R:=Int) some (fun x0 x1=>ad (decide ((x0.length:Int) < (x1.length:Int))) (some (-1)) (some 0)) a [] b [] 2000 h (by unfold bG; simp; omega) rfl (fun _ _ _=>trivial)
  (fun A B _ _ hl=>by rw [decide_eq_true (show (A.length:Int) < (B.length:Int) by omega)]; rfl) (fun A B _ _ hl=>by rw [decide_eq_false (show ¬ (A.length:Int) < (B.length:Int) by omega)]; rfl)
 simp only [dd,dI] at this
 exact this
def nv (o:aM) (a b:List Int):Int:=ad (il (eU o a) (eU o b) != 0) (il (eU o a) (eU o b)) (lex a b)
theorem v45 (a b:Int):ia 2000 [a,b]=some (ad (a != 0) a b):=by
 unfold ia
 simp only [sz,su,sv,sw,sx,sA,pS]
 show mT _ _ (1999+1) (0:Int) [a,b] (2:Int) (0:Int)=_
 unfold mT
 have d0:decide ((0:Int) < 2)=true:=rfl
 have c0:(0≤(0:Int)∧(0:Int) < (([a,b]:List Int).length:Int))=True:=by rw [eq_iff_iff,iff_true]; exact ⟨by omega,by simp⟩
 have e0:([a,b]:List Int).getD (0:Int).toNat 0=a:=rfl
 simp only [sz,su,sv,sw,sx,sA,pS,d0,aL,c0,if_true,e0]
 cases h:a != 0 with
 | true=>rfl
 | false=>
   simp only [aB]
   show mT _ _ (1998+1) (0:Int) [a,b] (2:Int) (IntKind.i64.wrap (0+1))=_
   unfold mT
   have w1:IntKind.i64.wrap (0+1)=1:=rfl
   have d1:decide ((1:Int) < 2)=true:=rfl
   have c1:(0≤(1:Int)∧(1:Int) < (([a,b]:List Int).length:Int))=True:=by rw [eq_iff_iff,iff_true]; exact ⟨by omega,by simp⟩
   have e1:([a,b]:List Int).getD (1:Int).toNat 0=b:=rfl
   simp only [sz,su,sv,sw,sx,sA,pS,w1,d1,aL,c1,if_true,e1]
   cases h2:b != 0 with
   | true=>rfl
   | false=>
     have hb:b=0:=by simpa using h2
     simp only [aB]
     show mT _ _ (1997+1) (0:Int) [a,b] (2:Int) (IntKind.i64.wrap (1+1))=_
     unfold mT
     have w2:IntKind.i64.wrap (1+1)=2:=rfl
     have d2:decide ((2:Int) < 2)=false:=rfl
     simp only [sz,su,sv,sw,sx,sA,pS,w2,d2,aB,hb]
theorem v44 (o:aM) (ho:oE o=0) (a b:List Int) (ha:a.all (dw o)=true∧a.length≤1000) (hb:b.all (dw o)=true∧b.length≤1000):gu 2000 a b o=some (nv o a b):=by
 unfold gu nv
 simp only [JT,CC,Lx o a ho ha.1 ha.2,Lx o b ho hb.1 hb.2,v46,v47 a b (by omega),v45,aq]
theorem rq (a b:Int):(il a b= -1∧a < b)∨(il a b=0∧a=b)∨(il a b=1∧b < a):=by
 rcases LI a b with h | h | h
 ·exact .inl ⟨HM h,h⟩
 ·subst h; exact .inr (.inl ⟨Q0 a,rfl⟩)
 ·exact .inr (.inr ⟨Q1 h,h⟩)
theorem UL:∀ a:List Int,lex a a=0
 | []=>rfl
 | x::xs=>by unfold lex; rw [Q0]; exact UL xs
theorem UM:∀ {a b:List Int},lex a b=0→a=b
 | [],[],_=>rfl
 | [],_::_,h=>by simp [lex] at h
 | _::_,[],h=>by simp [lex] at h
 | x::xs,y::ys,h=>by
   unfold lex at h
   rcases rq x y with ⟨h1,_⟩ | ⟨h1,h2⟩ | ⟨h1,_⟩
   ·rw [h1] at h; cases h
   ·rw [h1] at h; subst h2; rw [UM h]
   ·rw [h1] at h; cases h
theorem UK:∀ {a b:List Int},lex a b < 0↔lex b a > 0
 | [],[]=>by simp [lex]
 | [],_::_=>by simp [lex]
 | _::_,[]=>by simp [lex]
 | x::xs,y::ys=>by
   unfold lex
   rcases rq x y with ⟨h1,h2⟩ | ⟨h1,h2⟩ | ⟨h1,h2⟩
   ·rw [h1,Q1 h2,rl,rn]; decide
   ·subst h2; rw [h1]; exact UK (a:=xs) (b:=ys)
   ·rw [h1,HM h2,rn,rl]; decide
theorem lex_trans:∀ {a b c:List Int},lex a b < 0→lex b c < 0→lex a c < 0
 | [],[],c,h,_=>by simp [lex] at h
 | [],_::_,[],_,h=>by simp [lex] at h
 | [],_::_,_::_,_,_=>by simp [lex]
 | _::_,[],c,h,_=>by simp [lex] at h
 | _::_,_::_,[],_,h=>by simp [lex] at h
 | x::xs,y::ys,z::zs,h1,h2=>by
   unfold lex at h1 h2 ⊢
   rcases rq x y with ⟨a1,a2⟩ | ⟨a1,a2⟩ | ⟨a1,a2⟩
   ·rcases rq y z with ⟨b1,b2⟩ | ⟨b1,b2⟩ | ⟨b1,b2⟩
    ·rw [HM (show x < z by omega),rl]; decide
    ·subst b2; rw [a1,rl]; decide
    ·rw [b1] at h2; exact absurd h2 (by rw [rn]; decide)
   ·subst a2
    rw [a1] at h1
    rcases rq x z with ⟨b1,b2⟩ | ⟨b1,b2⟩ | ⟨b1,b2⟩
    ·rw [b1,rl]; decide
    ·rw [b1] at h2 ⊢; exact lex_trans (a:=xs) (b:=ys) h1 h2
    ·rw [b1] at h2; exact absurd h2 (by rw [rn]; decide)
   ·rw [a1] at h1; exact absurd h1 (by rw [rn]; decide)
def iv (o:aM) (a b:List Int):Prop:=eU o a < eU o b∨(eU o a=eU o b∧lex a b < 0)
theorem QZ {o:aM} {a b:List Int}:nv o a b < 0↔iv o a b:=by
 unfold nv iv
 rcases rq (eU o a) (eU o b) with ⟨h1,h2⟩ | ⟨h1,h2⟩ | ⟨h1,h2⟩
 ·rw [h1]; exact ⟨fun _=>.inl h2,fun _=>by rw [rl]; decide⟩
 ·rw [h1]; exact ⟨fun h=>.inr ⟨h2,h⟩,fun h=>by rcases h with h | h; omega; exact h.2⟩
 ·rw [h1]; exact ⟨fun h=>absurd h (by rw [rn]; decide),fun h=>by rcases h with h | h<;>omega⟩
theorem Vb (o:aM) (a:List Int):¬ iv o a a:=by
 rintro (h | ⟨_,h⟩)
 ·omega
 ·rw [UL] at h; omega
theorem Vc {o:aM} {a b c:List Int} (h1:iv o a b) (h2:iv o b c):iv o a c:=by
 rcases h1 with h1 | ⟨h1,h3⟩<;>rcases h2 with h2 | ⟨h2,h4⟩
 ·exact .inl (by omega)
 ·exact .inl (by omega)
 ·exact .inl (by omega)
 ·exact .inr ⟨by omega,lex_trans h3 h4⟩
theorem aeZ (o:aM) (a b:List Int):iv o a b∨a=b∨iv o b a:=by
 rcases LI (eU o a) (eU o b) with h | h | h
 ·exact .inl (.inl h)
 ·rcases LI (lex a b) 0 with h2 | h2 | h2
  ·exact .inl (.inr ⟨h,h2⟩)
  ·exact .inr (.inl (UM h2))
  ·exact .inr (.inr (.inr ⟨h.symm,UK.2 h2⟩))
 ·exact .inr (.inr (.inl h))
theorem Va {o:aM} {a b:List Int} (h:iv o a b):¬ iv o b a:=fun h2=>Vb o a (Vc h h2)
section
variable {o:aM} {g:List Int×(List Int×Unit)→Option Int}
def qQ (o:aM) (g:List Int×(List Int×Unit)→Option Int) (l:List (List Int)):Prop:=∀ a∈l,∀ b∈l,g (a,(b,()))=some (nv o a b)
theorem K6 {a b:List Int} (h:g (a,(b,()))=some (nv o a b)):qv g a b=true↔iv o a b:=by
 unfold qv; rw [h]; simp only [decide_eq_true_iff]; exact QZ
theorem Tm {a b:List Int} (h:g (a,(b,()))=some (nv o a b)):qa g a b=true↔¬ iv o a b:=by
 unfold qa; rw [h]; simp only [dq,decide_eq_false_iff_not]; exact not_congr QZ
abbrev mC (o:aM) (l:List (List Int)):Prop:=l.Pairwise fun a b=>a=b∨iv o a b
theorem KF {x y:List Int} {l:List (List Int)}:y∈mS g x l↔y=x∨y∈l:=by
 rw [(KG (g:=g) x l).mem_iff,cL]
theorem TL (x:List Int):∀ l:List (List Int),qQ o g (x::l)→mC o l→mC o (mS g x l)
 | [],_,_=>List.pairwise_singleton _ _
 | y::r,hg,hs=>by
   have hs':=zp.1 hs
   unfold mS
   cases h:qv g y x with
   | true=>
     have hlt:=(K6 (hg y (by simp) x (by simp))).1 h
     refine zp.2 ⟨fun z hz=>?_,TL x r (fun a ha b hb=>hg a (by rcases cL.1 ha with h | h; simp [h]; simp [h]) b (by rcases cL.1 hb with h | h; simp [h]; simp [h])) hs'.2⟩
     rcases KF.1 hz with h | h
     ·rw [h]; exact .inr hlt
     ·exact hs'.1 z h
   | false=>
     have hge:¬ iv o y x:=fun h2=>by rw [(K6 (hg y (by simp) x (by simp))).2 h2] at h; cases h
     have hxy:x=y∨iv o x y:=by
      rcases aeZ o x y with h | h | h
      ·exact .inr h
      ·exact .inl h
      ·exact absurd h hge
     refine zp.2 ⟨fun z hz=>?_,hs⟩
     rcases cL.1 hz with h | h
     ·rw [h]; exact hxy
     ·rcases hs'.1 z h with h2 | h2
      ·rw [←h2]; exact hxy
      ·rcases hxy with h3 | h3
       ·rw [h3]; exact .inr h2
       ·exact .inr (Vc h3 h2)
theorem Wg (xs:List (List Int)) (hg:qQ o g xs):mC o (iZ g xs):=by
 unfold iZ
 have key:∀ (ys l:List (List Int)),qQ o g (ys++l)→mC o l→mC o (ys.foldl (fun l x=>mS g x l) l):=by
  intro ys
  induction ys with
  | nil=>intro l _ h; exact h
  | cons y ys ih=>
    intro l hg h
    refine ih _ ?_ (TL y l (fun a ha b hb=>hg a (by rcases cL.1 ha with h | h<;>simp [h]) b (by rcases cL.1 hb with h | h<;>simp [h])) h)
    intro a ha b hb
    refine hg a ?_ b ?_
    ·rcases dx.1 ha with h | h
     ·simp [h]
     ·rcases KF.1 h with h | h<;>simp [h]
    ·rcases dx.1 hb with h | h
     ·simp [h]
     ·rcases KF.1 h with h | h<;>simp [h]
 exact key xs [] (by simpa using hg) List.Pairwise.nil
theorem Wh:∀ (l:List (List Int)),qQ o g l→mC o l→mV g l=true
 | [],_,_=>rfl
 | x::r,hg,hs=>by
   have hs':=zp.1 hs
   unfold mV
   simp only [au,fq,na,decide_eq_true_eq]
   refine ⟨⟨(Tm (hg x (by simp) x (by simp))).2 (Vb o x),fun y hy=>?_⟩,Wh r (fun a ha b hb=>hg a (by simp [ha]) b (by simp [hb])) hs'.2⟩
   rcases hs'.1 y hy with h | h
   ·exact .inl h
   ·exact .inr ⟨(K6 (hg x (by simp) y (by simp [hy]))).2 h,(Tm (hg y (by simp [hy]) x (by simp))).2 (Va h)⟩
end
theorem akD {o:aM} {l m:List (List Int)} (hp:l.Perm m) (hl:mC o l) (hm:mC o m):l=m:=by
 refine List.Perm.eq_of_pairwise (le:=fun a b=>a=b∨iv o a b) ?_ hl hm hp
 rintro a b _ _ (h | h) (h2 | h2)
 ·exact h
 ·exact h
 ·exact h2.symm
 ·exact absurd h2 (Va h)
theorem WK {o:aM} {w:List UInt8} (ho:oE o=0):∀ (f:Nat) (n:Nd),Ok o w n→∀ l∈wy o w f n,l.all (dw o)=true
 | 0,_,_,l,h=>absurd h (by simp [wy])
 | f+1,n,hn,l,h=>by
   unfold wy at h
   cases he:n.2.2.1==(w.length:Int) with
   | true=>
     rw [he,cond_true] at h
     cases hf:decide (n.2.1≥0)&&iu o n.2.1 (eQ o n.1) [] with
     | true=>rw [hf,cond_true] at h; rw [iI.1 h]; rfl
     | false=>rw [hf,cond_false] at h; cases h
   | false=>
     rw [he,cond_false] at h
     obtain ⟨m,hm,h2⟩:=DG.1 h
     obtain ⟨l',hl',rfl⟩:=dc.1 h2
     have h3:=mW ho hn hm
     have h4:=WK ho f m h3.1 l' hl'
     rw [dN,h4,gR]
     exact iU.2 ⟨h3.2.2,h3.1.s⟩
def fY:Nd:=(-1,(-1,(0,())))
theorem yR (o:aM) (w:List UInt8):Ok o w fY:=⟨by show (-1:Int) < _; omega,by show (-1:Int) < _; omega,by show (0:Int)≤0; omega,by show (0:Int)≤_; omega⟩
def W0 (o:aM) (w:List UInt8):List (List Int):=ways o w fY
theorem DS {o:aM} {w:List UInt8} (h:eV o w=0) {l:List Int} (hl:l∈W0 o w):l.all (dw o)=true∧l.length≤16:=by
 obtain ⟨ho,h0,h1⟩:=sU h
 refine ⟨WK ho _ _ (yR o w) l hl,?_⟩
 have:=LB ho _ _ (yR o w) l hl
 have h2:rm w fY≤w.length:=by unfold rm fY; simp
 omega
def dS (o:aM) (l:List (List Int)):List (List Int):=iZ (fun p=>some (nv o p.1 p.2.1)) l
theorem Ip (o:aM) (l:List (List Int)):(dS o l).Perm l:=yQ l
theorem Q5 (o:aM) (l:List (List Int)):mC o (dS o l):=Wg l fun _ _ _ _=>rfl
def gk (o:aM) (w:List UInt8):List (List Int)×Int:=cond (eV o w != 0) ([],eV o w) (cond ((W0 o w).length==0) ([],9) (cond (decide (200 < (W0 o w).length)) ([],3) (dS o (W0 o w),0)))
theorem Wz (o:aM) (w:List UInt8):cG 2000 o w=some (gk o w):=by
 unfold cG gk
 simp only [JO,g16,v40,aq]
 cases hg:eV o w != 0 with
 | true=>rfl
 | false=>
   have hg0:eV o w=0:=by simpa using hg
   obtain ⟨ho,hw0,hw1⟩:=sU hg0
   obtain ⟨mp,hI,h1⟩:=WE ho (by omega) fY [] (yR o w) (fun p hp=>absurd hp (by simp))
   have h1':aW 2000 (o,w,[],()) ((-1:Int),(-1:Int),(0:Int),())=some ((o,(w,(mp,()))),cn o w fY):=h1
   have hc:cn o w fY=((min 201 (W0 o w).length:Nat):Int):=rfl
   simp only [aB,cond_false,h1',aq]
   cases hz:(W0 o w).length==0 with
   | true=>
     have hz':(W0 o w).length=0:=by simpa using hz
     have:(cn o w fY==0)=true:=by rw [hc,hz']; rfl
     rw [this]; rfl
   | false=>
     have hz':(W0 o w).length≠0:=by simpa using hz
     have e1:(cn o w fY==0)=false:=beq_eq_false_iff_ne.2 (by rw [hc]; omega)
     rw [e1]
     simp only [aB,cond_false]
     by_cases h200:200 < (W0 o w).length
     ·have e2:decide (cn o w fY > 200)=true:=decide_eq_true (by rw [hc]; omega)
      rw [e2,decide_eq_true h200]; rfl
     ·have e2:decide (cn o w fY > 200)=false:=decide_eq_false (by rw [hc]; omega)
      rw [e2,decide_eq_false h200]
      simp only [aB,cond_false]
      obtain ⟨mp2,_,h2⟩:=adH ho (show w.length≤100 by omega) 250 fY mp (yR o w) (by unfold rm fY; simp; omega) hI (show (ways o w fY).length≤200 from by have:(W0 o w).length=(ways o w fY).length:=rfl; omega)
      have hal:al o w fY=W0 o w:=L4 (fun e=>hz' (by unfold W0; rw [e]; rfl))
      rw [hal] at h2
      have h2':bP 2000 (o,(w,(mp,()))) ((-1:Int),(-1:Int),(0:Int),())=some ((o,(w,(mp2,()))),W0 o w):=h2
      simp only [h2',aq]
      have hG:qQ o (fun (x0:List Int×(List Int×Unit))=>((gu 2000 x0.1 x0.2.1 o).bind fun b=>some [.v (.int .i64) b]).bind (jQ (.int .i64))) (W0 o w):=by
       intro a ha b hb
       have h3:=DS hg0 ha
       have h4:=DS hg0 hb
       simp only [v44 o ho a b ⟨h3.1,by omega⟩ ⟨h4.1,by omega⟩,aq]
       rfl
      have hG2:∀ {g:List Int×(List Int×Unit)→Option Int},qQ o g (W0 o w)→tM g (W0 o w)=some (dS o (W0 o w)):=by
       intro g hG
       have hp:=yQ (g:=g) (W0 o w)
       have hs:=Wg (W0 o w) hG
       have hok:=Wh (iZ g (W0 o w)) (fun a ha b hb=>hG a (hp.mem_iff.1 ha) b (hp.mem_iff.1 hb)) hs
       unfold tM
       rw [if_pos ⟨fun e=>hz' (by rw [e]; rfl),by omega,hok⟩]
       rw [akD (hp.trans (Ip o _).symm) hs (Q5 o _)]
      have h5:eL 2000 (fun (x0:List Int×(List Int×Unit))=>((gu 2000 x0.1 x0.2.1 o).bind fun b=>some [.v (.int .i64) b]).bind (jQ (.int .i64))) (W0 o w)=some (dS o (W0 o w)):=by
       unfold eL
       exact hG2 hG
      rw [h5]
      rfl
theorem W8 {o:aM} {w:List UInt8} (h:(gk o w).2=0):eV o w=0∧W0 o w≠[]∧(W0 o w).length≤200∧(gk o w).1=dS o (W0 o w):=by
 unfold gk at h ⊢
 cases hg:eV o w != 0 with
 | true=>rw [hg,cond_true] at h; simp only at h; rw [h] at hg; cases hg
 | false=>
   rw [hg,cond_false] at h
   cases hz:(W0 o w).length==0 with
   | true=>rw [hz,cond_true] at h; cases h
   | false=>
     rw [hz,cond_false] at h
     by_cases h200:200 < (W0 o w).length
     ·rw [decide_eq_true h200,cond_true] at h; cases h
     ·rw [decide_eq_false h200]
      exact ⟨by simpa using hg,fun e=>by rw [e] at hz; (cases hz),by omega,rfl⟩
theorem Xt {o:aM} {w:List UInt8} (h:W0 o w≠[]):∃ a r,dS o (W0 o w)=a::r∧a∈W0 o w∧∀ l∈W0 o w,eU o a≤eU o l:=by
 cases hd:dS o (W0 o w) with
 | nil=>
   have:=(Ip o (W0 o w)).length_eq
   rw [hd] at this
   exact absurd (mz.1 this.symm) h
 | cons a r=>
   have hp:=Ip o (W0 o w)
   rw [hd] at hp
   have hs:=Q5 o (W0 o w)
   rw [hd] at hs
   refine ⟨a,r,rfl,hp.mem_iff.1 (by simp),fun l hl=>?_⟩
   rcases cL.1 (hp.mem_iff.2 hl) with h1 | h1
   ·rw [h1]; omega
   ·rcases (zp.1 hs).1 l h1 with h2 | h2 | h2
    ·rw [h2]; omega
    ·omega
    ·omega
def Mh (o:aM) (w:List UInt8):List Int×(Int×Int):=cond ((gk o w).2 != 0) ([],(0,(gk o w).2)) ((gk o w).1.getD 0 [],(eU o ((gk o w).1.getD 0 []),0))
theorem v13 (o:aM) (w:List UInt8):gF 2000 o w=some (Mh o w):=by
 unfold gF Mh
 simp only [JC,g13,Wz,aq]
 cases h:(gk o w).2 != 0 with
 | true=>rfl
 | false=>
   obtain ⟨hg,hne,h200,h1⟩:=W8 (show (gk o w).2=0 by simpa using h)
   obtain ⟨a,r,h2,h3,_⟩:=Xt hne
   have h4:=DS hg h3
   rw [h1,h2]
   have c:(0≤(0:Int)∧(0:Int) < ((a::r).length:Int))=True:=by rw [eq_iff_iff,iff_true]; simp only [dV]; omega
   have c2:((0:Int).toNat < (a::r).length)=True:=by rw [eq_iff_iff,iff_true]; simp
   have e:(a::r).getD ((0:Int).toNat) []=a:=rfl
   have e':(a::r).getD 0 []=a:=rfl
   simp only [aB,cond_false,c,c2,if_true,e,e',Lx o a (sU hg).1 h4.1 (by omega),aq]
theorem v18 (o:aM) (w:List UInt8):hQ 2000 o w=some (((gk o w).1.length:Int),(gk o w).2):=by
 unfold hQ
 simp only [JP,g18,Wz,aq]
def Tn (o:aM):List Int→List bU
 | []=> []
 | j::_=>(sg o j).2.1
def oC (o:aM):List bU→List Int→Bool
 | _,[]=>true
 | bf,i::r=>iu o i bf (Tn o r)&&oC o (sg o i).2.1 r
theorem Vn {o:aM} {w:List UInt8} {n:Nd}:∀ (ys pre:List bX) (j:Nat),o.2.1=pre++ys→j < ys.length→jz o w n (ys.getD j g0)=true→oe n ((pre.length+j:Nat):Int) (ys.getD j g0)∈dQ o w n ys (pre.length:Int)
 | [],_,_,_,h,_=>by simp at h
 | y::ys,pre,0,hl,h,hk=>by
   have hk':jz o w n y=true:=hk
   unfold dQ
   rw [hk',cond_true]
   exact List.mem_cons_self ..
 | y::ys,pre,j+1,hl,h,hk=>by
   have h1:=Vn ys (pre++[y]) j (by rw [hl,bC]) (by simpa using h) hk
   have hlen:((pre++[y]).length:Int)=(pre.length:Int)+1:=by simp
   have hlen2:(((pre++[y]).length+j:Nat):Int)=((pre.length+(j+1):Nat):Int):=by simp only [cq,iG]; omega
   rw [hlen,hlen2] at h1
   unfold dQ
   cases jz o w n y with
   | true=>rw [cond_true]; exact eR _ h1
   | false=>rw [cond_false]; exact h1
theorem afD {o:aM} {w:List UInt8} {n:Nd} {i:Int} (hi:dw o i=true) (hk:jz o w n (sg o i)=true):oe n i (sg o i)∈dQ o w n o.2.1 0:=by
 have h:=iU.1 hi
 have:=Vn (o:=o) (w:=w) (n:=n) o.2.1 [] i.toNat rfl (by omega) hk
 simp only [dI,kr] at this
 rw [show ((i.toNat:Nat):Int)=i by omega] at this
 exact this
theorem arO {o:aM} (ho:oE o=0) {l:List Int} (hi:l.all (dw o)=true) (h:fZ o l=[]):l=[]:=by
 cases l with
 | nil=>rfl
 | cons i r=>
   simp only [dN,au] at hi
   have h1:=(ju (ml ho (iU.1 hi.1))).2.2.1
   simp only [fZ,List.append_eq_nil_iff] at h
   exact absurd h.1 h1
def acc (o:aM) (w:List UInt8) (n:Nd) (l:List Int):Prop:=
 l.all (dw o)=true∧fZ o l=w.drop n.2.2.1.toNat∧(n.2.1 < 0∨iu o n.2.1 (eQ o n.1) (Tn o l)=true)∧oC o (eQ o n.2.1) l=true
theorem ass {o:aM} {w:List UInt8} (ho:oE o=0):∀ (k:Nat) (n:Nd),rm w n < k→Ok o w n→(n.2.1 < 0→n.2.2.1 < (w.length:Int))→∀ l,l∈ways o w n↔acc o w n l:=by
 intro k
 induction k with
 | zero=>intro n h; omega
 | succ k ih=>
   intro n hk hn hs l
   have he0:=hn.e0; have he1:=hn.e1
   cases he:n.2.2.1==(w.length:Int) with
   | true=>
     have he':n.2.2.1=(w.length:Int):=by simpa using he
     have hs0:¬ n.2.1 < 0:=fun h=>by have:=hs h; omega
     have hd:w.drop n.2.2.1.toNat=[]:=List.drop_eq_nil_of_le (by omega)
     rw [Ly he,decide_eq_true (show n.2.1≥0 by omega),fF]
     unfold acc
     rw [hd]
     constructor
     ·intro h
      cases hf:iu o n.2.1 (eQ o n.1) [] with
      | false=>rw [hf] at h; cases h
      | true=>
        rw [hf,cond_true] at h
        rw [iI.1 h]
        exact ⟨rfl,rfl,.inr hf,rfl⟩
     ·rintro ⟨h1,h2,h3,_⟩
      have:=arO ho h1 h2
      subst this
      rcases h3 with h3 | h3
      ·exact absurd h3 hs0
      ·have h3':iu o n.2.1 (eQ o n.1) []=true:=h3
       rw [h3',cond_true]; exact iI.2 rfl
   | false=>
     have he':n.2.2.1≠(w.length:Int):=by simpa using he
     rw [Dt ho hn he,DG]
     constructor
     ·rintro ⟨m,hm,h2⟩
      obtain ⟨l',hl',rfl⟩:=dc.1 h2
      have h3:=mW ho hn hm
      have h4:=K8 ho hn o.2.1 [] rfl hm
      obtain ⟨a1,a2,a3,a4⟩:=(ih m (by omega) h3.1 (fun h=>absurd h (by omega)) l').1 hl'
      have hix:dw o m.2.1=true:=iU.2 ⟨h3.2.2,h3.1.s⟩
      have hok:=h4.2.2.2.2.2.2
      unfold jz at hok
      simp only [au,na,decide_eq_true_eq] at hok
      obtain ⟨r,hr⟩:=yE.1 hok.1
      have hm0:¬ m.2.1 < 0:=by omega
      refine ⟨by rw [dN,hix,a1]; rfl,?_,hok.2,?_⟩
      ·simp only [fZ]
       rw [a2,hr]
       congr 1
       have:m.2.2.1.toNat=n.2.2.1.toNat+(sg o m.2.1).1.length:=by rw [h4.2.2.2.2.2.1]; omega
       rw [this,←tX,hr,Dz]
      ·unfold oC
       rw [au]
       refine ⟨?_,?_⟩
       ·rcases a3 with a3 | a3
        ·exact absurd a3 hm0
        ·rw [h4.1] at a3; exact a3
       ·have e:eQ o m.2.1=(sg o m.2.1).2.1:=by unfold eQ; rw [decide_eq_false hm0]; rfl
        rw [←e]; exact a4
     ·rintro ⟨h1,h2,h3,h4⟩
      cases l with
      | nil=>
        have:w.drop n.2.2.1.toNat=[]:=h2.symm
        have:=List.drop_eq_nil_iff.1 this
        omega
      | cons i r=>
        simp only [dN,au] at h1
        have hix:=iU.1 h1.1
        have hi0:¬ i < 0:=by omega
        have ht:(sg o i).1++fZ o r=w.drop n.2.2.1.toNat:=h2
        have hok:jz o w n (sg o i)=true:=by
         unfold jz
         rw [au,na,decide_eq_true_eq]
         exact ⟨yE.2 ⟨_,ht.symm⟩,h3⟩
        have hm:=afD h1.1 hok
        have h5:=mW ho hn hm
        refine ⟨oe n i (sg o i),hm,dc.2 ⟨r,?_,rfl⟩⟩
        unfold oC at h4
        rw [au] at h4
        have e:eQ o i=(sg o i).2.1:=by unfold eQ; rw [decide_eq_false hi0]; rfl
        refine (ih (oe n i (sg o i)) (by omega) h5.1 (fun h=>absurd h hi0) r).2 ⟨h1.2,?_,.inr h4.1,by show oC o (eQ o i) r=true; rw [e]; exact h4.2⟩
        show fZ o r=w.drop (n.2.2.1+((sg o i).1.length:Int)).toNat
        have:(n.2.2.1+((sg o i).1.length:Int)).toNat=n.2.2.1.toNat+(sg o i).1.length:=by omega
        rw [this,←tX,←ht,Dz]
theorem W2 {o:aM} {w:List UInt8} (ho:oE o=0) (hw:w≠[]) (l:List Int):l∈W0 o w↔l.all (dw o)=true∧fZ o l=w∧oC o [] l=true:=by
 have hpos:0 < w.length:=zn.2 hw
 rw [show (l∈W0 o w)=(l∈ways o w fY) from rfl,ass ho _ fY (Nat.lt_succ_self _) (yR o w) (fun _=>by show (0:Int) < _; omega)]
 unfold acc
 have e1:w.drop fY.2.2.1.toNat=w:=rfl
 have e2:eQ o fY.2.1=[]:=rfl
 rw [e1,e2]
 exact ⟨fun h=>⟨h.1,h.2.1,h.2.2.2⟩,fun h=>⟨h.1,h.2.1,.inl (by show (-1:Int) < 0; decide),h.2.2⟩⟩
def CV (o:aM) (l:List Int):List bU:=match l.getLast? with | none=> [] | some j=>(sg o j).2.1
theorem adG (o:aM) (l:List Int) (j:Int):CV o (l++[j])=(sg o j).2.1:=by unfold CV; simp
theorem as1 {o:aM} (ho:oE o=0) {l:List Int} (hi:l.all (dw o)=true):(CV o l).length≤2:=by
 rcases LN l with h | ⟨l',s,h⟩
 ·subst h; simp [CV]
 ·rw [LL] at h
  subst h
  rw [adG]
  simp only [List.all_append,dN,my,gR,au] at hi
  exact (ju (ml ho (iU.1 hi.2))).1
def asK (o:aM) (w:List UInt8) (l:List Int):Int×Int:=cond (eV o w != 0) (0,eV o w) (cond (!l.all (dw o)) (0,6) (cond (fZ o l != w) (0,1) (cond (oC o [] l) (eU o l,0) (0,19))))
def tx:List UInt8×(List (List UInt8×(List (Int×(Int×(List UInt8×Unit)))×(Int×(Int×Unit))))×Unit):=([108,97,116,105,110],([([97],([(1,(3,([97],())))],(1,(0,())))),([101],([(1,(3,([101],())))],(1,(0,())))),([105],([(1,(3,([105],())))],(1,(0,())))),([111],([(1,(3,([111],())))],(1,(0,())))),([117],([(1,(3,([117],())))],(1,(0,())))),([121],([(1,(3,([121],())))],(1,(0,())))),([97,95],([(1,(2,([97,95],())))],(1,(0,())))),([101,95],([(1,(2,([101,95],())))],(1,(0,())))),([105,95],([(1,(2,([105,95],())))],(1,(0,())))),([111,95],([(1,(2,([111,95],())))],(1,(0,())))),([117,95],([(1,(2,([117,95],())))],(1,(0,())))),([121,95],([(1,(2,([121,95],())))],(1,(0,())))),([97,94],([(1,(1,([97,94],())))],(1,(0,())))),([101,94],([(1,(1,([101,94],())))],(1,(0,())))),([105,94],([(1,(1,([105,94],())))],(1,(0,())))),([111,94],([(1,(1,([111,94],())))],(1,(0,())))),([117,94],([(1,(1,([117,94],())))],(1,(0,())))),([121,94],([(1,(1,([121,94],())))],(1,(0,())))),([97,101],([(2,(2,([97,101],())))],(1,(0,())))),([97,117],([(2,(2,([97,117],())))],(1,(0,())))),([111,101],([(2,(2,([111,101],())))],(1,(0,())))),([101,117],([(2,(2,([101,117],())))],(3,(0,())))),([105],([(8,(0,([105],())))],(0,(2,())))),([105],([(8,(0,([105],()))),(8,(0,([105],())))],(0,(3,())))),([117],([(8,(0,([117],())))],(0,(2,())))),([117],([(8,(0,([117],())))],(0,(3,())))),([106],([(8,(0,([106],())))],(0,(0,())))),([118],([(8,(0,([118],())))],(0,(0,())))),([113,117],([(3,(0,([113,117],())))],(0,(1,())))),([103,117],([(3,(0,([103,117],())))],(2,(1,())))),([115,117],([(6,(0,([115],()))),(8,(0,([117],())))],(3,(1,())))),([98],([(3,(0,([98],())))],(0,(0,())))),([99],([(3,(0,([99],())))],(0,(0,())))),([100],([(3,(0,([100],())))],(0,(0,())))),([102],([(3,(0,([102],())))],(0,(0,())))),([103],([(3,(0,([103],())))],(0,(0,())))),([107],([(3,(0,([107],())))],(0,(0,())))),([112],([(3,(0,([112],())))],(0,(0,())))),([116],([(3,(0,([116],())))],(0,(0,())))),([108],([(4,(0,([108],())))],(0,(0,())))),([114],([(4,(0,([114],())))],(0,(0,())))),([109],([(5,(0,([109],())))],(0,(0,())))),([110],([(5,(0,([110],())))],(0,(0,())))),([115],([(6,(0,([115],())))],(0,(0,())))),([120],([(7,(0,([120],())))],(0,(0,())))),([122],([(7,(0,([122],())))],(0,(0,())))),([104],([(9,(0,([104],())))],(0,(0,()))))],()))
theorem adK:hZ 2000=some tx:=by kernel_rfl
theorem W3:cG 2000 tx [97,114,109,97]=some ([[0,40,41,0]],0):=by kernel_rfl
theorem W4:cG 2000 tx [116,114,111,105,97,101]=some ([[38,40,3,23,18],[38,40,3,2,18],[38,40,3,23,0,1],[38,40,3,2,0,1]],0):=by kernel_rfl
theorem W5:gF 2000 tx [105,97,109]=some ([22,0,41],1,0):=by kernel_rfl
theorem W6:gH 2000 tx [38,40,3,23,18]=some ([0,1,2,3,3,4],0):=by kernel_rfl
theorem W7:ee 2000 tx [97,114,109,113]=some (3,0):=by kernel_rfl
theorem v11:gh 2000=some true:=by
 unfold gh
 simp only [Jp,g11,adK,aq]
 rw [W3,W4,W5,W6,W7]
 kernel_rfl
def gD (w:List UInt8) (a:Nat) (b:List Bool) (s:bX):List Bool:=cond (pf (w.drop a) s.1) (b.set (a+s.1.length) true) b
def kK (o:aM) (w:List UInt8):Nat→Nat→List Bool→Nat→Nat
 | 0,_,_,best=>best
 | n+1,a,b,best=>cond (b.getD a false) (kK o w n (a+1) (o.2.1.foldl (gD w a) b) a) (kK o w n (a+1) b best)
def Lk (o:aM) (w:List UInt8):Nat:=kK o w (w.length+1) 0 ((fc (w.length+1) false).set 0 true) 0
def n7 (o:aM) (w:List UInt8):Int×Int:=cond (eV o w != 0) (0,eV o w) ((Lk o w:Int),0)
theorem Lq (w:List UInt8) (a:Nat) (b:List Bool) (s:bX):(gD w a b s).length=b.length:=by
 unfold gD; cases pf (w.drop a) s.1<;>simp
theorem yS (w:List UInt8) (a:Nat):∀ (l:List bX) (b:List Bool),(l.foldl (gD w a) b).length=b.length
 | [],_=>rfl
 | s::l,b=>(yS w a l _).trans (Lq w a b s)
theorem Da {w t:List UInt8} {a:Nat} (ha:a≤w.length) (h:pf (w.drop a) t=true):a+t.length≤w.length:=by
 obtain ⟨r,hr⟩:=yE.1 h
 have:=congrArg jV hr
 simp only [kQ,cq] at this
 omega
theorem aep {R:Type} (k0:List UInt8→aM→List Bool→Int→Int→Int→Int→List bX→Int→Int→Option R) (o:aM) (w:List UInt8) (hw:w.length≤100) (a:Nat) (ha:a≤w.length) (be e f:Int):
  ∀ (ys pre:List bX) (m:Nat) (b:List Bool),ys.length < m→(pre++ys).length≤120→(∀ s∈ys,s.1.length≤4)→b.length=w.length+1→
    ta (aS 2000) k0 m w o b be (a:Int) e f (pre++ys) ((pre++ys).length:Int) (pre.length:Int)=k0 w o (ys.foldl (gD w a) b) be (a:Int) e f (pre++ys) ((pre++ys).length:Int) ((pre++ys).length:Int):=by
 intro ys
 induction ys with
 | nil=>
   intro pre m b hm hb hy hl
   cases m with
   | zero=>omega
   | succ m=>
     unfold ta
     simp only [pc,o9,pk,pg,pa,pe,ph,pj,pn,po,pb,pd,g20,er,aB,List.foldl_nil]
     simp
 | cons y ys ih=>
   intro pre m b hm hb hy hl
   cases m with
   | zero=>omega
   | succ m=>
     have hwr:=ew pre ys y (by unfold bG; omega)
     have hy4:=hy y (by simp)
     have c:(0≤(a:Int)∧(a:Int)≤(w.length:Int)∧(w.length:Int)≤(w.length:Int))=True:=by rw [eq_iff_iff,iff_true]; omega
     have ht:(w.drop (a:Int).toNat).take ((w.length:Int).toNat - (a:Int).toNat)=w.drop a:=by
      rw [mw]; apply LU; rw [kQ]; omega
     have hwe:IntKind.i64.wrap ((a:Int)+(y.1.length:Int))=((a+y.1.length:Nat):Int):=by rw [fm (by omega)]; omega
     have hgo:=ih (pre++[y]) m (gD w a b y) (by simpa using hm) (by rw [←bC]; exact hb) (fun s hs=>hy s (eR _ hs)) ((Lq ..).trans hl)
     rw [←bC] at hgo
     unfold ta
     simp only [pc,o9,pk,pg,pa,pe,ph,pj,pn,po,pb,pd,g20,ei,dG,c9,if_true,aL,hwr,c,ht,v54,aq,hwe,tY]
     cases h1:pf (w.drop a) y.1 with
     | false=>
       have e:gD w a b y=b:=by unfold gD; rw [h1]; rfl
       rw [e] at hgo ⊢
       simp only [aB]; exact hgo
     | true=>
       have e:gD w a b y=b.set (a+y.1.length) true:=by unfold gD; rw [h1]; rfl
       have hp:=Da ha h1
       have c2:(0≤((a+y.1.length:Nat):Int)∧((a+y.1.length:Nat):Int) < (b.length:Int))=True:=by rw [eq_iff_iff,iff_true]; omega
       have c3:(a+y.1.length < b.length)=True:=by rw [eq_iff_iff,iff_true]; omega
       rw [e] at hgo ⊢
       simp only [aL,c2,c3,if_true,mw]; exact hgo
theorem aer {R:Type} (K:Int→Option R) (o:aM) (ho:oE o=0) (w:List UInt8) (hw:w.length≤100):
  ∀ (n a m:Nat) (b:List Bool) (be:Nat),a+n=w.length+1→n < m→b.length=w.length+1→
    qi 2000 (aS 2000) (fun _ _ _ y _ _=>K y) m w o b (be:Int) ((w.length+1:Nat):Int) (a:Int)=K (kK o w n a b be:Int):=by
 intro n
 induction n with
 | zero=>
   intro a m b be ha hm hl
   cases m with
   | zero=>omega
   | succ m=>
     have d:decide ((a:Int) < ((w.length+1:Nat):Int))=false:=decide_eq_false (by omega)
     unfold qi
     simp only [pc,o9,pk,pg,pa,pe,ph,pj,pn,po,pb,pd,g20,d,aB,kK]
 | succ n ih=>
   intro a m b be ha hm hl
   cases m with
   | zero=>omega
   | succ m=>
     have d:decide ((a:Int) < ((w.length+1:Nat):Int))=true:=decide_eq_true (by omega)
     have c1:(0≤(a:Int)∧(a:Int) < (b.length:Int))=True:=by rw [eq_iff_iff,iff_true]; omega
     have c2:(a < b.length)=True:=by rw [eq_iff_iff,iff_true]; omega
     have hwr:IntKind.i64.wrap ((a:Int)+1)=((a+1:Nat):Int):=by rw [fm (by omega)]; omega
     unfold qi
     simp only [pc,o9,pk,pg,pa,pe,ph,pj,pn,po,pb,pd,g20,d,aL,c1,c2,if_true,mw,kK]
     cases h1:b.getD a false with
     | false=>
       simp only [fo,aL,cond_false,hwr]
       exact ih (a+1) m b be (by omega) (by omega) hl
     | true=>
       simp only [eb,aB,cond_true]
       have h:=aep (R:=R) (fun y0 y1 y2 y3 y4 y5 y6 y7 y8 y9=>qi 2000 (aS 2000) (fun _ _ _ y _ _=>K y) m y0 y1 y2 y3 y5 (IntKind.i64.wrap (y6+(1:Int)))) o w hw a (by omega) (a:Int) ((w.length+1:Nat):Int) (a:Int) o.2.1 [] 2000 b (by have:=(ki ho).2.1; omega) (by have:=(ki ho).2.1; simpa using this) (fun s hs=>(ju ((ki ho).1 s hs)).2.2.2) hl
       simp only [dd,dI] at h
       refine dB h ?_
       simp only [hwr]
       exact ih (a+1) m _ a (by omega) (by omega) ((yS ..).trans hl)
theorem v20 (o:aM) (w:List UInt8):ee 2000 o w=some (n7 o w):=by
 unfold ee n7
 simp only [pc,o9,pk,pg,pa,pe,ph,pj,pn,po,pb,pd,g20,v40,aq]
 cases hg:eV o w != 0 with
 | true=>rfl
 | false=>
   obtain ⟨ho,hw0,hw1⟩:=sU (show eV o w=0 by simpa using hg)
   have hwr:IntKind.i64.wrap ((w.length:Int)+1)=((w.length+1:Nat):Int):=by rw [fm (by omega)]; omega
   have c1:(0≤((w.length+1:Nat):Int)∧((w.length+1:Nat):Int)≤((w.length+1:Nat):Int)∧((w.length+1:Nat):Int)≤((140737488355328:Nat):Int))=True:=by rw [eq_iff_iff,iff_true]; omega
   have c2:(0≤(0:Int)∧(0:Int) < ((w.length+1:Nat):Int))=True:=by rw [eq_iff_iff,iff_true]; omega
   have c3:(fG 0 < w.length+1)=True:=by rw [eq_iff_iff,iff_true]; show 0 < _; omega
   simp only [aB,cond_false,hwr,c1,c2,c3,if_true,mw,zo,kp]
   refine dB (aer (R:=Int×Int) (fun y=>some (y,0)) o ho w (by omega) (w.length+1) 0 2000 _ 0 (by omega) (by omega) (by simp)) ?_
   rfl
def gP (w:List UInt8) (a:Nat):List bX→Nat→List Int
 | [],_=> []
 | s::r,k=>cond (pf (w.drop a) s.1) ((k:Int)::gP w a r (k+1)) (gP w a r (k+1))
theorem Wj {w:List UInt8} {a:Nat} {i:Int}:∀ {ys:List bX} {k:Nat},i∈gP w a ys k→(k:Int)≤i∧i < (k:Int)+ys.length∧pf (w.drop a) (ys.getD (i.toNat - k) g0).1=true
 | [],_,h=>by cases h
 | s::r,k,h=>by
   have key:i∈gP w a r (k+1)→(k:Int)≤i∧i < (k:Int)+(s::r).length∧pf (w.drop a) ((s::r).getD (i.toNat - k) g0).1=true:=fun h=>by
    obtain ⟨h1,h2,h3⟩:=Wj h
    have e:i.toNat - k=(i.toNat - (k+1))+1:=by omega
    refine ⟨by omega,by simp only [dV]; omega,?_⟩
    rw [e,List.getD_cons_succ]; exact h3
   unfold gP at h
   cases hp:pf (w.drop a) s.1 with
   | false=>rw [hp] at h; exact key h
   | true=>
     rw [hp,cond_true] at h
     rcases cL.1 h with h | h
     ·subst h
      refine ⟨by omega,by simp only [dV]; omega,?_⟩
      rw [mw,Nat.sub_self]; exact hp
     ·exact key h
theorem akE {w:List UInt8} {a:Nat} (L:List bX):∀ (ys pre:List bX) (b:List Bool),L=pre++ys→(gP w a ys pre.length).foldl (fun b i=>b.set (a+(L.getD i.toNat g0).1.length) true) b=ys.foldl (gD w a) b:=by
 intro ys
 induction ys with
 | nil=>intro pre b h; rfl
 | cons y ys ih=>
   intro pre b h
   have hg:=fun b=>ih (pre++[y]) b (by rw [h]; exact bC ..)
   simp only [cq,dV,dI,kr] at hg
   simp only [gP,tY]
   cases hp:pf (w.drop a) y.1 with
   | false=>rw [cond_false,hg]; congr 1; unfold gD; rw [hp]; rfl
   | true=>
     rw [cond_true,tY,hg]
     have e:L.getD (fG (pre.length:Int)) g0=y:=by rw [h]; exact c9 _ _ _ _
     rw [e]; congr 1; unfold gD; rw [hp]; rfl
theorem ahf {w t:List UInt8} {a:Nat} (ha:a≤w.length):pf (w.drop a) t=(decide (((a+t.length:Nat):Int)≤(w.length:Int))&&((w.drop a).take t.length==t)):=by
 unfold pf
 congr 1
 rw [kQ]
 apply decide_eq_decide.2
 omega
theorem aev {R:Type} (K:List Int→Option R) (w:List UInt8) (a:Nat) (ha:a≤w.length) (hw:w.length≤100) (nm:List UInt8):
  ∀ (ys pre:List bX) (m:Nat) (A:List Int),ys.length < m→(pre++ys).length≤120→(∀ s∈ys,s.1.length≤4)→A.length≤pre.length→
    qm (fun _ _ _ y _=>K y) m w (a:Int) ((nm,(pre++ys,())):aM) A (pre.length:Int)=K (A++gP w a ys pre.length):=by
 intro ys
 induction ys with
 | nil=>
   intro pre m A hm hb hy hA
   cases m with
   | zero=>omega
   | succ m=>
     unfold qm
     simp only [xx,xp,xr,xu,xw,xy,sC,er,aB,gP,je A]
 | cons y ys ih=>
   intro pre m A hm hb hy hA
   cases m with
   | zero=>omega
   | succ m=>
     have hwr:=ew pre ys y (by unfold bG; omega)
     have hy4:=hy y (by simp)
     have hbp:pre.length < 120:=by simp at hb; omega
     have hwe:IntKind.i64.wrap ((a:Int)+(y.1.length:Int))=((a+y.1.length:Nat):Int):=by rw [fm (by omega)]; omega
     have hgo:∀ A:List Int,A.length≤pre.length+1→qm (fun _ _ _ y _=>K y) m w (a:Int) ((nm,(pre++y::ys,())):aM) A ((pre++[y]).length:Int)=K (A++gP w a ys (pre.length+1)):=by
      intro A h
      have:=ih (pre++[y]) m A (by simpa using hm) (by rw [←bC]; exact hb) (fun s hs=>hy s (eR _ hs)) (by simpa using h)
      rw [←bC] at this
      simpa using this
     have hsub:a+y.1.length - a=y.1.length:=by omega
     have hal:=ahf (t:=y.1) ha
     have hla:(A.length+[(pre.length:Int)].length≤17592186044416)=True:=by rw [eq_iff_iff,iff_true]; simp only [iG]; omega
     unfold qm
     simp only [xx,xp,xr,xu,xw,xy,sC,ei,dG,c9,if_true,aL,hwr,hwe,gP]
     cases h1:decide (((a+y.1.length:Nat):Int)≤(w.length:Int)) with
     | false=>
       rw [h1,jc] at hal
       simp only [aB,hal,cond_false]; exact hgo A (by omega)
     | true=>
       have e1:=of_decide_eq_true h1
       rw [h1,fF] at hal
       have c:(0≤(a:Int)∧(a:Int)≤((a+y.1.length:Nat):Int)∧((a+y.1.length:Nat):Int)≤(w.length:Int))=True:=by rw [eq_iff_iff,iff_true]; omega
       simp only [aL,c,if_true,hsub,mw,hal]
       cases h2:(w.drop a).take y.1.length==y.1 with
       | false=>simp only [aB,cond_false]; exact hgo A (by omega)
       | true=>
         simp only [aL,cond_true,hla,if_true]
         refine (hgo _ (by simp; omega)).trans ?_
         rw [bJ]; rfl
theorem v50 (o:aM) (ho:oE o=0) (w:List UInt8) (hw:w.length≤100) (a:Nat) (ha:a≤w.length):cw 2000 o w (a:Int)=some (gP w a o.2.1 0):=by
 unfold cw
 simp only [xx,xp,xr,xu,xw,xy,sC]
 have h120:=(ki ho).2.1
 have:=aev (R:=List Int) some w a ha hw o.1 o.2.1 [] 2000 [] (by omega) (by simpa using h120) (fun s hs=>(ju ((ki ho).1 s hs)).2.2.2) (by simp)
 simpa using this
theorem aeq {R:Type} (k0:List UInt8→aM→List Bool→Int→Int→List Int→Int→Option R) (o:aM) (ho:oE o=0) (w:List UInt8) (hw:w.length≤100) (a:Nat) (ha:a≤w.length) (be:Int):
  ∀ (ys pre:List Int) (m:Nat) (b:List Bool),ys.length < m→(pre++ys).length≤bG→(∀ i∈ys,dw o i=true∧pf (w.drop a) (sg o i).1=true)→b.length=w.length+1→
    tc k0 m w o b be (a:Int) (pre++ys) (pre.length:Int)=k0 w o (ys.foldl (fun b i=>b.set (a+(o.2.1.getD i.toNat g0).1.length) true) b) be (a:Int) (pre++ys) ((pre++ys).length:Int):=by
 intro ys
 induction ys with
 | nil=>
   intro pre m b hm hb hy hl
   cases m with
   | zero=>omega
   | succ m=>
     unfold tc
     simp only [pw,pq,pC,pz,pt,py,pA,pB,pD,pE,pv,px,g21,er,aB,List.foldl_nil]
     simp
 | cons y ys ih=>
   intro pre m b hm hb hy hl
   cases m with
   | zero=>omega
   | succ m=>
     have hwr:=ew pre ys y hb
     obtain ⟨hx,hp⟩:=hy y (by simp)
     have hx':=iU.1 hx
     have c:(0≤y∧y < (o.2.1.length:Int))=True:=by rw [eq_iff_iff,iff_true]; exact hx'
     have hp2:=Da ha hp
     have hwe:IntKind.i64.wrap ((a:Int)+((o.2.1.getD y.toNat g0).1.length:Int))=((a+(o.2.1.getD y.toNat g0).1.length:Nat):Int):=by
      unfold sg at hp2
      rw [fm (by omega)]; omega
     have hgo:=ih (pre++[y]) m (b.set (a+(o.2.1.getD y.toNat g0).1.length) true) (by simpa using hm) (by rw [←bC]; exact hb) (fun s hs=>hy s (eR _ hs)) (by simpa using hl)
     rw [←bC] at hgo
     unfold sg at hp2
     have c2:(0≤((a+(o.2.1.getD y.toNat g0).1.length:Nat):Int)∧((a+(o.2.1.getD y.toNat g0).1.length:Nat):Int) < (b.length:Int))=True:=by rw [eq_iff_iff,iff_true]; omega
     have c3:(a+(o.2.1.getD y.toNat g0).1.length < b.length)=True:=by rw [eq_iff_iff,iff_true]; omega
     have c4:(pre.length < (pre++y::ys).length)=True:=by simp
     have c5:(pre++y::ys).getD pre.length (0:Int)=y:=c9 pre ys y 0
     unfold tc
     simp only [pw,pq,pC,pz,pt,py,pA,pB,pD,pE,pv,px,g21,ei,dG,c9,if_true,aL,hwr,c4,c5,c,hwe,c2,c3,mw,tY]
     exact hgo
theorem Wi (w:List UInt8) (a:Nat):∀ (ys:List bX) (k:Nat),(gP w a ys k).length≤ys.length
 | [],_=>by simp [gP]
 | s::r,k=>by
   have:=Wi w a r (k+1)
   unfold gP
   cases pf (w.drop a) s.1 with
   | false=>rw [cond_false,dV]; omega
   | true=>rw [cond_true,dV,dV]; omega
theorem akF {o:aM} {w:List UInt8} {a:Nat} {i:Int} (h:i∈gP w a o.2.1 0):dw o i=true∧pf (w.drop a) (sg o i).1=true:=by
 obtain ⟨h1,h2,h3⟩:=Wj h
 exact ⟨iU.2 ⟨by omega,by omega⟩,by unfold sg; simpa using h3⟩
theorem aes {R:Type} (K:Int→Option R) (o:aM) (ho:oE o=0) (w:List UInt8) (hw:w.length≤100):
  ∀ (n a m:Nat) (b:List Bool) (be:Nat),a+n=w.length+1→n < m→b.length=w.length+1→
    qj 2000 (cw 2000) (fun _ _ _ y _=>K y) m w o b (be:Int) (a:Int)=K (kK o w n a b be:Int):=by
 intro n
 induction n with
 | zero=>
   intro a m b be ha hm hl
   cases m with
   | zero=>omega
   | succ m=>
     have d:decide ((a:Int)≤(w.length:Int))=false:=decide_eq_false (by omega)
     unfold qj
     simp only [pw,pq,pC,pz,pt,py,pA,pB,pD,pE,pv,px,g21,d,aB,kK]
 | succ n ih=>
   intro a m b be ha hm hl
   cases m with
   | zero=>omega
   | succ m=>
     have d:decide ((a:Int)≤(w.length:Int))=true:=decide_eq_true (by omega)
     have c1:(0≤(a:Int)∧(a:Int) < (b.length:Int))=True:=by rw [eq_iff_iff,iff_true]; omega
     have c2:(a < b.length)=True:=by rw [eq_iff_iff,iff_true]; omega
     have hwr:IntKind.i64.wrap ((a:Int)+1)=((a+1:Nat):Int):=by rw [fm (by omega)]; omega
     unfold qj
     simp only [pw,pq,pC,pz,pt,py,pA,pB,pD,pE,pv,px,g21,d,aL,c1,c2,if_true,mw,kK,v50 o ho w hw a (show a≤w.length by omega),aq]
     cases h1:b.getD a false with
     | false=>
       simp only [fo,aL,cond_false,hwr]
       exact ih (a+1) m b be (by omega) (by omega) hl
     | true=>
       simp only [eb,aB,cond_true]
       have h120:=(ki ho).2.1
       have hJ:=Wi w a o.2.1 0
       have h:=aeq (R:=R) (fun y0 y1 y2 y3 y4 y5 y6=>qj 2000 (cw 2000) (fun _ _ _ y _=>K y) m y0 y1 y2 y3 (IntKind.i64.wrap (y4+(1:Int)))) o ho w hw a (by omega) (a:Int) (gP w a o.2.1 0) [] 2000 b (by omega) (by unfold bG; simp only [dd]; omega) (fun i hi=>akF hi) hl
       simp only [dd,dI] at h
       have hf:=akE (w:=w) (a:=a) o.2.1 o.2.1 [] b rfl
       simp only [dI] at hf
       refine dB h ?_
       simp only [hwr,hf]
       exact ih (a+1) m _ a (by omega) (by omega) ((yS ..).trans hl)
theorem v21 (o:aM) (w:List UInt8):hR 2000 o w=some (n7 o w):=by
 unfold hR n7
 simp only [pw,pq,pC,pz,pt,py,pA,pB,pD,pE,pv,px,g21,v48,aq]
 cases hg:eV o w != 0 with
 | true=>rfl
 | false=>
   obtain ⟨ho,hw0,hw1⟩:=sU (show eV o w=0 by simpa using hg)
   have hwr:IntKind.i64.wrap ((w.length:Int)+1)=((w.length+1:Nat):Int):=by rw [fm (by omega)]; omega
   have c1:(0≤((w.length+1:Nat):Int)∧((w.length+1:Nat):Int)≤((w.length+1:Nat):Int)∧((w.length+1:Nat):Int)≤((140737488355328:Nat):Int))=True:=by rw [eq_iff_iff,iff_true]; omega
   have c2:(0≤(0:Int)∧(0:Int) < ((w.length+1:Nat):Int))=True:=by rw [eq_iff_iff,iff_true]; omega
   have c3:(fG 0 < w.length+1)=True:=by rw [eq_iff_iff,iff_true]; show 0 < _; omega
   simp only [aB,cond_false,hwr,c1,c2,c3,if_true,mw,zo,kp]
   refine dB (aes (R:=Int×Int) (fun y=>some (y,0)) o ho w (by omega) (w.length+1) 0 2000 _ 0 (by omega) (by omega) (by simp)) ?_
   rfl
theorem akv {b:List Bool} {p q:Nat} (h:b.getD p false=true):(b.set q true).getD p false=true:=by
 rw [qR] at h ⊢
 rw [List.getElem?_set]
 split
 ·split
  ·rfl
  ·subst_vars
   rename_i h2
   rw [List.getElem?_eq_none (by omega)] at h; cases h
 ·exact h
theorem VT {b:List Bool} {q:Nat} (h:q < b.length):(b.set q true).getD q false=true:=by
 rw [qR,List.getElem?_set_self h]; rfl
theorem alC {w:List UInt8} {a p:Nat} {b:List Bool} {s:bX} (h:b.getD p false=true):(gD w a b s).getD p false=true:=by
 unfold gD; cases pf (w.drop a) s.1 with
 | false=>exact h
 | true=>exact akv h
theorem Lr {w:List UInt8} {a p:Nat}:∀ {l:List bX} {b:List Bool},b.getD p false=true→(l.foldl (gD w a) b).getD p false=true
 | [],_,h=>h
 | s::l,b,h=>Lr (l:=l) (alC h)
theorem Wr {w:List UInt8} {a:Nat} (ha:a≤w.length) {s:bX} (hp:pf (w.drop a) s.1=true):∀ {l:List bX} {b:List Bool},b.length=w.length+1→s∈l→(l.foldl (gD w a) b).getD (a+s.1.length) false=true
 | [],_,_,h=>by cases h
 | t::l,b,hl,h=>by
   rw [tY]
   rcases cL.1 h with h | h
   ·subst h
    apply Lr
    unfold gD
    rw [hp,cond_true]
    have:=Da ha hp
    exact VT (by omega)
   ·exact Wr ha hp ((Lq ..).trans hl) h
theorem ahC {o:aM} (ho:oE o=0) {w:List UInt8}:∀ (n a p:Nat) (b:List Bool) (be:Nat) (l:List Int),a+n=w.length+1→b.length=w.length+1→a≤p→p≤w.length→b.getD p false=true→l.all (dw o)=true→w.drop p=fZ o l→kK o w n a b be=w.length:=by
 intro n
 induction n with
 | zero=>intro a p b be l h1 h2 h3 h4; omega
 | succ n ih=>
   intro a p b be l h1 h2 h3 h4 h5 h6 h7
   unfold kK
   cases hb:b.getD a false with
   | false=>
     have hne:a≠p:=fun e=>by subst e; rw [hb] at h5; cases h5
     exact ih (a+1) p b be l (by omega) h2 (by omega) h4 h5 h6 h7
   | true=>
     rw [cond_true]
     by_cases hap:a=p
     ·subst hap
      cases l with
      | nil=>
        have:w.length - a=0:=by have:=congrArg jV h7; simpa [fZ] using this
        have hn:n=0:=by omega
        subst hn
        show a=w.length
        omega
      | cons i r=>
        simp only [dN,au] at h6
        have hx:=iU.1 h6.1
        have hpf:pf (w.drop a) (sg o i).1=true:=yE.2 ⟨fZ o r,h7⟩
        have hm:sg o i∈o.2.1:=by
         unfold sg
         rw [qR,eX (by omega)]; exact LQ _
        have hp:=Da h4 hpf
        have hpos:=zn.2 (ju (ml ho hx)).2.2.1
        refine ih (a+1) (a+(sg o i).1.length) _ a r (by omega) ((yS ..).trans h2) (by omega) hp (Wr h4 hpf h2 hm) h6.2 ?_
        rw [←tX,h7]
        simp [fZ]
     ·exact ih (a+1) p _ a l (by omega) ((yS ..).trans h2) (by omega) h4 (Lr h5) h6 h7
theorem ahw {o:aM} {w:List UInt8} (hg:eV o w=0) (h:W0 o w≠[]):Lk o w=w.length:=by
 obtain ⟨ho,hw0,hw1⟩:=sU hg
 obtain ⟨l,hl⟩:=List.exists_mem_of_ne_nil _ h
 obtain ⟨h1,h2,_⟩:=(W2 ho hw0 l).1 hl
 exact ahC ho (w.length+1) 0 0 _ 0 l (by omega) (by simp) (by omega) (by omega) (VT (by simp)) h1 h2.symm
theorem afv (o:aM) (w:List UInt8):S5 2000 o w=some true:=by
 unfold S5
 obtain ⟨b,hb,hs⟩:=v12 o w []
 simp only [J0,g5,v11,hb,aq,eb,aB]
 cases b with
 | false=>simp only [fo,aL]
 | true=>
   simp only [eb,aB,v20,v21,v18,aq,bne_self_eq_false]
   cases hg:eV o w != 0 with
   | true=>
     have e:(n7 o w).2=eV o w:=by unfold n7; rw [hg]; rfl
     simp only [e,hg,aL]
     cases ((gk o w).2 != 0)<;>cases ((gk o w).2 != 3)<;>rfl
   | false=>
     have hg0:eV o w=0:=by simpa using hg
     have e:n7 o w=((Lk o w:Int),0):=by unfold n7; rw [hg]; rfl
     by_cases hW:W0 o w=[]
     ·have:(gk o w).2=9:=by unfold gk; rw [hg,hW]; rfl
      rw [this]; rfl
     ·rw [e,ahw hg0 hW]
      simp only [beq_self_eq_true]
      cases ((gk o w).2 != 0)<;>cases ((gk o w).2 != 3)<;>rfl
end Go.Fw.L19
