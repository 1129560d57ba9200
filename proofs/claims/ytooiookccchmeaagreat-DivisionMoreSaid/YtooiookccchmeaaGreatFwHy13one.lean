/- Own work. -/
import Derived.Test.YtooiookccchmeaaGreatFwMy13
import Derived.Test.YtooiookccchmeaaGreatFwB6
import Derived.Test.YtooiookccchmeaaGreatFwB7
set_option linter.unusedVariables false
set_option linter.unusedSimpArgs false
open Bool renaming not_true → eK, not_false → gn, and_eq_true → au, true_or → ua, false_or → ny, or_eq_true → nz, false_eq_true → eo, and_true → iG, eq_iff_iff → tZ, true_and → fV, false_and → jP, not_eq_true' → du, and_false → LI
open Eq renaming trans → dB
open Int renaming toNat → gL, lt_trichotomy → LK
open List renaming length_pos_iff → zG, all_eq_true → fj, mem_range → DQ, map_cons → fX, append_assoc → bO, length_append → cm, length_cons → fk, length_map → nD, length_nil → dC, nil_append → cO, any_nil → uh, any_cons → nB, length_eq_zero_iff → kK, length → kJ, all_cons → dJ, all_nil → nA, length_singleton → iJ, mem_append → dD, mem_singleton → gX, mem_cons_of_mem → fm, eq_nil_or_concat → LR, concat_eq_append → LO, all_eq_false → LN, mem_map → dd, mem_cons → cS, replicate → kd, append_nil → jf, length_replicate → LW, length_drop → nC, flatMap_cons → zF, mem_flatMap → DP, pairwise_cons → zH, drop_drop → zE, drop_left → DF
open List.cons renaming injEq → gC
open Nat renaming zero_add → jQ
open Option renaming bind_some → ar
open Prod.mk renaming injEq → eN
open UInt8 renaming ofNat → mS
namespace Go.Fw.L19
open Go Go.Fw
set_option maxRecDepth 100000
abbrev W9:Type:=Int×(Int×(List (List UInt8)×Unit))
abbrev Lic:Type:=List UInt8×(List W9×Unit)
def sm (c:Int):Bool:=decide (c≥97)&&decide (c≤122)
def dg (c:Int):Bool:=decide (c≥48)&&decide (c≤57)
theorem WW (c:Int):cJ 2000 c=some (sm c):=by
 unfold cJ sm
 simp only [JI,CC]
 cases decide (c≥97)<;>rfl
theorem Lu (c:Int):cH 2000 c=some (sm c):=by
 unfold cH sm
 simp only [Jy,Cs]
 cases decide (c≥97)<;>rfl
theorem ase (c:Int):dn 2000 c=some (dg c):=by
 unfold dn dg
 simp only [JJ,CD]
 cases decide (c≥48)<;>rfl
theorem WV (c:Int):bw 2000 c=some (dg c):=by
 unfold bw dg
 simp only [Jz,Ct]
 cases decide (c≥48)<;>rfl
theorem aeN (s:List UInt8) (hs:s.length≤bF) {R:Type} (k:Int→Option R):
  ∀ (m:Nat) (i:Int),0≤i→i≤s.length+1→yS (cJ 2000) (dn 2000) k (fun _ i=>k i) m s i=qt (cH 2000) (bw 2000) (fun _ i=>k i) m s i:=by
 intro m
 induction m with
 | zero=>intro i _ _; rfl
 | succ m ih=>
   intro i h0 h1
   unfold yS qt
   simp only [Cy,Cv,Cw,Cx,Cz,wk,vD,vA,vB,vC,vE,sj,WW,ase,Lu,WV,ar]
   by_cases hi:i < (s.length:Int)
   ·have d:decide (i < (s.length:Int))=true:=decide_eq_true hi
    have hb:0≤i∧i < (s.length:Int):=⟨h0,hi⟩
    have w1:IntKind.i64.wrap (i+1)=i+1:=fO (by unfold bF at hs; omega)
    have w2:IntKind.i64.wrap (i+2)=i+2:=fO (by unfold bF at hs; omega)
    simp only [d,aK,if_pos hb,w1,w2]
    generalize hc:((s.getD i.toNat 0).toNat:Int)=c
    cases h3:sm c with
    | true=>simp only [aK]; exact ih (i+1) (by omega) (by omega)
    | false=>
      simp only [aB]
      cases h4:dg c with
      | true=>simp only [aK]; exact ih (i+1) (by omega) (by omega)
      | false=>
        simp only [aB]
        by_cases h5:c=45
        ·have e1:(c==(45:Int))=true:=by simpa using h5
         have e2:(c != (45:Int))=false:=by simp [h5]
         simp only [e1,e2,aK,aB]
         by_cases h6:i+1 < (s.length:Int)
         ·have e3:decide (i+1 < (s.length:Int))=true:=decide_eq_true h6
          have e4:((i+1)==(s.length:Int))=false:=by
           simp only [beq_eq_false_iff_ne,ne_eq]; omega
          have hb2:0≤i+1∧i+1 < (s.length:Int):=by omega
          simp only [e3,e4,aK,aB,if_pos hb2]
          generalize ((s.getD (i+1).toNat 0).toNat:Int)=c2
          cases h7:sm c2 with
          | true=>simp only [aK,eK,aB]; exact ih (i+2) (by omega) (by omega)
          | false=>
            simp only [aB,gn,aK]
            cases h8:dg c2 with
            | true=>simp only [aK,eK,aB]; exact ih (i+2) (by omega) (by omega)
            | false=>simp only [aB,gn,aK]
         ·have e3:decide (i+1 < (s.length:Int))=false:=decide_eq_false h6
          have e4:((i+1)==(s.length:Int))=true:=by
           simp only [beq_iff_eq]; omega
          simp only [e3,e4,aK,aB]
        ·have e1:(c==(45:Int))=false:=by simpa using h5
         have e2:(c != (45:Int))=true:=by simpa using h5
         simp only [e1,e2,aK,aB]
   ·have d:decide (i < (s.length:Int))=false:=decide_eq_false hi
    simp only [d,aB]
theorem aeO (s:List UInt8) (hs:s.length≤bF):
  ∀ (m:Nat) (i:Int),0≤i→i≤s.length+1→(s.length:Int)+1 - i < m→∃ n,qt (cH 2000) (bw 2000) (fun _ i=>some i) m s i=some n:=by
 intro m
 induction m with
 | zero=>intro i h0 h1 h2; omega
 | succ m ih=>
   intro i h0 h1 h2
   unfold qt
   simp only [vD,vA,vB,vC,vE,sj,Lu,WV,ar]
   by_cases hi:i < (s.length:Int)
   ·have d:decide (i < (s.length:Int))=true:=decide_eq_true hi
    have hb:0≤i∧i < (s.length:Int):=⟨h0,hi⟩
    have w1:IntKind.i64.wrap (i+1)=i+1:=fO (by unfold bF at hs; omega)
    have w2:IntKind.i64.wrap (i+2)=i+2:=fO (by unfold bF at hs; omega)
    simp only [d,aK,if_pos hb,w1,w2]
    generalize hc:((s.getD i.toNat 0).toNat:Int)=c
    cases h3:sm c with
    | true=>simp only [aK]; exact ih (i+1) (by omega) (by omega) (by omega)
    | false=>
      simp only [aB]
      cases h4:dg c with
      | true=>simp only [aK]; exact ih (i+1) (by omega) (by omega) (by omega)
      | false=>
        simp only [aB]
        cases e2:(c != (45:Int)) with
        | true=>exact ⟨i,by simp only [aK]⟩
        | false=>
          simp only [aB]
          by_cases h6:i+1 < (s.length:Int)
          ·have e4:((i+1)==(s.length:Int))=false:=by
            simp only [beq_eq_false_iff_ne,ne_eq]; omega
           have hb2:0≤i+1∧i+1 < (s.length:Int):=by omega
           simp only [e4,aB,if_pos hb2]
           generalize ((s.getD (i+1).toNat 0).toNat:Int)=c2
           cases h7:sm c2 with
           | true=>simp only [eK,aB]; exact ih (i+2) (by omega) (by omega) (by omega)
           | false=>
             simp only [gn,aK]
             cases h8:dg c2 with
             | true=>simp only [eK,aB]; exact ih (i+2) (by omega) (by omega) (by omega)
             | false=>exact ⟨i,by simp only [gn,aK]⟩
          ·have e4:((i+1)==(s.length:Int))=true:=by
            simp only [beq_iff_eq]; omega
           exact ⟨i,by simp only [e4,aK]⟩
   ·have d:decide (i < (s.length:Int))=false:=decide_eq_false hi
    exact ⟨i,by simp only [d,aB]⟩
theorem v141 (s:List UInt8) (hs:s.length < 1900):∃ n,hP 2000 s=some n∧gY 2000 s=some n:=by
 have hb:s.length≤bF:=by unfold bF; omega
 have e1:=aeN s hb (R:=Int) some 2000 1 (by omega) (by omega)
 obtain ⟨n,e2⟩:=aeO s hb 2000 1 (by omega) (by omega) (by omega)
 unfold hP gY
 simp only [Cy,Cv,Cw,Cx,Cz,wk,vD,vA,vB,vC,vE,sj,WW,Lu,ar]
 cases h0:(s==([]:List UInt8)) with
 | true=>exact ⟨0,by simp only [aK],by simp only [aK]⟩
 | false=>
   have hne:s≠[]:=by simpa using h0
   have hp:0 < s.length:=zG.2 hne
   have hb0:(0:Int)≤0∧(0:Int) < (s.length:Int):=by omega
   simp only [aB,if_pos hb0]
   cases sm ((s.getD (0:Int).toNat 0).toNat:Int) with
   | false=>exact ⟨0,by simp only [gn,aK],by simp only [gn,aK]⟩
   | true=>
     refine ⟨n,?_,?_⟩
     ·simp only [eK,aB]
      rw [e2] at e1; exact e1
     ·simp only [eK,aB]
      exact e2
theorem ar7 (s:List UInt8):∃ b,fu 2000 s=some b∧fq 2000 s=some b:=by
 unfold fu fq
 simp only [Jt,Cp,Kb,CS]
 cases h0:(s != ([]:List UInt8)) with
 | false=>exact ⟨false,by simp only [aB],by simp only [aB]⟩
 | true=>
   simp only [aK]
   by_cases h1:(s.length:Int)≤20
   ·obtain ⟨n,e1,e2⟩:=v141 s (by omega)
    have d:decide ((s.length:Int)≤20)=true:=decide_eq_true h1
    exact ⟨n==(s.length:Int),by simp only [d,aK,e1,ar],by simp only [d,aK,e2,ar]⟩
   ·have d:decide ((s.length:Int)≤20)=false:=decide_eq_false h1
    exact ⟨false,by simp only [d,aB],by simp only [d,aB]⟩
def dA (c:Int):Bool:=match de 2000 c with | some b=>b | none=>false
theorem aex:((List.range 256).all fun n=>cj 2000 (n:Int)==some (dA (n:Int))&&de 2000 (n:Int)==some (dA (n:Int)))=true:=by kernel_rfl
theorem Lw (b:UInt8):cj 2000 (b.toNat:Int)=some (dA (b.toNat:Int))∧de 2000 (b.toNat:Int)=some (dA (b.toNat:Int)):=by
 have:=fj.1 aex b.toNat (DQ.2 b.toNat_lt)
 simp only [au,beq_iff_eq] at this
 exact this
def fl (b:UInt8):UInt8:=if 65≤b.toNat∧b.toNat≤90 then mS (b.toNat+32) else b
def fold (s:List UInt8):List UInt8:=s.map fl
theorem X6 (b:UInt8) (h:65≤b.toNat∧b.toNat≤90):IntKind.u8.wrap (IntKind.u8.wrap ((b.toNat:Int) - 65)+97)=((fl b).toNat:Int):=by
 have e:(fl b).toNat=b.toNat+32:=by
  unfold fl; rw [if_pos h]
  simp [UInt8.toNat_ofNat]
  omega
 rw [e]
 have w:∀ n:Int,0≤n→n≤255→IntKind.u8.wrap n=n:=by
  intro n h0 h1
  simp only [IntKind.wrap,IntKind.signed,IntKind.bits]
  simp
  omega
 rw [w ((b.toNat:Int) - 65) (by omega) (by omega),w ((b.toNat:Int) - 65+97) (by omega) (by omega)]
 omega
theorem XC (s:List UInt8):(s.map fun b=>(b.toNat:Int)).map (fun n=>mS n.toNat)=s:=by
 rw [List.map_map]
 conv=>rhs; rw [←List.map_id s]
 apply List.map_congr_left
 intro b _
 simp
theorem akP {α:Type} (pre ys:List α) (y z:α):(pre++y::ys).set (gL (pre.length:Int)) z=pre++z::ys:=by simp
theorem tF {α:Type} (pre ys:List α) (y:α):(gL (pre.length:Int) < (pre++y::ys).length)=True:=by simp
theorem aeE {R:Type} (k0:List Int→Int→Int→Option R):
  ∀ (ys:List UInt8) (pre:List Int) (m:Nat),ys.length < m→(pre++ys.map fun b=>(b.toNat:Int)).length≤bF→
    tw k0 m (pre++ys.map fun b=>(b.toNat:Int)) ((pre++ys.map fun b=>(b.toNat:Int)).length:Int) (pre.length:Int)=k0 (pre++(fold ys).map fun b=>(b.toNat:Int)) ((pre++ys.map fun b=>(b.toNat:Int)).length:Int) ((pre++ys.map fun b=>(b.toNat:Int)).length:Int):=by
 intro ys
 induction ys with
 | nil=>
   intro pre m hm hb
   cases m with
   | zero=>simp at hm
   | succ m=>
     unfold tw
     simp only [yf,yb,yc,yd,ye,yg,sW,List.map_nil,eC,aB]
     simp [fold]
 | cons y ys ih=>
   intro pre m hm hb
   cases m with
   | zero=>simp at hm
   | succ m=>
     rw [fX] at hb ⊢
     unfold tw
     simp only [yf,yb,yc,yd,ye,yg,sW,ew,dH,dt,if_true,aK,tF,akP,eE pre _ _ hb]
     by_cases h1:65≤y.toNat∧y.toNat≤90
     ·have d1:decide ((y.toNat:Int)≥65)=true:=decide_eq_true (by omega)
      have d2:decide ((y.toNat:Int)≤90)=true:=decide_eq_true (by omega)
      simp only [d1,d2,aK,X6 y h1]
      have:=ih (pre++[((fl y).toNat:Int)]) m (by simpa using hm) (by simpa using hb)
      simp only [bO,List.singleton_append,cm,fk,nD,dC] at this ⊢
      simp only [fold,fX] at this ⊢
      exact this
     ·have hf:fl y=y:=by unfold fl; rw [if_neg h1]
      have step:=ih (pre++[(y.toNat:Int)]) m (by simpa using hm) (by simpa using hb)
      simp only [bO,List.singleton_append,cm,fk,nD,dC] at step ⊢
      simp only [fold,fX,hf] at step ⊢
      by_cases h2:65≤y.toNat
      ·have d1:decide ((y.toNat:Int)≥65)=true:=decide_eq_true (by omega)
       have d2:decide ((y.toNat:Int)≤90)=false:=decide_eq_false (by omega)
       simp only [d1,d2,aK,aB]
       exact step
      ·have d1:decide ((y.toNat:Int)≥65)=false:=decide_eq_false (by omega)
       simp only [d1,aB]
       exact step
theorem v72 (s:List UInt8) (hs:s.length < 2000):ez 2000 s=some (fold s):=by
 unfold ez
 have:=aeE (R:=List UInt8) (fun x _ _=>some (x.map fun n=>mS n.toNat)) s [] 2000 hs (by unfold bF; simp; omega)
 simp only [yf,yb,yc,yd,ye,yg,sW]
 simp only [cO,dC,XC] at this
 exact this
abbrev bT:Type:=Int×(Int×(List UInt8×Unit))
abbrev s0:bT:=((0:Int),((0:Int),([],())))
def gI (s:bT):Bool:=s.1==1 || s.1==2
theorem v87 (s:bT):cX 2000 s=some (gI s):=by
 unfold cX
 simp only [Ka,sZ,gI]
 cases h:(s.1==(1:Int))<;>simp only [aK,aB,ua,ny]
theorem atn (s:bT):fE 2000 s=some (gI s):=by
 unfold fE
 simp only [Jo,Co,gI]
 cases h:(s.1==(1:Int))<;>simp only [aK,aB,ua,ny]
def as4 (l:List bT):Int:=
 if 0 < l.length∧gI (l.getD (l.length - 1) s0)=true then 1
 else if 1 < l.length∧gI (l.getD (l.length - 2) s0)=true∧(l.getD (l.length - 1) s0).1=5∧(l.getD (l.length - 1) s0).2.2.1=[109] then 2
 else 0
theorem atp {n k:Nat} (h:k≤n) (hb:n≤bF):IntKind.i64.wrap ((n:Int) - (k:Int))=((n - k:Nat):Int):=by
 rw [fO]
 ·omega
 ·unfold bF at hb; omega
def nb (s:bT):Bool:=s.1 != 9
def jq (p:bT→Bool):List bT→Nat→Int
 | [],_=> -1
 | y::ys,i=>if p y then (i:Int) else jq p ys (i+1)
def atb (l:List bT):Int:=if jq nb l 0 < 0 then (l.length:Int) else jq nb l 0
def uD:List bT→Nat→Int
 | [],_=> -1
 | y::ys,i=>if gI y then (i:Int) else if nb y then -1 else uD ys (i+1)
def asR (l:List bT):Bool:=decide (0≤uD l 0)
theorem RP (p:bT→Bool):∀ (l:List bT) (i:Nat),jq p l i= -1∨((i:Int)≤jq p l i∧jq p l i < (i:Int)+l.length)
 | [],i=>.inl rfl
 | y::ys,i=>by
   simp only [jq]
   split
   ·right; simp; omega
   ·rcases RP p ys (i+1) with h | h
    ·exact .inl h
    ·right; simp only [fk]; omega
theorem af9 {s:bT} (h:gI s=true):nb s=true:=by
 unfold gI at h; unfold nb
 simp only [nz,beq_iff_eq] at h
 simp only [bne_iff_ne,ne_eq]
 omega
theorem XG:∀ (l:List bT) (i:Nat),(uD l i=if 0≤jq nb l i∧gI (l.getD (jq nb l i - i).toNat s0)=true then jq nb l i else -1)
 | [],i=>by simp [uD,jq]
 | y::ys,i=>by
   simp only [uD,jq]
   by_cases h1:gI y=true
   ·simp only [h1,af9 h1,if_true]
    have:(0:Int)≤(i:Int):=by omega
    simp [this,h1]
   ·have h1:gI y=false:=by simpa using h1
    simp only [h1,eo,if_false]
    by_cases h2:nb y=true
    ·simp only [h2,if_true]
     simp [h1]
    ·have h2:nb y=false:=by simpa using h2
     simp only [h2,eo,if_false]
     rw [XG ys (i+1)]
     rcases RP nb ys (i+1) with h | h
     ·rw [h]; simp
     ·have e:(jq nb ys (i+1) - (i:Int)).toNat=(jq nb ys (i+1) - ((i+1:Nat):Int)).toNat+1:=by omega
      rw [e]
      simp only [List.getD_cons_succ]
def jN (c:Int):Bool:=(decide (c≥97)&&decide (c≤122)) || ((decide (c≥48)&&decide (c≤57)) || ((c==95) || ((c==94) || (c==39))))
def fy (s:List UInt8):Bool:=s.any fun b=>!jN (b.toNat:Int)
theorem ash (c:Int):hY 2000 c=some (jN c):=by
 unfold hY jN
 simp only [JN,CH]
 cases decide (c≥97)<;>cases decide (c≤122)<;>cases decide (c≥48)<;>cases decide (c≤57)<;>cases (c==95)<;>cases (c==94)<;>rfl
theorem asc (c:Int):dv 2000 c=some (jN c):=by
 unfold dv jN
 simp only [JA,Cu]
 cases decide (c≥97)<;>cases decide (c≤122)<;>cases decide (c≥48)<;>cases decide (c≤57)<;>cases (c==95)<;>cases (c==94)<;>rfl
theorem W4 {c:Int} (h:128≤c):jN c=false:=by
 unfold jN
 have h1:decide (c≤122)=false:=decide_eq_false (by omega)
 have h2:decide (c≤57)=false:=decide_eq_false (by omega)
 have h3:(c==95)=false:=by simp; omega
 have h4:(c==94)=false:=by simp; omega
 have h5:(c==39)=false:=by simp; omega
 rw [h1,h2,h3,h4,h5]; simp
theorem v154 (c:Int):hX 2000 c=some (!jN c):=by
 unfold hX
 simp only [JM,CG,ash,ar]
theorem XW (s:ByteArray) (i:Nat) (h:128≤(s.get! (i+0)).toNat):128≤(Utf8.decode s i).1:=by
 unfold Utf8.decode
 simp only [Utf8.runeError]
 rw [if_neg (by omega)]
 repeat' split
 all_goals first | (simp only; omega) | (simp only [ge_iff_le,au,decide_eq_true_eq] at *; omega)
theorem XY (s:ByteArray) (i:Nat) (h:(s.get! (i+0)).toNat < 128):Utf8.decode s i=((s.get! (i+0)).toNat,1):=by
 unfold Utf8.decode
 simp only
 rw [if_pos h]
theorem get_at (pre ys:List UInt8) (y:UInt8):(⟨⟨pre++y::ys⟩⟩:ByteArray).get! (pre.length+0)=y:=by
 show (⟨pre++y::ys⟩:Array UInt8)[pre.length+0]! =y
 simp
theorem aeG (f:Int×Unit→Option Bool) (hf:∀ c,f (c,())=some (!jN c)) {R:Type} (k0:Int→Option R) (k2:(Int×Unit→Option Bool)→Bool→List UInt8→Nat→Bool→Option R) (e:Option R) (hk:∀ a b c d g,k2 a b c d g=e):
  ∀ (ys pre:List UInt8) (m:Nat),ys.length < m→
    ∃ j:Int,0≤j∧th k0 k2 m f true (pre++ys) pre.length=(if fy ys=true then k0 j else e):=by
 intro ys
 induction ys with
 | nil=>
   intro pre m hm
   cases m with
   | zero=>simp at hm
   | succ m=>
     refine ⟨0,by omega,?_⟩
     have h:decide (pre.length < (pre++([]:List UInt8)).length)=false:=by simp
     unfold th
     simp only [wS,wT,wU,wV,wW,wX,sx,h,aB,hk,fy,uh,eo,if_false]
 | cons y ys ih=>
   intro pre m hm
   cases m with
   | zero=>simp at hm
   | succ m=>
     have h:decide (pre.length < (pre++y::ys).length)=true:=by simp
     unfold th
     simp only [wS,wT,wU,wV,wW,wX,sx,h,aK,hf,ar]
     by_cases hy:y.toNat < 128
     ·have hd:Utf8.decode ⟨⟨pre++y::ys⟩⟩ pre.length=(y.toNat,1):=by
       have:=XY ⟨⟨pre++y::ys⟩⟩ pre.length (by rw [get_at]; exact hy)
       rwa [get_at] at this
      simp only [hd]
      cases hw:jN (y.toNat:Int) with
      | false=>
        refine ⟨(pre.length:Int),by omega,?_⟩
        have:fy (y::ys)=true:=by unfold fy; rw [nB,hw]; rfl
        simp only [gn,beq_self_eq_true,aK,this,if_true]
      | true=>
        obtain ⟨j,hj,h2⟩:=ih (pre++[y]) m (by simpa using hm)
        refine ⟨j,hj,?_⟩
        have e1:fy (y::ys)=fy ys:=by unfold fy; rw [nB,hw]; rfl
        have e2:((!true)==true)=false:=rfl
        have e3:pre.length+1=(pre++[y]).length:=by simp
        simp only [e2,aB]
        rw [e1,←h2,←bx pre ys y,←e3]
     ·have hd:128≤(Utf8.decode ⟨⟨pre++y::ys⟩⟩ pre.length).1:=XW _ _ (by rw [get_at]; omega)
      have hw1:jN ((Utf8.decode ⟨⟨pre++y::ys⟩⟩ pre.length).1:Int)=false:=W4 (by omega)
      have hw2:jN (y.toNat:Int)=false:=W4 (by omega)
      have:fy (y::ys)=true:=by unfold fy; rw [nB,hw2]; rfl
      refine ⟨(pre.length:Int),by omega,?_⟩
      simp only [hw1,gn,beq_self_eq_true,aK,this,if_true]
theorem asf (f:Int×Unit→Option Bool) (hf:∀ c,f (c,())=some (!jN c)) (s:List UInt8) (hs:s.length < 2000):hR 2000 s f=some (fy s):=by
 obtain ⟨j,hj,h⟩:=aeG f hf (R:=Int) some (fun _ _ _ _ _=>some (-1)) (some (-1)) (fun _ _ _ _ _=>rfl) s [] 2000 hs
 have h1:ia 2000 s f true=(if fy s=true then some j else some (-1)):=by
  unfold ia
  simp only [wS,wT,wU,wV,wW,wX,sx]
  simpa using h
 have h2:hZ 2000 s f=(if fy s=true then some j else some (-1)):=by
  unfold hZ
  simp only [JO,CI,h1]
  split<;>rfl
 unfold hR
 simp only [JL,CF,h2]
 cases fy s with
 | true=>
   have:decide (j≥0)=true:=decide_eq_true hj
   simp only [if_true,ar,this]
 | false=>
   simp only [eo,if_false,ar]
   rfl
def qR (s:bT):Bool:=cond (s.1==1) (decide (s.2.1≥1)&&decide (s.2.1≤3)) (cond (s.1==2) (s.2.1==2) (s.2.1==0))
def oK (s:bT):Int:=cond (decide (s.1 < 1)) 1 (cond (decide (s.1 > 9)) 1 (cond (!qR s) 6 (cond (s.2.2.1==[]) 7 (cond (decide ((s.2.2.1.length:Int) > 8)) 3 (cond (fy s.2.2.1) 2 0)))))
theorem v152 (s:bT):hQ 2000 s=some (qR s):=by
 unfold hQ qR
 simp only [JK,CE]
 cases (s.1==1)<;>cases (s.1==2)<;>cases decide (s.2.1≥1)<;>rfl
theorem asG (s:bT):dw 2000 s=some (oK s):=by
 unfold dw oK
 simp only [JG,CB,v152,ar]
 cases decide (s.1 < 1) with
 | true=>rfl
 | false=>
   simp only [aB,cond_false]
   cases decide (s.1 > 9) with
   | true=>rfl
   | false=>
     simp only [aB,cond_false]
     cases qR s with
     | false=>rfl
     | true=>
       simp only [eK,aB,cond_false]
       cases (s.2.2.1==[]) with
       | true=>rfl
       | false=>
         simp only [aB,cond_false]
         cases hd:decide ((s.2.2.1.length:Int) > 8) with
         | true=>rfl
         | false=>
           simp only [aB,cond_false]
           have hl:s.2.2.1.length≤8:=by
            have:=of_decide_eq_false hd
            omega
           rw [asf _ (fun c=>by simp only [v154,ar,j7]; rfl) s.2.2.1 (by omega)]
           simp only [ar]
           cases fy s.2.2.1<;>rfl
theorem afX {R:Type} (k0:Int→Option R) (k1:bT→Int→Option R) (e:Option R) (hk:∀ a b,k1 a b=e) (a b:Int) (u:Unit):
  ∀ (ys pre:List UInt8) (m:Nat),ys.length < m→(pre++ys).length≤bF→
    tc (dv 2000) k0 k1 m (a,b,(pre++ys),u) (pre.length:Int)=(if fy ys=true then k0 2 else e):=by
 intro ys
 induction ys with
 | nil=>
   intro pre m hm hb
   cases m with
   | zero=>simp at hm
   | succ m=>
     unfold tc
     simp only [vQ,vP,vL,vM,vN,vO,vR,sn,eC,aB,hk,fy,uh,eo,if_false]
 | cons y ys ih=>
   intro pre m hm hb
   cases m with
   | zero=>simp at hm
   | succ m=>
     unfold tc
     simp only [vQ,vP,vL,vM,vN,vO,vR,sn,ew,dH,dt,if_true,aK,asc,ar]
     cases hw:jN (y.toNat:Int) with
     | false=>
       have:fy (y::ys)=true:=by unfold fy; rw [nB,hw]; rfl
       simp only [gn,aK,this,if_true]
     | true=>
       have e1:fy (y::ys)=fy ys:=by unfold fy; rw [nB,hw]; rfl
       simp only [eK,aB,eE pre ys y hb]
       rw [e1,bx pre ys y,ih (pre++[y]) m (by simpa using hm) (by rw [←bx]; exact hb)]
theorem v117 (s:bT):bP 2000 s=some (oK s):=by
 unfold bP oK
 obtain ⟨a,b,t,u⟩:=s
 simp only [vQ,vP,vL,vM,vN,vO,vR,sn]
 cases decide (a < 1) with
 | true=>rfl
 | false=>
   simp only [aB,cond_false]
   cases decide (a > 9) with
   | true=>rfl
   | false=>
     simp only [aB,cond_false]
     have hq:∀ (K:Bool→Option Int),ad (a==1) (ad (decide (b≥1)) (ad (a==2) (K (b==2)) (K (decide (b≤3)))) (ad (a==2) (K (b==2)) (K false))) (ad (a==2) (K (b==2)) (K (b==0)))=K (qR (a,b,t,u)):=by
      intro K
      unfold qR
      by_cases h1:a=1
      ·subst h1
       have e:((1:Int)==2)=false:=rfl
       have e':((1:Int)==1)=true:=rfl
       simp only [e,e',aK,aB,cond_true]
       cases decide (b≥1)<;>rfl
      ·have e:(a==1)=false:=by simpa using h1
       simp only [e,aB,cond_false]
       cases (a==2)<;>rfl
     rw [hq fun q=>ad (!q) _ _]
     cases qR (a,b,t,u) with
     | false=>rfl
     | true=>
       simp only [eK,aB,cond_false]
       cases (t==[]) with
       | true=>rfl
       | false=>
         simp only [aB,cond_false]
         cases hd:decide ((t.length:Int) > 8) with
         | true=>rfl
         | false=>
           simp only [aB,cond_false]
           have hl:t.length≤8:=by
            have:=of_decide_eq_false hd
            omega
           have:=afX (R:=Int) some (fun _ _=>some 0) (some 0) (fun _ _=>rfl) a b u t [] 2000 (by omega) (by unfold bF; simp; omega)
           simp only [cO,dC,Int.natCast_zero] at this
           rw [this]
           cases fy t<;>rfl
def jM:List bT→Int
 | []=>0
 | s::r=>cond (oK s != 0) (oK s) (jM r)
theorem aez {R:Type} (k0:Bool→Option R) (k1:List bT→Int→Option R) (hk:∀ a b,k1 a b=k0 true):
  ∀ (ys pre:List bT) (m:Nat),ys.length < m→(pre++ys).length≤bF→∃ b,tv k0 k1 m (pre++ys) (pre.length:Int)=k0 b:=by
 intro ys
 induction ys with
 | nil=>
   intro pre m hm hb
   cases m with
   | zero=>simp at hm
   | succ m=>
     refine ⟨true,?_⟩
     unfold tv
     simp only [sT,sP,sQ,sR,sS,sU,qb,eC,aB,hk]
 | cons y ys ih=>
   intro pre m hm hb
   cases m with
   | zero=>simp at hm
   | succ m=>
     unfold tv
     simp only [sT,sP,sQ,sR,sS,sU,qb,ew,dH,dt,if_true,aK]
     cases decide ((y.2.2.1.length:Int) > 40) with
     | true=>exact ⟨false,by simp only [aK]⟩
     | false=>
       obtain ⟨b,h⟩:=ih (pre++[y]) m (by simpa using hm) (by rw [←bx]; exact hb)
       refine ⟨b,?_⟩
       simp only [aB,eE pre ys y hb]
       rw [bx pre ys y,h]
abbrev bI:Type:=List UInt8×(List bT×(Int×(Int×Unit)))
abbrev aI:Type:=List UInt8×(List bI×Unit)
abbrev g0:bI:=([],([],((0:Int),((0:Int),()))))
theorem Mp:∀ s:List UInt8,Op.bytesLess s s=false
 | []=>rfl
 | b::s=>by
   simp only [Op.bytesLess]
   simp [Mp s]
def mJ (a b:bT):Bool:=(a.1==b.1)&&((a.2.1==b.2.1)&&((a.2.2.1==b.2.2.1)&&true))
def ft:List bT→List bT→Bool
 | [],[]=>true
 | x::xs,y::ys=>mJ x y&&ft xs ys
 | _,_=>false
theorem akS {a b:bT} (h:mJ a b=true):a=b:=by
 obtain ⟨a1,a2,a3,a4⟩:=a; obtain ⟨b1,b2,b3,b4⟩:=b
 simp only [mJ,iG,au,beq_iff_eq] at h
 obtain ⟨h1,h2,h3⟩:=h
 subst h1; subst h2; subst h3; rfl
theorem akT (a:bT):mJ a a=true:=by simp [mJ]
theorem Dv:∀ {a b:List bT},ft a b=true↔a=b
 | [],[]=>by simp [ft]
 | [],_::_=>by simp [ft]
 | _::_,[]=>by simp [ft]
 | x::xs,y::ys=>by
   simp only [ft,au,gC,Dv (a:=xs) (b:=ys)]
   exact ⟨fun h=>⟨akS h.1,h.2⟩,fun h=>⟨by rw [h.1]; exact akT y,h.2⟩⟩
theorem akU (a b:List bT):ft a b=ft b a:=by
 rw [tZ,Dv,Dv]; exact eq_comm
def Dh (a b:Int):Int:=ad (decide (a < b)) (-1) (ad (decide (a > b)) 1 0)
theorem v86 (a b:Int):gP 2000 a b=some (Dh a b):=by
 unfold gP Dh
 simp only [J9,CR]
 cases decide (a < b)<;>cases decide (a > b)<;>rfl
theorem Ld (a b:Int):(Dh a b != 0)=!(a==b):=by
 unfold Dh
 by_cases h:a < b
 ·rw [decide_eq_true h]; have:(a==b)=false:=beq_eq_false_iff_ne.2 (by omega)
  rw [this]; rfl
 ·by_cases h2:a > b
  ·rw [decide_eq_false h,decide_eq_true h2]; have:(a==b)=false:=beq_eq_false_iff_ne.2 (by omega)
   rw [this]; rfl
  ·rw [decide_eq_false h,decide_eq_false h2]; have:(a==b)=true:=beq_iff_eq.2 (by omega)
   rw [this]; rfl
theorem v59 (a b:bT):∃ n,dz 2000 a b=some n∧(n != 0)=!mJ a b:=by
 unfold dz mJ
 simp only [JX,CO,v86,ar,Ld]
 cases h1:a.1==b.1 with
 | false=>exact ⟨_,rfl,by rw [Ld,h1]; rfl⟩
 | true=>
   cases h2:a.2.1==b.2.1 with
   | false=>exact ⟨_,rfl,by rw [Ld,h2]; rfl⟩
   | true=>
     simp only [eK,aB,fV,iG]
     cases h3:a.2.2.1==b.2.2.1 with
     | true=>
       have h4:a.2.2.1=b.2.2.1:=by simpa using h3
       rw [h4,Mp]
       exact ⟨_,rfl,rfl⟩
     | false=>
       cases Op.bytesLess a.2.2.1 b.2.2.1 with
       | true=>exact ⟨_,rfl,rfl⟩
       | false=>exact ⟨_,rfl,rfl⟩
theorem ae0 {R:Type} (k0:Bool→Option R) (K:Option R):
  ∀ (ys pre zs pre2:List bT) (m:Nat),ys.length < m→(pre++ys).length≤bF→pre.length=pre2.length→ys.length=zs.length→
    tj (dz 2000) k0 (fun _ _ _=>K) m (pre++ys) (pre2++zs) (pre.length:Int)=ad (ft ys zs) K (k0 false):=by
 intro ys
 induction ys with
 | nil=>
   intro pre zs pre2 m hm hb hp hz
   have:zs=[]:=kK.1 hz.symm
   subst this
   cases m with
   | zero=>omega
   | succ m=>
     unfold tj
     simp only [w4,wY,wZ,w0,w3,w7,sz,eC,aB,ft,aK]
 | cons y ys ih=>
   intro pre zs pre2 m hm hb hp hz
   obtain ⟨z,zs,rfl⟩:∃ z zs',zs=z::zs':=by
    cases zs with
    | nil=>simp at hz
    | cons z zs=>exact ⟨z,zs,rfl⟩
   cases m with
   | zero=>omega
   | succ m=>
     have hwr:=eE pre ys y hb
     obtain ⟨n,h1,h2⟩:=v59 y z
     have i2:(0≤(pre.length:Int)∧(pre.length:Int) < ((pre2++z::zs).length:Int))=True:=by rw [hp]; exact dH _ _ _
     have a2:(pre2++z::zs).getD (gL (pre.length:Int)) s0=z:=by rw [hp]; exact dt _ _ _ _
     unfold tj
     simp only [w4,wY,wZ,w0,w3,w7,sz,ew,dH,dt,if_true,aK,hwr,i2,a2,h1,ar,h2,ft]
     cases h:mJ y z with
     | false=>simp only [gn,aK,jP,aB]
     | true=>
       simp only [eK,aB,fV]
       rw [bx pre ys y,bx pre2 zs z]
       exact ih (pre++[y]) zs (pre2++[z]) m (by simpa using hm) (by rw [←bx]; exact hb) (by simp [hp]) (by simpa using hz)
theorem Wz {a b:List bT} (h:a.length≠b.length):ft a b=false:=by
 cases h2:ft a b with
 | false=>rfl
 | true=>exact absurd (congrArg kJ (Dv.1 h2)) h
theorem v28 (a b:List bT) (h:a.length < 2000):bM 2000 a b=some (ft a b):=by
 unfold bM
 simp only [w4,wY,wZ,w0,w3,w7,sz]
 by_cases hl:a.length=b.length
 ·have e:((a.length:Int) != (b.length:Int))=false:=by simp [hl]
  have:=ae0 (R:=Bool) some (some true) a [] b [] 2000 h (by unfold bF; simp; omega) rfl hl
  simp only [cO,dC] at this
  simp only [e,aB]
  refine dB this ?_
  cases ft a b<;>rfl
 ·have e:((a.length:Int) != (b.length:Int))=true:=bne_iff_ne.2 (by omega)
  simp only [e,aK]
  rw [Wz hl]
theorem aet {R:Type} (k0:Bool→Option R) (K:Option R):
  ∀ (ys pre zs pre2:List bT) (m:Nat),ys.length < m→(pre++ys).length≤bF→pre.length=pre2.length→ys.length=zs.length→
    te k0 (fun _ _ _ _=>K) m (pre++ys) (pre2++zs) ((pre++ys).length:Int) (pre.length:Int)=ad (ft ys zs) K (k0 false):=by
 intro ys
 induction ys with
 | nil=>
   intro pre zs pre2 m hm hb hp hz
   have:zs=[]:=kK.1 hz.symm
   subst this
   cases m with
   | zero=>omega
   | succ m=>
     unfold te
     simp only [wa,vY,vZ,v7,v8,wb,sr,eC,aB,ft,aK]
 | cons y ys ih=>
   intro pre zs pre2 m hm hb hp hz
   obtain ⟨z,zs,rfl⟩:∃ z zs',zs=z::zs':=by
    cases zs with
    | nil=>simp at hz
    | cons z zs=>exact ⟨z,zs,rfl⟩
   cases m with
   | zero=>omega
   | succ m=>
     have hwr:=eE pre ys y hb
     have i2:(0≤(pre.length:Int)∧(pre.length:Int) < ((pre2++z::zs).length:Int))=True:=by rw [hp]; exact dH _ _ _
     have a2:(pre2++z::zs).getD (gL (pre.length:Int)) s0=z:=by rw [hp]; exact dt _ _ _ _
     unfold te
     simp only [wa,vY,vZ,v7,v8,wb,sr,ew,dH,dt,if_true,aK,hwr,i2,a2,ft]
     have e:(y.1==z.1&&(y.2.1==z.2.1&&(y.2.2.1==z.2.2.1&&true)))=mJ y z:=rfl
     rw [e]
     cases h:mJ y z with
     | false=>simp only [gn,aK,jP,aB]
     | true=>
       simp only [eK,aB,fV]
       rw [bx pre ys y,bx pre2 zs z]
       exact ih (pre++[y]) zs (pre2++[z]) m (by simpa using hm) (by rw [←bx]; exact hb) (by simp [hp]) (by simpa using hz)
theorem asa (a b:List bT) (h:a.length < 2000):gZ 2000 a b=some (ft a b):=by
 unfold gZ
 simp only [wa,vY,vZ,v7,v8,wb,sr]
 by_cases hl:a.length=b.length
 ·have e:((a.length:Int) != (b.length:Int))=false:=by simp [hl]
  have:=aet (R:=Bool) some (some true) a [] b [] 2000 h (by unfold bF; simp; omega) rfl hl
  simp only [cO,dC] at this
  simp only [e,aB]
  refine dB this ?_
  cases ft a b<;>rfl
 ·have e:((a.length:Int) != (b.length:Int))=true:=bne_iff_ne.2 (by omega)
  simp only [e,aK]
  rw [Wz hl]
def up (b:UInt8):Bool:=decide ((b.toNat:Int)≥65)&&decide ((b.toNat:Int)≤90)
def jD (b:UInt8):Bool:=dA (b.toNat:Int)&&!up b
def tE (s:List UInt8):Int:=cond (s==[]) 7 (cond (decide ((s.length:Int) > 4)) 3 (cond (s.all jD) 0 2))
theorem X7 (b:UInt8):(fl b=b)↔up b=false:=by
 unfold fl up
 by_cases h:65≤b.toNat∧b.toNat≤90
 ·rw [if_pos h,decide_eq_true (show (b.toNat:Int)≥65 by omega),decide_eq_true (show (b.toNat:Int)≤90 by omega)]
  constructor
  ·intro e
   have e2:=congrArg UInt8.toNat e
   simp only [UInt8.toNat_ofNat'] at e2
   omega
  ·intro e; cases e
 ·rw [if_neg h]
  have:(decide ((b.toNat:Int)≥65)&&decide ((b.toNat:Int)≤90))=false:=by
   rw [Bool.and_eq_false_iff]
   by_cases h1:65≤b.toNat
   ·exact .inr (decide_eq_false (by omega))
   ·exact .inl (decide_eq_false (by omega))
  rw [this]; simp
theorem Jk:∀ s:List UInt8,(fold s==s)=s.all fun b=>!up b
 | []=>rfl
 | b::s=>by
   rw [tZ]
   have ih:=Jk s
   rw [tZ] at ih
   simp only [fold,fX,dJ,au,beq_iff_eq,gC,du] at ih ⊢
   rw [X7,ih]
theorem afW {R:Type} (k0:Int→Option R) (K:Option R):
  ∀ (ys pre:List UInt8) (m:Nat),ys.length < m→(pre++ys).length≤bF→
    ta (de 2000) k0 (fun _ _=>K) m (pre++ys) (pre.length:Int)=cond (ys.all jD) K (k0 2):=by
 intro ys
 induction ys with
 | nil=>
   intro pre m hm hb
   cases m with
   | zero=>omega
   | succ m=>
     unfold ta
     simp only [vJ,vF,vG,vH,vI,vK,sk,eC,aB,nA,cond_true]
 | cons y ys ih=>
   intro pre m hm hb
   cases m with
   | zero=>omega
   | succ m=>
     have hwr:=eE pre ys y hb
     unfold ta
     simp only [vJ,vF,vG,vH,vI,vK,sk,ew,dH,dt,if_true,aK,hwr,(Lw y).2,ar,dJ,jD,up]
     have hgo:=ih (pre++[y]) m (by simpa using hm) (by rw [←bx]; exact hb)
     rw [←bx] at hgo
     cases dA (y.toNat:Int) with
     | false=>simp only [gn,aK,jP,cond_false]
     | true=>
       simp only [eK,aB,fV]
       cases decide ((y.toNat:Int)≥65) with
       | false=>simp only [aB,jP,gn,fV]; exact hgo
       | true=>
         simp only [aK,fV]
         cases decide ((y.toNat:Int)≤90) with
         | false=>simp only [aB,gn,fV]; exact hgo
         | true=>simp only [aK,eK,jP,cond_false]
theorem ar6 (s:List UInt8):fF 2000 s=some (tE s):=by
 unfold fF tE
 simp only [vJ,vF,vG,vH,vI,vK,sk]
 cases h0:s==[] with
 | true=>rfl
 | false=>
   cases h1:decide ((s.length:Int) > 4) with
   | true=>rfl
   | false=>
     have h2:¬ (s.length:Int) > 4:=of_decide_eq_false h1
     have:=afW (R:=Int) some (some 0) s [] 2000 (by omega) (by unfold bF; simp; omega)
     simp only [cO,dC] at this
     simp only [aB,cond_false]
     refine dB this ?_
     cases s.all jD<;>rfl
def qQ (v:Int):Bool:=!decide (v < 32)&&!decide (v > 126)
theorem afY {R:Type} (k0:Int→Option R) (K:Option R):
  ∀ (ys pre:List Int) (m:Nat),ys.length < m→(pre++ys).length≤bF→
    tf k0 (fun _ _ _=>K) m (pre++ys) ((pre++ys).length:Int) (pre.length:Int)=cond (ys.all qQ) K (k0 2):=by
 intro ys
 induction ys with
 | nil=>
   intro pre m hm hb
   cases m with
   | zero=>omega
   | succ m=>
     unfold tf
     simp only [wK,wG,wH,wI,wJ,wL,sw,eC,aB,nA,cond_true]
 | cons y ys ih=>
   intro pre m hm hb
   cases m with
   | zero=>omega
   | succ m=>
     have hwr:=eE pre ys y hb
     have hl:(gL (pre.length:Int) < (pre++y::ys).length)=True:=tF pre ys y
     unfold tf
     simp only [wK,wG,wH,wI,wJ,wL,sw,ew,dH,dt,if_true,aK,hwr,hl,dJ,qQ]
     have hgo:=ih (pre++[y]) m (by simpa using hm) (by rw [←bx]; exact hb)
     rw [←bx] at hgo
     cases decide (y < 32) with
     | true=>simp only [aK,eK,jP,cond_false]
     | false=>
       cases decide (y > 126) with
       | true=>simp only [aK,aB,eK,gn,fV,jP,cond_false]
       | false=>simp only [aB,gn,fV]; exact hgo
def ch (b:UInt8):Int:=(b.toNat:Int)
theorem asi (s:List UInt8) (h:s.length≤120):fH 2000 s=some (cond ((s.map ch).all qQ) 0 2):=by
 unfold fH
 have h1:decide ((s.length:Int) > 120)=false:=decide_eq_false (by omega)
 simp only [wK,wG,wH,wI,wJ,wL,sw,h1,aB]
 have:=afY (R:=Int) some (some 0) (s.map ch) [] 2000 (by simp; omega) (by unfold bF; simp; omega)
 simp only [cO,dC] at this
 refine dB this ?_
 cases (s.map ch).all qQ<;>rfl
abbrev mP:Type:=Int×(Int×Unit)
structure Jw (P:List Int) (out:List mP):Prop where
 yes:P.all dA=true→out=if P=[] then [] else [(0,((P.length:Nat):Int),())]
 no:P.all dA=false→out.length≠1∨∃ a b,out=[(a,b,())]∧b - a < (P.length:Int)
 bd:∀ x∈out,0≤x.1∧x.1≤(P.length:Int)∧0≤x.2.1∧x.2.1≤(P.length:Int)
 len:out.length≤P.length
theorem uz (P:List Int) (y:Int):(P++[y]).all dA=(P.all dA&&dA y):=by simp
theorem Jw.skip {P:List Int} {out:List mP} {y:Int} (h:Jw P out) (hy:dA y=false):Jw (P++[y]) out:=by
 have ha:(P++[y]).all dA=false:=by rw [uz,hy,LI]
 refine ⟨fun e=>by rw [ha] at e; (cases e),fun _=>?_,fun x hx=>?_,by have:=h.len; simp; omega⟩
 ·cases hp:P.all dA with
  | true=>
    rw [h.yes hp]
    split
    ·exact .inl (by simp)
    ·exact .inr ⟨_,_,rfl,by simp; omega⟩
  | false=>
    rcases h.no hp with h1 | ⟨a,b,h1,h2⟩
    ·exact .inl h1
    ·exact .inr ⟨a,b,h1,by simp; omega⟩
 ·have:=h.bd x hx
  simp only [cm,iJ]; omega
theorem Jw.ext {P:List Int} {o:List mP} {a:Int} {y:Int} (h:Jw P (o++[(a,((P.length:Nat):Int),())])) (hy:dA y=true):Jw (P++[y]) (o++[(a,((P.length:Nat):Int)+1,())]):=by
 refine ⟨fun e=>?_,fun e=>?_,fun x hx=>?_,by have:=h.len; simp at this ⊢; omega⟩
 ·rw [uz,hy,iG] at e
  have h1:=h.yes e
  split at h1
  ·simp at h1
  ·have h2:o=[]:=by
    have:=congrArg kJ h1
    simp at this; exact kK.1 (by simpa using this)
   subst h2
   simp only [cO,gC,eN,and_true] at h1
   rw [if_neg (by simp),h1]
   simp
 ·rw [uz,hy,iG] at e
  rcases h.no e with h1 | ⟨a',b',h1,h2⟩
  ·exact .inl (by simpa using h1)
  ·have h3:o=[]:=by
    have:=congrArg kJ h1
    simp at this; exact kK.1 (by simpa using this)
   subst h3
   simp only [cO,gC,eN,and_true] at h1
   exact .inr ⟨a,_,rfl,by simp; omega⟩
 ·simp only [cm,iJ]
  rcases dD.1 hx with h1 | h1
  ·have:=h.bd x (List.mem_append_left _ h1); omega
  ·have h2:=h.bd (a,((P.length:Nat):Int),()) (by simp)
   simp only [gX] at h1
   subst h1
   simp only at h2 ⊢; omega
theorem Jw.new {P:List Int} {out:List mP} {y:Int} (h:Jw P out) (hy:dA y=true) (hn:∀ o a,out≠o++[(a,((P.length:Nat):Int),())]):Jw (P++[y]) (out++[(((P.length:Nat):Int),((P.length:Nat):Int)+1,())]):=by
 refine ⟨fun e=>?_,fun e=>?_,fun x hx=>?_,by have:=h.len; simp; omega⟩
 ·rw [uz,hy,iG] at e
  have h1:=h.yes e
  split at h1
  ·rename_i hp; subst hp; subst h1; simp
  ·exact absurd h1 (hn [] 0)
 ·rw [uz,hy,iG] at e
  cases out with
  | nil=>
    refine .inr ⟨_,_,rfl,?_⟩
    cases P with
    | nil=>cases e
    | cons p P=>simp; omega
  | cons x o=>exact .inl (by simp)
 ·simp only [cm,iJ]
  rcases dD.1 hx with h1 | h1
  ·have:=h.bd x h1; omega
  ·simp only [gX] at h1
   subst h1
   simp only; omega
theorem afZ {R:Type} (K:List mP→Option R):
  ∀ (ys pre:List Int) (m:Nat) (out:List mP),ys.length < m→(pre++ys).length≤120→(∀ v∈ys,cj 2000 v=some (dA v))→Jw pre out→
    ∃ o,Jw (pre++ys) o∧qw (cj 2000) (fun o _ _ _=>K o) m out (pre++ys) ((pre++ys).length:Int) (pre.length:Int)=K o:=by
 intro ys
 induction ys with
 | nil=>
   intro pre m out hm hb hs hJ
   cases m with
   | zero=>omega
   | succ m=>
     refine ⟨out,by simpa using hJ,?_⟩
     unfold qw
     simp only [wD,wz,wA,wB,wC,wF,sv,eC,aB]
 | cons y ys ih=>
   intro pre m out hm hb hs hJ
   cases m with
   | zero=>omega
   | succ m=>
     have hwr:=eE pre ys y (by unfold bF; omega)
     have hl:(gL (pre.length:Int) < (pre++y::ys).length)=True:=tF pre ys y
     have hy:=hs y (by simp)
     have hbp:pre.length < 120:=by simp at hb; omega
     have hgo:∀ o,Jw (pre++[y]) o→∃ o',Jw (pre++y::ys) o'∧qw (cj 2000) (fun o _ _ _=>K o) m o (pre++y::ys) ((pre++y::ys).length:Int) ((pre++[y]).length:Int)=K o':=by
      intro o ho
      have:=ih (pre++[y]) m o (by simpa using hm) (by rw [←bx]; exact hb) (fun v hv=>hs v (fm _ hv)) ho
      rwa [←bx] at this
     unfold qw
     simp only [wD,wz,wA,wB,wC,wF,sv,ew,dH,dt,if_true,aK,hl,hwr,hy,ar]
     cases hly:dA y with
     | false=>
       simp only [gn,aK]
       exact hgo out (hJ.skip hly)
     | true=>
       simp only [eK,aB]
       have h3:(((pre++[y]).length:Nat):Int)=(pre.length:Int)+1:=by simp
       rcases LR out with h0 | ⟨o,x,h0⟩
       ·subst h0
        have d:decide ((([]:List mP).length:Int) > 0)=false:=rfl
        have hl2:(([]:List mP).length+[((pre.length:Int),(((pre++[y]).length:Nat):Int),())].length≤8796093022208)=True:=by simp
        have hn:=hJ.new hly (by intro o a; simp)
        rw [←h3] at hn
        simp only [d,aB,hl2,if_true]
        exact hgo _ hn
       ·rw [LO] at h0
        subst h0
        have hol:(o++[x]).length≤pre.length:=hJ.len
        have hol':o.length < 120:=by simp at hol; omega
        have d:decide ((((o++[x]).length:Nat):Int) > 0)=true:=decide_eq_true (by simp only [cm,iJ]; omega)
        have w2:IntKind.i64.wrap ((((o++[x]).length:Nat):Int) - 1)=(o.length:Int):=by
         have:(((o++[x]).length:Nat):Int) - 1=(o.length:Int):=by simp
         rw [this]; exact fO (by omega)
        have i1:(0≤(o.length:Int)∧(o.length:Int) < (((o++[x]).length:Nat):Int))=True:=by rw [eq_iff_iff,iff_true]; simp only [cm,iJ]; omega
        have i2:(gL (o.length:Int) < (o++[x]).length)=True:=by simp
        have g1:(o++[x]).getD (gL (o.length:Int)) ((0:Int),((0:Int),()))=x:=by simp
        have s1:∀ z,(o++[x]).set (gL (o.length:Int)) z=o++[z]:=by intro z; simp
        simp only [d,aK,w2,i1,i2,if_true,g1,s1]
        cases hx:x.2.1==(pre.length:Int) with
        | true=>
          have hx':x.2.1=(pre.length:Int):=by simpa using hx
          obtain ⟨a,b,u⟩:=x
          simp only at hx'
          subst hx'
          have hn:=hJ.ext hly
          rw [←h3] at hn
          simp only [aK,hwr]
          exact hgo _ hn
        | false=>
          have hx':x.2.1≠(pre.length:Int):=by simpa using hx
          have hl2:((o++[x]).length+[((pre.length:Int),(((pre++[y]).length:Nat):Int),())].length≤8796093022208)=True:=by
           simp only [cm,iJ,eq_iff_iff,iff_true]; omega
          have hn:=hJ.new hly (by
           intro o' a e
           have:=(List.append_inj' e rfl).2
           simp only [gC,and_true] at this
           rw [this] at hx'
           exact hx' rfl)
          rw [←h3] at hn
          simp only [aB,hl2,if_true]
          exact hgo _ hn
theorem aev:((List.range 256).all fun n=>!dA (n:Int) || qQ (n:Int))=true:=by kernel_rfl
theorem aew (b:UInt8) (h:dA (b.toNat:Int)=true):qQ (b.toNat:Int)=true:=by
 have:=fj.1 aev b.toNat (DQ.2 b.toNat_lt)
 rw [h] at this
 simpa using this
theorem asd (s:List UInt8):fG 2000 s=some (tE s):=by
 unfold fG tE
 simp only [JF,CA]
 cases h0:s==[] with
 | true=>rfl
 | false=>
   have h0':s≠[]:=by simpa using h0
   cases h1:decide ((s.length:Int) > 4) with
   | true=>rfl
   | false=>
     have h2:¬ (s.length:Int) > 4:=of_decide_eq_false h1
     simp only [aB,cond_false,v72 s (by omega),ar]
     have hne:(fold s != s)=!(fold s==s):=rfl
     rw [hne,Jk]
     cases hu:s.all fun b=>!up b with
     | false=>
       have:s.all jD=false:=by
        rw [LN] at hu ⊢
        obtain ⟨b,hb,h3⟩:=hu
        exact ⟨b,hb,by unfold jD; simp only [Bool.not_eq_true] at h3 ⊢; rw [h3,LI]⟩
       rw [this]; rfl
     | true=>
       have hlk:s.all jD=(s.map ch).all dA:=by
        rw [tZ]
        simp only [fj,dd,forall_exists_index,and_imp,forall_apply_eq_imp_iff₂] at hu ⊢
        exact ⟨fun h b hb=>by have:=h b hb; unfold jD at this; simp only [au] at this; exact this.1,fun h b hb=>by unfold jD; rw [hu b hb,iG]; exact h b hb⟩
       simp only [eK,aB]
       unfold iO
       simp only [wD,wz,wA,wB,wC,wF,sv,asi s (by omega),ar]
       cases hv:(s.map ch).all qQ with
       | false=>
         have:s.all jD=false:=by
          rw [hlk,LN]
          rw [LN] at hv
          obtain ⟨v,hvm,h3⟩:=hv
          refine ⟨v,hvm,fun h4=>h3 ?_⟩
          obtain ⟨b,_,rfl⟩:=dd.1 hvm
          exact aew b h4
         rw [this]; rfl
       | true=>
         have e0:((cond true (0:Int) 2) != 0)=false:=rfl
         simp only [e0,aB]
         obtain ⟨o,hJ,ho⟩:=afZ (R:=List mP×Int) (fun o=>some (o,0)) (s.map ch) [] 2000 [] (by simp; omega) (by simp; omega) (by
          intro v hv
          obtain ⟨b,_,rfl⟩:=dd.1 hv
          exact (Lw b).1) ⟨fun _=>rfl,(fun e=>by cases e),(fun x hx=>by simp at hx),by simp⟩
         simp only [cO,dC] at ho hJ
         have hch:(s.map fun b=>(b.toNat:Int))=s.map ch:=rfl
         rw [hch]
         have ho':=ho
         rw [show ((0:Nat):Int)=0 from rfl] at ho'
         simp only [ho']
         have e1:((0:Int) != 0)=false:=rfl
         simp only [ar,e1,aB]
         cases ha:(s.map ch).all dA with
         | true=>
           have h5:=hJ.yes ha
           rw [if_neg (by simpa using h0')] at h5
           subst h5
           have w:IntKind.i64.wrap (s.length:Int)=(s.length:Int):=fO (by omega)
           have hk:s.all jD=true:=by rw [hlk,ha]
           rw [hk]
           simp [w,ad]
         | false=>
           rw [hlk,ha]
           rcases hJ.no ha with h5 | ⟨a,b,h5,h6⟩
           ·have:((o.length:Int) != 1)=true:=bne_iff_ne.2 (by omega)
            rw [this]; rfl
           ·subst h5
            have hbd:=hJ.bd (a,b,()) (by simp)
            simp only [nD] at hbd h6
            have w:IntKind.i64.wrap (b - a)=b - a:=fO (by omega)
            have:(b - a != (s.length:Int))=true:=bne_iff_ne.2 (by omega)
            simp [w,this,ad]
theorem asX (n:Int):(n != 0)=!(n==0):=rfl
def uC (x:bI):Bool:=decide (x.2.2.1 < 0) || (decide (x.2.2.1 > 99) || (decide (x.2.2.2.1 < 0) || decide (x.2.2.2.1 > 4)))
def gE (x:bI):Int:=cond (tE x.1 != 0) (tE x.1) (cond ((x.2.1.length:Int)==0) 7 (cond (decide ((x.2.1.length:Int) > 2)) 3 (cond (jM x.2.1 != 0) (jM x.2.1) (cond (uC x) 6 0))))
theorem aee {R:Type} (k0:Int→Option R) (K:bI→Option R) (x:bI):
  ∀ (ys pre:List bT) (m:Nat),ys.length < m→(pre++ys).length≤bF→
    td (dw 2000) k0 (fun y0 _ _ _=>K y0) m x (pre++ys) ((pre++ys).length:Int) (pre.length:Int)=cond (jM ys != 0) (k0 (jM ys)) (K x):=by
 intro ys
 induction ys with
 | nil=>
   intro pre m hm hb
   cases m with
   | zero=>omega
   | succ m=>
     unfold td
     simp only [vW,vS,vT,vU,vV,vX,sq,eC,aB,jM]
     rfl
 | cons y ys ih=>
   intro pre m hm hb
   cases m with
   | zero=>omega
   | succ m=>
     have hwr:=eE pre ys y hb
     have hgo:=ih (pre++[y]) m (by simpa using hm) (by rw [←bx]; exact hb)
     rw [←bx] at hgo
     unfold td
     simp only [vW,vS,vT,vU,vV,vX,sq,ew,dH,dt,if_true,aK,hwr,asG,ar,jM]
     cases h:oK y != 0 with
     | true=>simp only [aK,cond_true,h]
     | false=>simp only [aB,cond_false]; exact hgo
theorem ae1 {R:Type} (k0:Int→Option R) (K:bI→Option R) (t:List UInt8) (r:Int×(Int×Unit)):
  ∀ (ys pre:List bT) (m:Nat),ys.length < m→(pre++ys).length≤bF→
    tx (bP 2000) k0 (fun y0 _=>K y0) m (t,(pre++ys,r)) (pre.length:Int)=cond (jM ys != 0) (k0 (jM ys)) (K (t,(pre++ys,r))):=by
 intro ys
 induction ys with
 | nil=>
   intro pre m hm hb
   cases m with
   | zero=>omega
   | succ m=>
     unfold tx
     simp only [yu,yn,yp,yq,yr,yw,s3,eC,aB,jM]
     rfl
 | cons y ys ih=>
   intro pre m hm hb
   cases m with
   | zero=>omega
   | succ m=>
     have hwr:=eE pre ys y hb
     have hgo:=ih (pre++[y]) m (by simpa using hm) (by rw [←bx]; exact hb)
     rw [←bx] at hgo
     unfold tx
     simp only [yu,yn,yp,yq,yr,yw,s3,ew,dH,dt,if_true,aK,hwr,v117,ar,jM]
     cases h:oK y != 0 with
     | true=>simp only [aK,cond_true,h]
     | false=>simp only [aB,cond_false]; exact hgo
theorem ar8 (x:bI):df 2000 x=some (gE x):=by
 unfold df gE
 simp only [vW,vS,vT,vU,vV,vX,sq,asd,ar]
 cases tE x.1 != 0 with
 | true=>rfl
 | false=>
   cases (x.2.1.length:Int)==0 with
   | true=>rfl
   | false=>
     cases h:decide ((x.2.1.length:Int) > 2) with
     | true=>rfl
     | false=>
       have h2:¬ (x.2.1.length:Int) > 2:=of_decide_eq_false h
       have:=aee (R:=Int) some (fun x0=>ad (decide (x0.2.2.1 < (0:Int))) (some 6) (ad (decide (x0.2.2.1 > (99:Int))) (some 6) (ad (decide (x0.2.2.2.1 < (0:Int))) (some 6) (ad (decide (x0.2.2.2.1 > (4:Int))) (some 6) (some 0))))) x x.2.1 [] 2000 (by omega) (by unfold bF; simp; omega)
       simp only [cO,dC] at this
       simp only [aB,aK,cond_false]
       refine dB this ?_
       unfold uC
       cases jM x.2.1 != 0<;>cases decide (x.2.2.1 < 0)<;>cases decide (x.2.2.1 > 99)<;>cases decide (x.2.2.2.1 < 0)<;>cases decide (x.2.2.2.1 > 4)<;>rfl
theorem v91 (x:bI):cK 2000 x=some (gE x):=by
 obtain ⟨t,l,r⟩:=x
 unfold cK gE
 simp only [yu,yn,yp,yq,yr,yw,s3,ar6,ar]
 cases tE t != 0 with
 | true=>rfl
 | false=>
   cases (l.length:Int)==0 with
   | true=>rfl
   | false=>
     cases h:decide ((l.length:Int) > 2) with
     | true=>rfl
     | false=>
       have h2:¬ (l.length:Int) > 2:=of_decide_eq_false h
       have:=ae1 (R:=Int) some (fun x0=>ad (decide (x0.2.2.1 < (0:Int))) (some 6) (ad (decide (x0.2.2.1 > (99:Int))) (some 6) (ad (decide (x0.2.2.2.1 < (0:Int))) (some 6) (ad (decide (x0.2.2.2.1 > (4:Int))) (some 6) (some 0))))) t r l [] 2000 (by omega) (by unfold bF; simp; omega)
       simp only [cO,dC] at this
       simp only [aB,aK,cond_false]
       refine dB this ?_
       unfold uC
       cases jM l != 0<;>cases decide (r.1 < 0)<;>cases decide (r.1 > 99)<;>cases decide (r.2.1 < 0)<;>cases decide (r.2.1 > 4)<;>rfl
theorem kW {x:bI} (h:gE x=0):x.2.1.length≤2∧x.2.1≠[]∧x.1≠[]∧x.1.length≤4:=by
 unfold gE at h
 cases h1:tE x.1 != 0 with
 | true=>rw [h1,cond_true] at h; rw [h] at h1; cases h1
 | false=>
   rw [h1,cond_false] at h
   have ht:x.1≠[]∧x.1.length≤4:=by
    unfold tE at h1
    cases h3:x.1==[] with
    | true=>rw [h3] at h1; cases h1
    | false=>
      rw [h3] at h1
      cases h4:decide ((x.1.length:Int) > 4) with
      | true=>rw [h4] at h1; cases h1
      | false=>exact ⟨by simpa using h3,by have:=of_decide_eq_false h4; omega⟩
   cases h2:(x.2.1.length:Int)==0 with
   | true=>rw [h2,cond_true] at h; cases h
   | false=>
     rw [h2,cond_false] at h
     cases h3:decide ((x.2.1.length:Int) > 2) with
     | true=>rw [h3,cond_true] at h; cases h
     | false=>
       have:=of_decide_eq_false h3
       refine ⟨by omega,fun e=>?_,ht.1,ht.2⟩
       rw [e] at h2; cases h2
def zc (t y:bI):Bool:=(t.1==y.1)&&((t.2.2.2.1==y.2.2.2.1)&&ft t.2.1 y.2.1)
def lz (y:bI) (pre:List bI):Bool:=pre.any fun t=>zc t y
def iD:List bI→List bI→Int
 | _,[]=>0
 | pre,y::ys=>cond (gE y != 0) (gE y) (cond (lz y pre) 5 (iD (pre++[y]) ys))
def oC (s:List UInt8):Bool:=match fq 2000 s with | some b=>b | none=>false
theorem VK (s:List UInt8):fu 2000 s=some (oC s)∧fq 2000 s=some (oC s):=by
 obtain ⟨b,h1,h2⟩:=ar7 s
 have:oC s=b:=by unfold oC; rw [h2]
 rw [this]; exact ⟨h1,h2⟩
def oE (o:aI):Int:=cond (!oC o.1) 2 (cond ((o.2.1.length:Int)==0) 7 (cond (decide ((o.2.1.length:Int) > 120)) 3 (iD [] o.2.1)))
theorem aeB {R:Type} (k0:Int→Option R) (K:Option R) (f:bI×Unit→Option Bool) (p:bI→Bool):
  ∀ (ys pre:List bI) (m:Nat),(∀ t∈ys,f (t,())=some (p t))→ys.length < m→(pre++ys).length≤bF→
    (ys.any p=false→qv k0 (fun _ _ _ _=>K) m (pre++ys) f ((pre++ys).length:Int) (pre.length:Int)=K)∧
    (ys.any p=true→∃ i:Nat,qv k0 (fun _ _ _ _=>K) m (pre++ys) f ((pre++ys).length:Int) (pre.length:Int)=k0 (i:Int)):=by
 intro ys
 induction ys with
 | nil=>
   intro pre m hf hm hb
   cases m with
   | zero=>omega
   | succ m=>
     unfold qv
     simp only [wm,wo,wq,wu,wv,wx,su,eC,aB,uh]
     exact ⟨fun _=>trivial,fun h=>by cases h⟩
 | cons y ys ih=>
   intro pre m hf hm hb
   cases m with
   | zero=>omega
   | succ m=>
     have hwr:=eE pre ys y hb
     have hgo:=ih (pre++[y]) m (fun t ht=>hf t (fm _ ht)) (by simpa using hm) (by rw [←bx]; exact hb)
     rw [←bx] at hgo
     unfold qv
     simp only [wm,wo,wq,wu,wv,wx,su,ew,dH,dt,if_true,aK,hwr,hf y (by simp),ar,nB]
     cases h:p y with
     | true=>simp only [aK,ua]; exact ⟨(fun h=>by cases h),fun _=>⟨pre.length,rfl⟩⟩
     | false=>simp only [aB,ny]; exact hgo
theorem ar9 (xs:List bI) (hx:xs.length < 2000) (f:bI×Unit→Option Bool) (p:bI→Bool) (hf:∀ t∈xs,f (t,())=some (p t)):da 2000 xs f=some (xs.any p):=by
 unfold da
 simp only [Ju,Cq]
 unfold iN
 simp only [wm,wo,wq,wu,wv,wx,su]
 have h:=aeB (R:=Int) some (some (-1)) f p xs [] 2000 hf hx (by unfold bF; simp; omega)
 simp only [cO,dC] at h
 have z:((0:Nat):Int)=0:=rfl
 rw [z] at h
 cases ha:xs.any p with
 | false=>rw [h.1 ha]; rfl
 | true=>
   obtain ⟨i,h1⟩:=h.2 ha
   rw [h1]
   simp only [ar]
   have:decide ((i:Int)≥0)=true:=decide_eq_true (by omega)
   rw [this]
theorem aej {R:Type} (k0:Int→Int→Option R) (K:Option R) (nm:List UInt8):
  ∀ (ys pre:List bI) (m:Nat),ys.length < m→(pre++ys).length≤120→(∀ t∈pre,t.2.1.length≤2)→
    (iD pre ys=0→qD (df 2000) (da 2000) (dh 2000) k0 (fun _ _ _ _=>K) m (nm,(pre++ys,())) (pre++ys) ((pre++ys).length:Int) (pre.length:Int)=K)∧
    (iD pre ys≠0→∃ i,qD (df 2000) (da 2000) (dh 2000) k0 (fun _ _ _ _=>K) m (nm,(pre++ys,())) (pre++ys) ((pre++ys).length:Int) (pre.length:Int)=k0 i (iD pre ys)):=by
 intro ys
 induction ys with
 | nil=>
   intro pre m hm hb hp
   cases m with
   | zero=>omega
   | succ m=>
     unfold qD
     simp only [yB,yx,yy,yz,yA,yC,s4,eC,aB,iD]
     exact ⟨fun _=>trivial,fun h=>absurd rfl h⟩
 | cons y ys ih=>
   intro pre m hm hb hp
   cases m with
   | zero=>omega
   | succ m=>
     have hwr:=eE pre ys y (by unfold bF; omega)
     unfold qD
     simp only [yB,yx,yy,yz,yA,yC,s4,ew,dH,dt,if_true,aK,hwr,ar8,ar,iD]
     cases h:gE y != 0 with
     | true=>
       have h':gE y≠0:=by simpa using h
       simp only [aK,cond_true]
       exact ⟨fun e=>absurd e h',fun _=>⟨_,rfl⟩⟩
     | false=>
       have h':gE y=0:=by simpa using h
       have hy:=kW h'
       have hbp:pre.length < 120:=by simp at hb; omega
       have hc:(0≤(0:Int)∧(0:Int)≤(pre.length:Int)∧(pre.length:Int)≤((pre++y::ys).length:Int)∧((pre++y::ys).length:Int)≤((pre++y::ys).length:Int))=True:=by
        rw [eq_iff_iff,iff_true]; simp only [cm,fk]; omega
       have ht:((pre++y::ys).drop (0:Int).toNat).take ((pre.length:Int).toNat - (0:Int).toNat)=pre:=by simp
       have hd:da 2000 pre (fun (x0:bI×Unit)=>((dh 2000 x0.1 y).bind fun b=>some [.v .bool b]).bind (j7 .bool))=some (lz y pre):=
        ar9 pre (by omega) _ (fun t=>zc t y) (fun t ht=>by
         unfold dh zc
         have:=hp t ht
         simp only [Jv,Cr,asa t.2.1 y.2.1 (by omega),ar]
         cases t.1==y.1<;>cases t.2.2.2.1==y.2.2.2.1<;>cases ft t.2.1 y.2.1<;>rfl)
       simp only [aB,cond_false,hc,if_true,ht,hd,ar]
       cases h2:lz y pre with
       | true=>
         simp only [aK,cond_true]
         exact ⟨(fun e=>by cases e),fun _=>⟨_,rfl⟩⟩
       | false=>
         simp only [aB,cond_false]
         have hgo:=ih (pre++[y]) m (by simpa using hm) (by rw [←bx]; exact hb) (by
          intro t ht
          rcases dD.1 ht with h | h
          ·exact hp t h
          ·rw [gX.1 h]; exact hy.1)
         rw [←bx] at hgo
         exact hgo
theorem v70 (o:aI):ey 2000 o=some (oE o):=by
 obtain ⟨nm,l,u⟩:=o
 unfold ey
 simp only [J5,CP]
 unfold iR oE
 simp only [yB,yx,yy,yz,yA,yC,s4,(VK nm).1,ar]
 cases oC nm with
 | false=>rfl
 | true=>
   cases (l.length:Int)==0 with
   | true=>rfl
   | false=>
     cases h:decide ((l.length:Int) > 120) with
     | true=>rfl
     | false=>
       have h2:¬ (l.length:Int) > 120:=of_decide_eq_false h
       have hk:=aej (R:=Int×Int) (fun a b=>some (a,b)) (some (-1,0)) nm l [] 2000 (by omega) (by simp; omega) (by simp)
       simp only [cO,dC] at hk
       have z:((0:Nat):Int)=0:=rfl
       rw [z] at hk
       simp only [eK,aB,cond_false]
       by_cases he:iD [] l=0
       ·rw [hk.1 he,he]; rfl
       ·obtain ⟨i,h3⟩:=hk.2 he
        rw [h3]; rfl
theorem aeD {R:Type} (k0:Int→Int→Option R) (K:aI→Int→Option R) (o:aI) (y:bI) (L:List bI) (hL:o.2.1=L) (i:Nat) (hi:i < L.length) (hy:L.getD i g0=y):
  ∀ (ys pre zs:List bI) (m:Nat),L=pre++ys++zs→(pre++ys).length=i→ys.length < m→L.length≤120→(∀ t∈ys,t.2.1.length≤2)→y.2.1.length≤2→
    (lz y ys=false→qA (bM 2000) k0 (fun a b _=>K a b) m o (i:Int) (pre.length:Int)=K o (i:Int))∧
    (lz y ys=true→qA (bM 2000) k0 (fun a b _=>K a b) m o (i:Int) (pre.length:Int)=k0 (i:Int) 5):=by
 intro ys
 induction ys with
 | nil=>
   intro pre zs m hl hlen hm hb hp hy2
   cases m with
   | zero=>omega
   | succ m=>
     have d:decide ((pre.length:Int) < (i:Int))=false:=decide_eq_false (by simp at hlen; omega)
     unfold qA
     simp only [qf,qc,qk,qi,qd,qh,qj,ql,qm,qe,qg,ou,d,aB,lz,uh]
     exact ⟨fun _=>trivial,fun h=>by cases h⟩
 | cons x ys ih=>
   intro pre zs m hl hlen hm hb hp hy2
   cases m with
   | zero=>omega
   | succ m=>
     have hpi:pre.length < i:=by simp at hlen; omega
     have d:decide ((pre.length:Int) < (i:Int))=true:=decide_eq_true (by omega)
     have c1:(0≤(i:Int)∧(i:Int) < (L.length:Int))=True:=by rw [eq_iff_iff,iff_true]; omega
     have c2:(0≤(pre.length:Int)∧(pre.length:Int) < (L.length:Int))=True:=by rw [eq_iff_iff,iff_true]; omega
     have g1:L.getD (gL (i:Int)) g0=y:=hy
     have g2:L.getD (gL (pre.length:Int)) g0=x:=by rw [hl,bO]; exact dt _ _ _ _
     have hw:IntKind.i64.wrap ((pre.length:Int)+1)=((pre++[x]).length:Int):=by
      rw [fO (by omega)]; simp
     have hgo:=ih (pre++[x]) zs m (by rw [hl]; simp) (by rw [←bx]; exact hlen) (by simpa using hm) hb (fun t ht=>hp t (fm _ ht)) hy2
     have hs:bM 2000 y.2.1 x.2.1=some (ft x.2.1 y.2.1):=by
      rw [v28 y.2.1 x.2.1 (by omega),akU]
     have hx:lz y (x::ys)=(zc x y || lz y ys):=rfl
     have e1:(y.1==x.1)=(x.1==y.1):=by rw [tZ]; simp only [beq_iff_eq]; exact eq_comm
     have e2:(y.2.2.2.1==x.2.2.2.1)=(x.2.2.2.1==y.2.2.2.1):=by rw [tZ]; simp only [beq_iff_eq]; exact eq_comm
     unfold qA
     simp only [qf,qc,qk,qi,qd,qh,qj,ql,qm,qe,qg,ou,d,aK,hL,c1,c2,if_true,g1,g2,e1,e2,hs,ar,hw,hx,zc]
     cases x.1==y.1 with
     | false=>simp only [aB,jP,ny]; exact hgo
     | true=>
       cases x.2.2.2.1==y.2.2.2.1 with
       | false=>simp only [aB,aK,fV,jP,ny]; exact hgo
       | true=>
         cases ft x.2.1 y.2.1 with
         | false=>simp only [aB,aK,fV,ny]; exact hgo
         | true=>
           simp only [aK,fV,ua]
           exact ⟨(fun h=>by cases h),fun _=>trivial⟩
theorem aeC {R:Type} (k0:Int→Int→Option R) (K:Option R) (nm:List UInt8):
  ∀ (ys pre:List bI) (m:Nat),ys.length < m→(pre++ys).length≤120→(∀ t∈pre,t.2.1.length≤2)→
    (iD pre ys=0→ox 2000 (bM 2000) (cK 2000) k0 (fun _ _=>K) m (nm,(pre++ys,())) (pre.length:Int)=K)∧
    (iD pre ys≠0→∃ i,ox 2000 (bM 2000) (cK 2000) k0 (fun _ _=>K) m (nm,(pre++ys,())) (pre.length:Int)=k0 i (iD pre ys)):=by
 intro ys
 induction ys with
 | nil=>
   intro pre m hm hb hp
   cases m with
   | zero=>omega
   | succ m=>
     unfold ox
     simp only [qf,qc,qk,qi,qd,qh,qj,ql,qm,qe,qg,ou,eC,aB,iD]
     exact ⟨fun _=>trivial,fun h=>absurd rfl h⟩
 | cons y ys ih=>
   intro pre m hm hb hp
   cases m with
   | zero=>omega
   | succ m=>
     have hwr:=eE pre ys y (by unfold bF; omega)
     unfold ox
     simp only [qf,qc,qk,qi,qd,qh,qj,ql,qm,qe,qg,ou,ew,dH,dt,if_true,aK,v91,ar,iD]
     cases h:gE y != 0 with
     | true=>
       have h':gE y≠0:=by simpa using h
       simp only [aK,cond_true]
       exact ⟨fun e=>absurd e h',fun _=>⟨_,rfl⟩⟩
     | false=>
       have h':gE y=0:=by simpa using h
       have hy:=kW h'
       have hbp:pre.length < 120:=by simp at hb; omega
       have hin:=aeD k0 (fun x0 x1=>ox 2000 (bM 2000) (cK 2000) k0 (fun _ _=>K) m x0 (IntKind.i64.wrap (x1+(1:Int)))) (nm,(pre++y::ys,())) y (pre++y::ys) rfl pre.length (by simp) (by simp) pre [] (y::ys) 2000 (by simp) (by simp) (by omega) hb hp hy.1
       simp only [dC] at hin
       have z:((0:Nat):Int)=0:=rfl
       rw [z] at hin
       simp only [aB,cond_false]
       cases h2:lz y pre with
       | true=>
         rw [hin.2 h2]
         simp only [cond_true]
         exact ⟨(fun e=>by cases e),fun _=>⟨_,rfl⟩⟩
       | false=>
         rw [hin.1 h2,hwr]
         simp only [cond_false]
         have hgo:=ih (pre++[y]) m (by simpa using hm) (by rw [←bx]; exact hb) (by
          intro t ht
          rcases dD.1 ht with h | h
          ·exact hp t h
          ·rw [gX.1 h]; exact hy.1)
         rw [←bx] at hgo
         exact hgo
theorem v35 (o:aI):bK 2000 o=some (oE o):=by
 obtain ⟨nm,l,u⟩:=o
 unfold bK
 simp only [JQ,CJ]
 unfold dM oE
 simp only [qf,qc,qk,qi,qd,qh,qj,ql,qm,qe,qg,ou,(VK nm).2,ar]
 cases oC nm with
 | false=>rfl
 | true=>
   cases (l.length:Int)==0 with
   | true=>rfl
   | false=>
     cases h:decide ((l.length:Int) > 120) with
     | true=>rfl
     | false=>
       have h2:¬ (l.length:Int) > 120:=of_decide_eq_false h
       have hk:=aeC (R:=Int×Int) (fun a b=>some (a,b)) (some (-1,0)) nm l [] 2000 (by omega) (by simp; omega) (by simp)
       simp only [cO,dC] at hk
       have z:((0:Nat):Int)=0:=rfl
       rw [z] at hk
       simp only [eK,aB,cond_false]
       by_cases he:iD [] l=0
       ·rw [hk.1 he,he]; rfl
       ·obtain ⟨i,h3⟩:=hk.2 he
        rw [h3]; rfl
theorem ass (l:List bT):∃ b,dp 2000 l 6=some b:=by
 unfold dp
 cases e:decide ((l.length:Int) > 6) with
 | true=>exact ⟨false,by simp only [sT,sP,sQ,sR,sS,sU,qb,e,aK]⟩
 | false=>
   have hl:l.length≤6:=by
    have:=of_decide_eq_false e
    omega
   obtain ⟨b,h⟩:=aez (R:=Bool) some (fun _ _=>some true) (fun _ _=>rfl) l [] 2000 (by omega) (by unfold bF; simp; omega)
   refine ⟨b,?_⟩
   simp only [sT,sP,sQ,sR,sS,sU,qb,e,aB]
   simpa using h
theorem aey {R:Type} (k0:Bool→Option R) (K:Int→Option R) (nm:List UInt8):
  ∀ (ys pre:List bI) (m:Nat) (n:Int),ys.length < m→(pre++ys).length≤bF→
    (∃ q,qz (dp 2000) k0 (fun _ n _=>K n) m (nm,(pre++ys,())) n (pre.length:Int)=K q)∨qz (dp 2000) k0 (fun _ n _=>K n) m (nm,(pre++ys,())) n (pre.length:Int)=k0 false:=by
 intro ys
 induction ys with
 | nil=>
   intro pre m n hm hb
   cases m with
   | zero=>omega
   | succ m=>
     left; refine ⟨n,?_⟩
     unfold qz
     simp only [xk,xf,xg,xi,xj,xl,sB,eC,aB]
 | cons y ys ih=>
   intro pre m n hm hb
   cases m with
   | zero=>omega
   | succ m=>
     have hwr:=eE pre ys y hb
     obtain ⟨b,h⟩:=ass y.2.1
     have hgo:=ih (pre++[y]) m (IntKind.i64.wrap (n+(y.1.length:Int))) (by simpa using hm) (by rw [←bx]; exact hb)
     rw [←bx] at hgo
     unfold qz
     simp only [xk,xf,xg,xi,xj,xl,sB,ew,dH,dt,if_true,aK,hwr,h,ar]
     cases b with
     | false=>right; simp only [gn,aK]
     | true=>simp only [eK,aB]; exact hgo
theorem v34 (o:aI):∃ b,fJ 2000 o=some b:=by
 obtain ⟨nm,s,u⟩:=o
 unfold fJ
 simp only [xk,xf,xg,xi,xj,xl,sB]
 cases decide ((nm.length:Int) > 60) with
 | true=>exact ⟨false,rfl⟩
 | false=>
   cases h:decide ((s.length:Int) > 130) with
   | true=>exact ⟨false,rfl⟩
   | false=>
     have h2:=of_decide_eq_false h
     have:=aey (R:=Bool) some (fun n=>some (decide (n≤(1500:Int)))) nm s [] 2000 0 (by omega) (by unfold bF; simp; omega)
     simp only [cO,dC] at this
     simp only [aB]
     rcases this with ⟨q,h⟩ | h
     ·exact ⟨_,h⟩
     ·exact ⟨_,h⟩
theorem Wr:∀ (ys pre:List bI),iD pre ys=0→∀ y∈ys,gE y=0
 | [],_,_,y,hy=>absurd hy (by simp)
 | x::xs,pre,h,y,hy=>by
   unfold iD at h
   cases h1:gE x != 0 with
   | true=>
     rw [h1,cond_true] at h; rw [h] at h1; cases h1
   | false=>
     rw [h1,cond_false] at h
     have hx:gE x=0:=by simpa using h1
     cases h2:lz x pre with
     | true=>rw [h2,cond_true] at h; cases h
     | false=>
       rw [h2,cond_false] at h
       rcases cS.1 hy with rfl | hy
       ·exact hx
       ·exact Wr xs _ h y hy
theorem qI {o:aI} (h:oE o=0):(∀ y∈o.2.1,gE y=0)∧o.2.1.length≤120∧o.2.1≠[]:=by
 unfold oE at h
 cases h1:oC o.1 with
 | false=>rw [h1] at h; cases h
 | true=>
   rw [h1] at h
   cases h2:(o.2.1.length:Int)==0 with
   | true=>rw [h2] at h; cases h
   | false=>
     rw [h2] at h
     cases h3:decide ((o.2.1.length:Int) > 120) with
     | true=>rw [h3] at h; cases h
     | false=>
       rw [h3] at h
       have:=of_decide_eq_false h3
       refine ⟨Wr _ _ h,by omega,fun e=>?_⟩
       rw [e] at h2; cases h2
def sg (o:aI) (i:Int):bI:=o.2.1.getD i.toNat g0
theorem nu {o:aI} (h:oE o=0) {i:Int} (hi:0≤i∧i < (o.2.1.length:Int)):gE (sg o i)=0:=by
 refine (qI h).1 _ ?_
 unfold sg
 rw [List.getD_eq_getElem?_getD,List.getElem?_eq_getElem (by omega)]
 exact List.getElem_mem _
def cQ (o:aI) (i:Int):Bool:=!decide (i < 0)&&!decide (i≥(o.2.1.length:Int))
theorem iY {o:aI} {i:Int}:cQ o i=true↔0≤i∧i < (o.2.1.length:Int):=by
 unfold cQ
 simp only [au,du,decide_eq_false_iff_not]; omega
def gB (o:aI):List Int→List UInt8
 | []=> []
 | i::r=>(sg o i).1++gB o r
def tS (o:aI):List Int→List bT
 | []=> []
 | i::r=>(sg o i).2.1++tS o r
def qL (o:aI):Int→List Int→List Int
 | _,[]=> []
 | at_,i::r=>kd (sg o i).2.1.length at_++qL o (at_+((sg o i).1.length:Int)) r
theorem ar3 {o:aI} (h:oE o=0):∀ {l:List Int},l.all (cQ o)=true→(gB o l).length≤4 * l.length
 | [],_=>by simp [gB]
 | i::r,hl=>by
   simp only [dJ,au] at hl
   have h1:=(kW (nu h (iY.1 hl.1))).2.2.2
   have h2:=ar3 h hl.2
   simp only [gB,cm,fk]; omega
theorem akV {o:aI} (h:oE o=0):∀ {l:List Int},l.all (cQ o)=true→(tS o l).length≤2 * l.length
 | [],_=>by simp [tS]
 | i::r,hl=>by
   simp only [dJ,au] at hl
   have h1:=(kW (nu h (iY.1 hl.1))).1
   have h2:=akV h hl.2
   simp only [tS,cm,fk]; omega
theorem aeJ {R:Type} (k0:List UInt8→Bool→Option R) (K:List UInt8→Option R) (o:aI) (ho:oE o=0):
  ∀ (ys pre:List Int) (m:Nat) (acc:List UInt8),ys.length < m→(pre++ys).length≤1000→acc.length+4 * ys.length≤100000→
    tu (cF 2000) k0 (fun _ a _ _ _=>K a) m o acc (pre++ys) ((pre++ys).length:Int) (pre.length:Int)=cond (ys.all (cQ o)) (K (acc++gB o ys)) (k0 [] false):=by
 intro ys
 induction ys with
 | nil=>
   intro pre m acc hm hb ha
   cases m with
   | zero=>omega
   | succ m=>
     unfold tu
     simp only [xT,xP,xQ,xR,xS,xU,sN,eC,aB,nA,cond_true,gB,jf acc]
 | cons y ys ih=>
   intro pre m acc hm hb ha
   cases m with
   | zero=>omega
   | succ m=>
     have hwr:=eE pre ys y (by unfold bF; omega)
     unfold tu
     simp only [xT,xP,xQ,xR,xS,xU,sN,ew,dH,dt,if_true,aK,hwr,dJ]
     cases h1:decide (y < 0) with
     | true=>simp only [aK,cQ,h1,eK,jP,cond_false]
     | false=>
       cases h2:decide (y≥(o.2.1.length:Int)) with
       | true=>simp only [aK,aB,cQ,h1,h2,eK,gn,LI,jP,cond_false]
       | false=>
         have hix:cQ o y=true:=by unfold cQ; rw [h1,h2]; rfl
         have hy:=iY.1 hix
         have hg:=kW (nu ho hy)
         have hin:(0≤y∧y < (o.2.1.length:Int))=True:=by rw [eq_iff_iff,iff_true]; exact hy
         have hs:o.2.1.getD y.toNat g0=sg o y:=rfl
         have hw:cF 2000 acc (sg o y).1=some (acc++(sg o y).1):=by
          unfold cF
          rw [if_pos (by simp only [fk] at ha; omega)]
         simp only [aB,hin,if_true,hs,hw,ar,hix,fV,gB]
         have:=ih (pre++[y]) m (acc++(sg o y).1) (by simpa using hm) (by rw [←bx]; exact hb) (by simp only [cm,fk] at ha ⊢; omega)
         rw [←bx,bO] at this
         exact this
theorem v57 (o:aI) (l:List Int) (ho:oE o=0) (hl:l.length≤1000):ig 2000 o l=some (cond (l.all (cQ o)) (gB o l,true) ([],false)):=by
 unfold ig
 have:=aeJ (R:=List UInt8×Bool) (fun a b=>some (a,b)) (fun x=>(ee 2000 x).bind fun r=>some (r,true)) o ho l [] 2000 [] (by omega) (by simpa using hl) (by simp; omega)
 simp only [cO,dC] at this
 simp only [xT,xP,xQ,xR,xS,xU,sN]
 refine dB this ?_
 cases l.all (cQ o)<;>rfl
def lE (o:aI) (l:List Int):Int:=cond (oE o != 0) (oE o) (cond (decide ((l.length:Int) > 16)) 3 (cond (l.all (cQ o)) 0 6))
theorem v55 (o:aI) (l:List Int) (hl:l.length≤40):fK 2000 o l=some (lE o l):=by
 unfold fK lE
 simp only [JW,CN,v70,ar]
 cases h:oE o != 0 with
 | true=>rfl
 | false=>
   have ho:oE o=0:=by simpa using h
   cases decide ((l.length:Int) > 16) with
   | true=>rfl
   | false=>
     simp only [aB,cond_false,v57 o l ho (by omega),ar]
     cases l.all (cQ o)<;>rfl
theorem ad9 {o:aI} {l:List Int} (h:lE o l=0):oE o=0∧l.length≤16∧l.all (cQ o)=true:=by
 unfold lE at h
 cases h1:oE o != 0 with
 | true=>rw [h1,cond_true] at h; rw [h] at h1; cases h1
 | false=>
   have ho:oE o=0:=by simpa using h1
   rw [h1,cond_false] at h
   cases h2:decide ((l.length:Int) > 16) with
   | true=>rw [h2,cond_true] at h; cases h
   | false=>
     rw [h2,cond_false] at h
     have:=of_decide_eq_false h2
     cases h3:l.all (cQ o) with
     | false=>rw [h3] at h; cases h
     | true=>exact ⟨ho,by omega,rfl⟩
theorem aeQ {R:Type} (K:aI→List Int→Int→Int→List Int→Int→Int→Option R) (o:aI) (a:Int) (i:Int) (L:List Int) (n j:Int):
  ∀ (c d m:Nat) (acc:List Int),c < m→c+d≤1000→acc.length+c≤100000→
    ti (fun y0 y1 y2 y3 y4 y5 y6 _ _=>K y0 y1 y2 y3 y4 y5 y6) m o acc a i L n j ((d+c:Nat):Int) (d:Int)=K o (acc++kd c a) a i L n j:=by
 intro c
 induction c with
 | zero=>
   intro d m acc hm hb ha
   cases m with
   | zero=>omega
   | succ m=>
     have e:decide ((d:Int) < ((d+0:Nat):Int))=false:=decide_eq_false (by omega)
     unfold ti
     simp only [pP,pI,pL,pJ,pR,pS,pT,pU,pK,pM,pN,pO,pQ,g24,e,aB,List.replicate_zero,jf]
 | succ c ih=>
   intro d m acc hm hb ha
   cases m with
   | zero=>omega
   | succ m=>
     have e:decide ((d:Int) < ((d+(c+1):Nat):Int))=true:=decide_eq_true (by omega)
     have hl:(acc.length+[a].length≤17592186044416)=True:=by rw [eq_iff_iff,iff_true]; simp only [iJ]; omega
     have hw:IntKind.i64.wrap ((d:Int)+1)=((d+1:Nat):Int):=by rw [fO (by omega)]; simp
     unfold ti
     simp only [pP,pI,pL,pJ,pR,pS,pT,pU,pK,pM,pN,pO,pQ,g24,e,aK,hl,if_true,hw]
     have:=ih (d+1) m (acc++[a]) (by omega) (by omega) (by simp; omega)
     rw [show d+1+c=d+(c+1) by omega,bO] at this
     rw [this]
     rfl
theorem aeR {R:Type} (K:List Int→Option R) (o:aI) (ho:oE o=0):
  ∀ (ys pre:List Int) (m:Nat) (acc:List Int) (a:Int),ys.all (cQ o)=true→ys.length < m→(pre++ys).length≤1000→acc.length+4 * ys.length≤100000→0≤a→a+4 * ys.length≤100000→
    qx 2000 (fun _ a _ _ _ _=>K a) m o acc a (pre++ys) ((pre++ys).length:Int) (pre.length:Int)=K (acc++qL o a ys):=by
 intro ys
 induction ys with
 | nil=>
   intro pre m acc a hi hm hb ha h0 h1
   cases m with
   | zero=>omega
   | succ m=>
     unfold qx
     simp only [pP,pI,pL,pJ,pR,pS,pT,pU,pK,pM,pN,pO,pQ,g24,eC,aB,qL,jf acc]
 | cons y ys ih=>
   intro pre m acc a hi hm hb ha h0 h1
   cases m with
   | zero=>omega
   | succ m=>
     have hwr:=eE pre ys y (by unfold bF; omega)
     simp only [dJ,au] at hi
     have hy:=iY.1 hi.1
     have hg:=kW (nu ho hy)
     have hin:(0≤y∧y < (o.2.1.length:Int))=True:=by rw [eq_iff_iff,iff_true]; exact hy
     have hs:o.2.1.getD y.toNat g0=sg o y:=rfl
     simp only [fk] at ha h1
     have hw:IntKind.i64.wrap (a+((sg o y).1.length:Int))=a+((sg o y).1.length:Int):=fO (by omega)
     have hI:=aeQ (R:=R) (fun y0 y1 y2 y3 y4 y5 y6=>if 0≤y3∧y3 < (y0.2.1.length:Int) then qx 2000 (fun _ a _ _ _ _=>K a) m y0 y1 (IntKind.i64.wrap (y2+(((y0.2.1.getD y3.toNat g0).1).length:Int))) y4 y5 (IntKind.i64.wrap (y6+(1:Int))) else none) o a y (pre++y::ys) ((pre++y::ys).length:Int) (pre.length:Int) (sg o y).2.1.length 0 2000 acc (by omega) (by omega) (by omega)
     simp only [jQ] at hI
     have z:((0:Nat):Int)=0:=rfl
     rw [z] at hI
     unfold qx
     simp only [pP,pI,pL,pJ,pR,pS,pT,pU,pK,pM,pN,pO,pQ,g24,ew,dH,dt,if_true,aK,hin,hs]
     refine dB hI ?_
     simp only [hin,if_true,hs,hw,hwr,qL]
     have:=ih (pre++[y]) m (acc++kd (sg o y).2.1.length a) (a+((sg o y).1.length:Int)) hi.2 (by simpa using hm) (by rw [←bx]; exact hb) (by simp only [cm,LW]; omega) (by omega) (by omega)
     rw [←bx,bO] at this
     exact this
theorem v24 (o:aI) (l:List Int) (hl:l.length≤40):gN 2000 o l=some (cond (lE o l != 0) ([],lE o l) (qL o 0 l,0)):=by
 unfold gN
 simp only [pP,pI,pL,pJ,pR,pS,pT,pU,pK,pM,pN,pO,pQ,g24,v55 o l hl,ar]
 cases h:lE o l != 0 with
 | true=>rfl
 | false=>
   obtain ⟨ho,h16,hi⟩:=ad9 (by simpa using h)
   have:=aeR (R:=List Int×Int) (fun a=>some (a,0)) o ho l [] 2000 [] 0 hi (by omega) (by simp; omega) (by simp; omega) (by omega) (by omega)
   simp only [cO,dC] at this
   exact this
theorem aeu {R:Type} (k0:Bool→Option R) (K:Option R):
  ∀ (ys pre zs pre2:List Int) (m:Nat),ys.length < m→(pre++ys).length≤bF→pre.length=pre2.length→ys.length=zs.length→
    tg k0 (fun _ _ _ _=>K) m (pre++ys) (pre2++zs) ((pre++ys).length:Int) (pre.length:Int)=ad (ys==zs) K (k0 false):=by
 intro ys
 induction ys with
 | nil=>
   intro pre zs pre2 m hm hb hp hz
   have:zs=[]:=kK.1 hz.symm
   subst this
   cases m with
   | zero=>omega
   | succ m=>
     unfold tg
     simp only [wQ,wM,wN,wO,wP,wR,g15,eC,aB]
     rfl
 | cons y ys ih=>
   intro pre zs pre2 m hm hb hp hz
   obtain ⟨z,zs,rfl⟩:∃ z zs',zs=z::zs':=by
    cases zs with
    | nil=>simp at hz
    | cons z zs=>exact ⟨z,zs,rfl⟩
   cases m with
   | zero=>omega
   | succ m=>
     have hwr:=eE pre ys y hb
     have i2:(0≤(pre.length:Int)∧(pre.length:Int) < ((pre2++z::zs).length:Int))=True:=by rw [hp]; exact dH _ _ _
     have a2:(pre2++z::zs).getD (gL (pre.length:Int)) (0:Int)=z:=by rw [hp]; exact dt _ _ _ _
     have e:((y::ys)==(z::zs))=(y==z&&ys==zs):=rfl
     unfold tg
     simp only [wQ,wM,wN,wO,wP,wR,g15,ew,dH,dt,if_true,aK,hwr,i2,a2,e]
     cases h:y==z with
     | false=>
       have:(y != z)=true:=by unfold bne; rw [h]; rfl
       simp only [this,aK,jP,aB]
     | true=>
       have:(y != z)=false:=by unfold bne; rw [h]; rfl
       simp only [this,aB,fV]
       rw [bx pre ys y,bx pre2 zs z]
       exact ih (pre++[y]) zs (pre2++[z]) m (by simpa using hm) (by rw [←bx]; exact hb) (by simp [hp]) (by simpa using hz)
theorem v15 (a b:List Int) (h:a.length < 2000):gM 2000 a b=some (a==b):=by
 unfold gM
 simp only [wQ,wM,wN,wO,wP,wR,g15]
 by_cases hl:a.length=b.length
 ·have e:((a.length:Int) != (b.length:Int))=false:=by simp [hl]
  have:=aeu (R:=Bool) some (some true) a [] b [] 2000 h (by unfold bF; simp; omega) rfl hl
  simp only [cO,dC] at this
  simp only [e,aB]
  refine dB this ?_
  cases a==b<;>rfl
 ·have e:((a.length:Int) != (b.length:Int))=true:=bne_iff_ne.2 (by omega)
  simp only [e,aK]
  have:(a==b)=false:=beq_eq_false_iff_ne.2 fun e=>hl (congrArg kJ e)
  rw [this]
theorem agc {o:aI} (h:oE o=0):∀ {l:List Int} {a:Int},l.all (cQ o)=true→(qL o a l).length=(tS o l).length
 | [],_,_=>rfl
 | i::r,a,hl=>by
   simp only [dJ,au] at hl
   simp only [qL,tS,cm,LW,agc h hl.2]
def o5:List bT→Bool
 | []=>false
 | s::_=>gI s
def en (l:List bT):Bool:=match l.getLast? with | none=>false | some s=>gI s
def si (w:Int) (bf af:List bT):Bool:=cond (w==0) true (cond (w==1) (o5 af) (cond (w==2) (o5 af&&(bf.length:Int)==0) (cond (w==3) (o5 af&&en bf) (cond (w==4) (!o5 af) false))))
def gT (o:aI) (i:Int) (bf af:List bT):Bool:=cQ o i&&si (sg o i).2.2.2.1 bf af
theorem X0 (l:List bT) (s:bT):en (l++[s])=gI s:=by unfold en; simp
theorem atc (w:Int) (bf af af2:List bT) (h:o5 af=o5 af2):si w bf af=si w bf af2:=by unfold si; rw [h]
theorem v60 (o:aI) (i:Int) (bf af:List bT) (hb:bf.length≤bF):bB 2000 o i bf af=some (gT o i bf af):=by
 unfold bB gT cQ
 simp only [JY,JZ,J0,J1,J2,sO,v87,ar]
 cases h1:decide (i < 0) with
 | true=>rfl
 | false=>
   cases h2:decide (i≥(o.2.1.length:Int)) with
   | true=>rfl
   | false=>
     have e1:=of_decide_eq_false h1
     have e2:=of_decide_eq_false h2
     have hin:(0≤i∧i < (o.2.1.length:Int))=True:=by rw [eq_iff_iff,iff_true]; omega
     have hs:o.2.1.getD i.toNat g0=sg o i:=rfl
     have key:∀ b:Bool,o5 af=b→(ad ((sg o i).2.2.2.1==(0:Int)) (some true) (ad ((sg o i).2.2.2.1==(1:Int)) (some b) (ad ((sg o i).2.2.2.1==(2:Int)) (ad b (some ((bf.length:Int)==(0:Int))) (some false)) (ad ((sg o i).2.2.2.1==(3:Int)) (ad b (ad (decide ((bf.length:Int) > (0:Int)))
       (if 0≤IntKind.i64.wrap ((bf.length:Int) - 1)∧IntKind.i64.wrap ((bf.length:Int) - 1) < (bf.length:Int) then some (gI (bf.getD (IntKind.i64.wrap ((bf.length:Int) - 1)).toNat s0)) else none) (some false)) (some false)) (ad ((sg o i).2.2.2.1==(4:Int)) (some (!b)) (some false))))))=some (!false&&!false&&si (sg o i).2.2.2.1 bf af):=by
      intro b hbb
      have hl:(ad (decide ((bf.length:Int) > (0:Int))) (if 0≤IntKind.i64.wrap ((bf.length:Int) - 1)∧IntKind.i64.wrap ((bf.length:Int) - 1) < (bf.length:Int) then some (gI (bf.getD (IntKind.i64.wrap ((bf.length:Int) - 1)).toNat s0)) else none) (some false))=some (en bf):=by
       rcases LR bf with h | ⟨l,s,h⟩
       ·subst h; rfl
       ·rw [LO] at h
        subst h
        have hlen:l.length < bF:=by simp at hb; omega
        have w:IntKind.i64.wrap (((l++[s]).length:Int) - 1)=(l.length:Int):=by
         have:((l++[s]).length:Int) - 1=(l.length:Int):=by simp
         rw [this]; exact fO (by unfold bF at hlen; omega)
        have d:decide (((l++[s]).length:Int) > 0)=true:=decide_eq_true (by simp only [cm,iJ]; omega)
        have c:(0≤(l.length:Int)∧(l.length:Int) < ((l++[s]).length:Int))=True:=by rw [eq_iff_iff,iff_true]; simp only [cm,iJ]; omega
        rw [w,d,X0]
        simp only [c,if_true,aK]
        simp
      rw [hl]
      unfold si
      rw [hbb]
      cases (sg o i).2.2.2.1==(0:Int)<;>cases (sg o i).2.2.2.1==(1:Int)<;>cases (sg o i).2.2.2.1==(2:Int)<;>cases (sg o i).2.2.2.1==(3:Int)<;>cases (sg o i).2.2.2.1==(4:Int)<;>cases b<;>rfl
     simp only [aB,hin,if_true,hs]
     cases af with
     | nil=>
       have d:decide ((([]:List bT).length:Int) > 0)=false:=rfl
       simp only [d,aB]
       exact key false rfl
     | cons s af=>
       have d:decide (((s::af).length:Int) > 0)=true:=decide_eq_true (by simp only [fk]; omega)
       have c:(0≤(0:Int)∧(0:Int) < ((s::af).length:Int))=True:=by rw [eq_iff_iff,iff_true]; simp only [fk]; omega
       simp only [d,aK,c,if_true]
       exact key (gI s) rfl
def fb (o:aI) (i:Int):List bT:=cond (decide (i < 0)) [] (sg o i).2.1
abbrev Nd:Type:=Int×(Int×(Int×Unit))
abbrev jT:Type:=aI×(List UInt8×(List (Nd×Int)×Unit))
theorem WY (x:jT) (i:Int) (h:i < (x.1.2.1.length:Int)):bC 2000 x i=some (fb x.1 i):=by
 unfold bC fb
 simp only [J6,sX]
 cases h1:decide (i < 0) with
 | true=>rfl
 | false=>
   have e1:=of_decide_eq_false h1
   have hin:(0≤i∧i < (x.1.2.1.length:Int))=True:=by rw [eq_iff_iff,iff_true]; omega
   simp only [aB,hin,if_true]
   rfl
theorem Wy {o:aI} (ho:oE o=0) (i:Int) (h:i < (o.2.1.length:Int)):(fb o i).length≤2:=by
 unfold fb
 cases h1:decide (i < 0) with
 | true=>simp
 | false=>exact (kW (nu ho ⟨by have:=of_decide_eq_false h1; omega,h⟩)).1
def pf (s t:List UInt8):Bool:=decide ((s.length:Int)≥(t.length:Int))&&(s.take t.length==t)
theorem v54 (s t:List UInt8):aU 2000 s t=some (pf s t):=by
 unfold aU
 simp only [JV,sM]
 unfold fe pf
 simp only [J8,sY]
 cases h:decide ((s.length:Int)≥(t.length:Int)) with
 | false=>rfl
 | true=>
   have:=of_decide_eq_true h
   have c:(0≤(0:Int)∧(0:Int)≤(t.length:Int)∧(t.length:Int)≤(s.length:Int))=True:=by rw [eq_iff_iff,iff_true]; omega
   simp only [aK,c,if_true,ar,fV]
   simp
theorem Lg {s t:List UInt8}:pf s t=true↔∃ r,s=t++r:=by
 unfold pf
 rw [au,decide_eq_true_iff,beq_iff_eq]
 constructor
 ·rintro ⟨_,h⟩
  exact ⟨s.drop t.length,by rw [←h]; conv=>lhs; rw [←List.take_append_drop t.length s]
                            simp [h]⟩
 ·rintro ⟨r,rfl⟩
  simp; omega
def jG (o:aI) (w:List UInt8) (n:Nd) (s:bI):Bool:=pf (w.drop n.2.2.1.toNat) s.1&&(decide (n.2.1 < 0) || gT o n.2.1 (fb o n.1) s.2.1)
def oN (n:Nd) (i:Int) (s:bI):Nd:=(n.2.1,(i,(n.2.2.1+(s.1.length:Int),())))
def dY (o:aI) (w:List UInt8) (n:Nd):List bI→Int→List Nd
 | [],_=> []
 | s::r,i=>cond (jG o w n s) (oN n i s::dY o w n r (i+1)) (dY o w n r (i+1))
structure Ok (o:aI) (w:List UInt8) (n:Nd):Prop where
 b:n.1 < (o.2.1.length:Int)
 s:n.2.1 < (o.2.1.length:Int)
 e0:0≤n.2.2.1
 e1:n.2.2.1≤(w.length:Int)
theorem aeP {R:Type} (K:List Nd→Option R) (x:jT) (ho:oE x.1=0) (hw:x.2.1.length≤100) (n:Nd) (hn:Ok x.1 x.2.1 n):
  ∀ (ys pre:List bI) (m:Nat) (acc:List Nd),ys.length < m→(pre++ys).length≤120→acc.length≤pre.length→(∀ s∈ys,s.1.length≤4)→
    qC (aU 2000) (bB 2000) (bC 2000) (fun _ _ a _ _ _=>K a) m x n acc (pre++ys) ((pre++ys).length:Int) (pre.length:Int)=K (acc++dY x.1 x.2.1 n ys (pre.length:Int)):=by
 intro ys
 induction ys with
 | nil=>
   intro pre m acc hm hb ha hy
   cases m with
   | zero=>omega
   | succ m=>
     unfold qC
     simp only [yl,yh,yi,yj,yk,ym,ov,eC,aB,dY,jf acc]
 | cons y ys ih=>
   intro pre m acc hm hb ha hy
   cases m with
   | zero=>omega
   | succ m=>
     have hwr:=eE pre ys y (by unfold bF; omega)
     have hl:((pre++[y]).length:Int)=(pre.length:Int)+1:=by simp
     have hbp:pre.length < 120:=by simp at hb; omega
     have hy4:=hy y (by simp)
     have hgo:∀ a:List Nd,a.length≤pre.length+1→qC (aU 2000) (bB 2000) (bC 2000) (fun _ _ a _ _ _=>K a) m x n a (pre++y::ys) ((pre++y::ys).length:Int) ((pre++[y]).length:Int)=K (a++dY x.1 x.2.1 n ys ((pre.length:Int)+1)):=by
      intro a h
      have:=ih (pre++[y]) m a (by simpa using hm) (by rw [←bx]; exact hb) (by simpa using h) (fun s hs=>hy s (fm _ hs))
      rw [←bx,hl] at this
      rw [hl]; exact this
     have he0:=hn.e0; have he1:=hn.e1
     have c:(0≤n.2.2.1∧n.2.2.1≤(x.2.1.length:Int)∧(x.2.1.length:Int)≤(x.2.1.length:Int))=True:=by rw [eq_iff_iff,iff_true]; omega
     have ht:(x.2.1.drop n.2.2.1.toNat).take ((x.2.1.length:Int).toNat - n.2.2.1.toNat)=x.2.1.drop n.2.2.1.toNat:=by
      apply List.take_of_length_le; rw [nC]; omega
     have hwe:IntKind.i64.wrap (n.2.2.1+(y.1.length:Int))=n.2.2.1+(y.1.length:Int):=fO (by omega)
     have hla:∀ z:Nd,(acc.length+[z].length≤5864062014805)=True:=by intro z; rw [eq_iff_iff,iff_true]; simp only [iJ]; omega
     have hto:((n.2.1,((pre.length:Int),(n.2.2.1+(y.1.length:Int),()))):Nd)=oN n (pre.length:Int) y:=rfl
     have hyes:K ((acc++[oN n (pre.length:Int) y])++dY x.1 x.2.1 n ys ((pre.length:Int)+1))=K (acc++oN n (pre.length:Int) y::dY x.1 x.2.1 n ys ((pre.length:Int)+1)):=by rw [bO]; rfl
     unfold qC
     simp only [yl,yh,yi,yj,yk,ym,ov,ew,dH,dt,if_true,aK,hwr,c,ht,v54,ar,hwe,hla,hto,dY,jG]
     cases h1:pf (x.2.1.drop n.2.2.1.toNat) y.1 with
     | false=>simp only [aB,jP,cond_false]; exact hgo acc (by omega)
     | true=>
       simp only [aK,fV]
       cases h2:decide (n.2.1 < 0) with
       | true=>
         simp only [aK,ua,cond_true]
         exact (hgo _ (by simp; omega)).trans hyes
       | false=>
         simp only [aB,ny,WY x n.1 hn.b,ar,v60 x.1 n.2.1 (fb x.1 n.1) y.2.1 (by have:=Wy ho n.1 hn.b; unfold bF; omega)]
         cases h3:gT x.1 n.2.1 (fb x.1 n.1) y.2.1 with
         | false=>simp only [aB,cond_false]; exact hgo acc (by omega)
         | true=>
           simp only [aK,cond_true]
           exact (hgo _ (by simp; omega)).trans hyes
theorem WZ (x:jT) (ho:oE x.1=0) (hw:x.2.1.length≤100) (n:Nd) (hn:Ok x.1 x.2.1 n):cz 2000 x n=some (dY x.1 x.2.1 n x.1.2.1 0):=by
 unfold cz
 have h120:=(qI ho).2.1
 have:=aeP (R:=List Nd) some x ho hw n hn x.1.2.1 [] 2000 [] (by omega) (by simpa using h120) (by simp) (fun s hs=>(kW ((qI ho).1 s hs)).2.2.2)
 simp only [cO,dC] at this
 simp only [yl,yh,yi,yj,yk,ym,ov]
 exact this
theorem K5 {o:aI} {w:List UInt8} {n m:Nd} (ho:oE o=0) (hn:Ok o w n):∀ (ys pre:List bI),o.2.1=pre++ys→m∈dY o w n ys (pre.length:Int)→
  m.1=n.2.1∧0≤m.2.1∧m.2.1 < (o.2.1.length:Int)∧n.2.2.1 < m.2.2.1∧m.2.2.1≤(w.length:Int)∧m.2.2.1=n.2.2.1+((sg o m.2.1).1.length:Int)∧jG o w n (sg o m.2.1)=true
 | [],_,_,h=>absurd h (by simp [dY])
 | y::ys,pre,hl,h=>by
   have hgo:=K5 (m:=m) ho hn ys (pre++[y]) (by rw [hl,bx])
   have hlen:((pre++[y]).length:Int)=(pre.length:Int)+1:=by simp
   rw [hlen] at hgo
   unfold dY at h
   cases hk:jG o w n y with
   | false=>rw [hk,cond_false] at h; exact hgo h
   | true=>
     rw [hk,cond_true] at h
     rcases cS.1 h with h | h
     ·subst h
      have hsg:sg o (pre.length:Int)=y:=by unfold sg; rw [hl]; exact dt _ _ _ _
      have hmem:y∈o.2.1:=by rw [hl]; simp
      have hg:=kW ((qI ho).1 y hmem)
      have hpos:0 < y.1.length:=zG.2 hg.2.2.1
      have hkk:=hk
      unfold jG at hk
      simp only [au] at hk
      obtain ⟨r,hr⟩:=Lg.1 hk.1
      have h1:=congrArg kJ hr
      simp only [nC,cm] at h1
      have he0:=hn.e0; have he1:=hn.e1
      refine ⟨rfl,by show 0≤(pre.length:Int); omega,by show (pre.length:Int) < _; rw [hl]; simp only [cm,fk]; omega,by show n.2.2.1 < n.2.2.1+(y.1.length:Int); omega,by show n.2.2.1+(y.1.length:Int)≤_; omega,by show n.2.2.1+(y.1.length:Int)=n.2.2.1+((sg o (pre.length:Int)).1.length:Int); rw [hsg],by show jG o w n (sg o (pre.length:Int))=true; rw [hsg]; exact hkk⟩
     ·exact hgo h
theorem agb {o:aI} {w:List UInt8} {n m:Nd} (ho:oE o=0) (hn:Ok o w n) (h:m∈dY o w n o.2.1 0):Ok o w m∧n.2.2.1 < m.2.2.1∧0≤m.2.1:=by
 have:=K5 ho hn o.2.1 [] rfl h
 have he0:=hn.e0
 exact ⟨⟨by rw [this.1]; exact hn.s,this.2.2.1,by omega,this.2.2.2.2.1⟩,this.2.2.2.1,this.2.1⟩
def wy (o:aI) (w:List UInt8):Nat→Nd→List (List Int)
 | 0,_=> []
 | f+1,n=>cond (n.2.2.1==(w.length:Int)) (cond (decide (n.2.1≥0)&&gT o n.2.1 (fb o n.1) []) [[]] []) ((dY o w n o.2.1 0).flatMap fun m=>(wy o w f m).map (m.2.1:: ·))
def rm (w:List UInt8) (n:Nd):Nat:=((w.length:Int) - n.2.2.1).toNat
def ways (o:aI) (w:List UInt8) (n:Nd):List (List Int):=wy o w (rm w n+1) n
theorem ns {o:aI} {w:List UInt8} {n m:Nd} (ho:oE o=0) (hn:Ok o w n) (h:m∈dY o w n o.2.1 0):Ok o w m∧rm w m < rm w n∧0≤m.2.1:=by
 have h1:=agb ho hn h
 have:=h1.1.e1; have:=h1.2.1
 exact ⟨h1.1,by unfold rm; omega,h1.2.2⟩
theorem RS {α β:Type} {l:List α} {f g:α→List β} (h:∀ x∈l,f x=g x):l.flatMap f=l.flatMap g:=by
 induction l with
 | nil=>rfl
 | cons x l ih=>rw [zF,zF,h x (by simp),ih (fun y hy=>h y (fm _ hy))]
theorem W6 {o:aI} {w:List UInt8} (ho:oE o=0):∀ (f f':Nat) (n:Nd),Ok o w n→rm w n < f→rm w n < f'→wy o w f n=wy o w f' n
 | 0,_,_,_,h,_=>by omega
 | _+1,0,_,_,_,h=>by omega
 | f+1,f'+1,n,hn,h1,h2=>by
   unfold wy
   rw [RS fun m hm=>by
    have h3:=ns ho hn hm
    rw [W6 ho f f' m h3.1 (by omega) (by omega)]]
theorem Lx {o:aI} {w:List UInt8} {n:Nd} (h:(n.2.2.1==(w.length:Int))=true):ways o w n=cond (decide (n.2.1≥0)&&gT o n.2.1 (fb o n.1) []) [[]] []:=by
 unfold ways wy; rw [h,cond_true]
theorem DA {o:aI} {w:List UInt8} {n:Nd} (ho:oE o=0) (hn:Ok o w n) (h:(n.2.2.1==(w.length:Int))=false):ways o w n=(dY o w n o.2.1 0).flatMap fun m=>(ways o w m).map (m.2.1:: ·):=by
 have h0:ways o w n=wy o w (rm w n+1) n:=rfl
 rw [h0]
 unfold wy; rw [h,cond_false]
 refine RS fun m hm=>?_
 have h3:=ns ho hn hm
 have h4:ways o w m=wy o w (rm w m+1) m:=rfl
 rw [h4,W6 ho (rm w n) (rm w m+1) m h3.1 (by omega) (by omega)]
theorem LB {o:aI} {w:List UInt8} (ho:oE o=0):∀ (f:Nat) (n:Nd),Ok o w n→∀ l∈wy o w f n,l.length≤rm w n
 | 0,_,_,l,h=>absurd h (by simp [wy])
 | f+1,n,hn,l,h=>by
   unfold wy at h
   cases he:n.2.2.1==(w.length:Int) with
   | true=>
     rw [he,cond_true] at h
     cases hf:decide (n.2.1≥0)&&gT o n.2.1 (fb o n.1) [] with
     | true=>rw [hf,cond_true] at h; rw [gX.1 h]; simp
     | false=>rw [hf,cond_false] at h; cases h
   | false=>
     rw [he,cond_false] at h
     obtain ⟨m,hm,h2⟩:=DP.1 h
     obtain ⟨l',hl',rfl⟩:=dd.1 h2
     have h3:=ns ho hn hm
     have:=LB ho f m h3.1 l' hl'
     simp only [fk]; omega
def cn (o:aI) (w:List UInt8) (n:Nd):Int:=((min 201 (ways o w n).length:Nat):Int)
abbrev mq (a b:Nd):Bool:=(a.1==b.1)&&((a.2.1==b.2.1)&&((a.2.2.1==b.2.2.1)&&true))
theorem X2 {a b:Nd} (h:mq a b=true):a=b:=by
 obtain ⟨a1,a2,a3,a4⟩:=a; obtain ⟨b1,b2,b3,b4⟩:=b
 simp only [mq,iG,au,beq_iff_eq] at h
 obtain ⟨h1,h2,h3⟩:=h
 subst h1; subst h2; subst h3; rfl
def Inv (o:aI) (w:List UInt8) (mp:List (Nd×Int)):Prop:=∀ p∈mp,p.2=cn o w p.1
theorem VF {o:aI} {w:List UInt8} {k:Nd}:∀ {mp:List (Nd×Int)},Inv o w mp→(iA mq 0 mp k).2=true→(iA mq 0 mp k).1=cn o w k
 | [],_,h=>by simp [iA] at h
 | e::r,hI,h=>by
   unfold iA at h ⊢
   cases he:mq k e.1 with
   | true=>
     simp only [he]
     rw [X2 he]
     exact hI e (by simp)
   | false=>
     simp only [he] at h ⊢
     exact VF (fun p hp=>hI p (fm _ hp)) h
theorem VH {o:aI} {w:List UInt8} {k:Nd}:∀ {mp:List (Nd×Int)},Inv o w mp→Inv o w (ja mq mp k (cn o w k))
 | [],_,p,hp=>by
   simp only [ja,gX] at hp
   rw [hp]
 | e::r,hI,p,hp=>by
   unfold ja at hp
   cases he:mq k e.1 with
   | true=>
     simp only [he] at hp
     rcases cS.1 hp with h | h
     ·rw [h]
     ·exact hI p (fm _ h)
   | false=>
     simp only [he] at hp
     rcases cS.1 hp with h | h
     ·rw [h]; exact hI e (by simp)
     ·exact VH (fun p hp=>hI p (fm _ hp)) p h
def ld (o:aI) (w:List UInt8):List Nd→Nat
 | []=>0
 | m::r=>(ways o w m).length+ld o w r
theorem Lt (o:aI) (w:List UInt8):∀ l:List Nd,(l.flatMap fun m=>(ways o w m).map (m.2.1:: ·)).length=ld o w l
 | []=>rfl
 | m::r=>by rw [zF,cm,nD,Lt o w r]; rfl
theorem sat (s c:Nat):(if (201:Int) < ((min 201 s:Nat):Int)+((min 201 c:Nat):Int) then (201:Int) else ((min 201 s:Nat):Int)+((min 201 c:Nat):Int))=((min 201 (s+c):Nat):Int):=by
 split<;>omega
theorem ae2 {R:Type} (F:jT→Nd→Option (jT×Int)) (o:aI) (w:List UInt8) (n:Nd) (k0:jT→Nd→Int→Option R):
  ∀ (ys pre:List Nd) (M:Nat) (mp:List (Nd×Int)) (s:Nat),ys.length < M→(pre++ys).length≤1000→Inv o w mp→
    (∀ y∈ys,∀ mp,Inv o w mp→∃ mp',Inv o w mp'∧F (o,(w,(mp,()))) y=some ((o,(w,(mp',()))),cn o w y))→
    ∃ mp',Inv o w mp'∧tp F (fun y0 y1 y2 _ _ _=>k0 y0 y1 y2) M (o,(w,(mp,()))) n ((min 201 s:Nat):Int) (pre++ys) ((pre++ys).length:Int) (pre.length:Int)=k0 (o,(w,(mp',()))) n ((min 201 (s+ld o w ys):Nat):Int):=by
 intro ys
 induction ys with
 | nil=>
   intro pre M mp s hM hb hI hF
   cases M with
   | zero=>omega
   | succ M=>
     refine ⟨mp,hI,?_⟩
     unfold tp
     simp only [xB,xx,xy,xz,xA,xC,sD,eC,aB,ld,Nat.add_zero]
 | cons y ys ih=>
   intro pre M mp s hM hb hI hF
   cases M with
   | zero=>omega
   | succ M=>
     have hwr:=eE pre ys y (by unfold bF; omega)
     have hl:(gL (pre.length:Int) < (pre++y::ys).length)=True:=tF pre ys y
     obtain ⟨mp1,hI1,h1⟩:=hF y (by simp) mp hI
     obtain ⟨mp2,hI2,h2⟩:=ih (pre++[y]) M mp1 (s+(ways o w y).length) (by simpa using hM) (by rw [←bx]; exact hb) hI1 (fun z hz=>hF z (fm _ hz))
     rw [←bx] at h2
     refine ⟨mp2,hI2,?_⟩
     have hc:cn o w y=((min 201 (ways o w y).length:Nat):Int):=rfl
     have hw:IntKind.i64.wrap (((min 201 s:Nat):Int)+cn o w y)=((min 201 s:Nat):Int)+cn o w y:=fO (by rw [hc]; omega)
     unfold tp
     simp only [xB,xx,xy,xz,xA,xC,sD,ew,dH,dt,if_true,aK,hl,h1,ar,hw,hwr]
     rw [hc,sat]
     refine dB h2 ?_
     rw [show ld o w (y::ys)=(ways o w y).length+ld o w ys from rfl,Nat.add_assoc]
theorem K4 (o:aI) (w:List UInt8) (n:Nd):∀ (ys:List bI) (i:Int),(dY o w n ys i).length≤ys.length
 | [],_=>by simp [dY]
 | y::ys,i=>by
   have:=K4 o w n ys (i+1)
   unfold dY
   cases jG o w n y<;>simp only [cond_true,cond_false,fk]<;>omega
theorem aen {o:aI} {w:List UInt8} (ho:oE o=0) (hw:w.length≤100):∀ (m:Nat) (n:Nd) (mp:List (Nd×Int)),Ok o w n→rm w n < m→Inv o w mp→
  ∃ mp',Inv o w mp'∧nH 2000 m (o,(w,(mp,()))) n=some ((o,(w,(mp',()))),cn o w n):=by
 intro m
 induction m with
 | zero=>intro n mp hn hm; omega
 | succ m ih=>
   intro n mp hn hm hI
   unfold nH
   simp only [xB,xx,xy,xz,xA,xC,sD]
   cases he:n.2.2.1==(w.length:Int) with
   | true=>
     refine ⟨mp,hI,?_⟩
     have hc:cn o w n=cond (decide (n.2.1≥0)&&gT o n.2.1 (fb o n.1) []) 1 0:=by
      unfold cn; rw [Lx he]
      cases decide (n.2.1≥0)&&gT o n.2.1 (fb o n.1) []<;>rfl
     rw [hc]
     simp only [aK]
     cases hd:decide (n.2.1≥0) with
     | false=>rfl
     | true=>
       simp only [aK,WY (o,(w,(mp,()))) n.1 hn.b,ar,v60 o n.2.1 (fb o n.1) [] (by have:=Wy ho n.1 hn.b; unfold bF; omega),fV]
       cases gT o n.2.1 (fb o n.1) []<;>rfl
   | false=>
     simp only [aB]
     have hg:=VF (k:=n) hI
     have hdef:iA (fun a b:Nd=>(a.1==b.1)&&((a.2.1==b.2.1)&&((a.2.2.1==b.2.2.1)&&true))) (0:Int) mp n=iA mq 0 mp n:=rfl
     rw [hdef]
     cases hb:(iA mq 0 mp n).2 with
     | true=>
       refine ⟨mp,hI,?_⟩
       rw [hg hb]
       rfl
     | false=>
       have hnx:=WZ (o,(w,(mp,()))) ho hw n hn
       simp only at hnx
       have h120:=(qI ho).2.1
       have hnl:=K4 o w n o.2.1 0
       obtain ⟨mp1,hI1,h1⟩:=ae2 (R:=jT×Int) (nH 2000 m) o w n (fun x0 x1 x2=>some ((x0.1,(x0.2.1,((ja (fun a b:Nd=>((a.1==b.1)&&((a.2.1==b.2.1)&&((a.2.2.1==b.2.2.1)&&true)))) x0.2.2.1 x1 x2),x0.2.2.2))),x2)) (dY o w n o.2.1 0) [] 2000 mp 0 (by omega) (by simp; omega) hI (fun y hy mp hI=>by
        have h3:=ns ho hn hy
        exact ih y mp h3.1 (by omega) hI)
       have hcn:((min 201 (0+ld o w (dY o w n o.2.1 0)):Nat):Int)=cn o w n:=by
        unfold cn; rw [DA ho hn he,Lt,jQ]
       simp only [cO,dC] at h1
       rw [hcn] at h1
       refine ⟨ja mq mp1 n (cn o w n),VH hI1,?_⟩
       simp only [aB,hnx,ar]
       exact h1
theorem W3 {o:aI} {w:List UInt8} (ho:oE o=0) (hw:w.length≤100) (n:Nd) (mp:List (Nd×Int)) (hn:Ok o w n) (hI:Inv o w mp):
  ∃ mp',Inv o w mp'∧aW 2000 (o,(w,(mp,()))) n=some ((o,(w,(mp',()))),cn o w n):=by
 unfold aW
 have h0:=hn.e0
 exact aen ho hw 250 n mp hn (by unfold rm; omega) hI
def al (o:aI) (w:List UInt8) (n:Nd):List (List Int):=cond (n.2.2.1==(w.length:Int)) [[]] (ways o w n)
theorem L7 {o:aI} {w:List UInt8} {n:Nd} (h:ways o w n≠[]):al o w n=ways o w n:=by
 unfold al
 cases he:n.2.2.1==(w.length:Int) with
 | false=>rfl
 | true=>
   rw [Lx he] at h ⊢
   cases hf:decide (n.2.1≥0)&&gT o n.2.1 (fb o n.1) [] with
   | true=>rfl
   | false=>rw [hf] at h; exact absurd rfl h
theorem aeZ {R:Type} (K:jT→List (List Int)→List Nd→Int→Int→Option R) (x:jT) (n:Nd) (L:List Nd) (a b:Int):
  ∀ (ys pre:List (List Int)) (m:Nat) (acc:List (List Int)),ys.length < m→(pre++ys).length≤1000→acc.length+ys.length≤100000→(∀ l∈ys,l.length≤1000)→
    tq (fun y0 y1 _ y3 y4 y5 _ _ _=>K y0 y1 y3 y4 y5) m x acc n L a b (pre++ys) ((pre++ys).length:Int) (pre.length:Int)=K x (acc++ys.map (n.2.1:: ·)) L a b:=by
 intro ys
 induction ys with
 | nil=>
   intro pre m acc hm hb ha hy
   cases m with
   | zero=>omega
   | succ m=>
     unfold tq
     simp only [n8,nZ,oj,od,n0,oc,oe,oi,om,ot,n7,n9,nj,eC,aB,List.map_nil,jf acc]
 | cons y ys ih=>
   intro pre m acc hm hb ha hy
   cases m with
   | zero=>omega
   | succ m=>
     have hwr:=eE pre ys y (by unfold bF; omega)
     have hl:(gL (pre.length:Int) < (pre++y::ys).length)=True:=tF pre ys y
     have hy1:=hy y (by simp)
     simp only [fk] at ha
     have c1:([n.2.1].length+y.length≤17592186044416)=True:=by rw [eq_iff_iff,iff_true]; simp only [iJ]; omega
     have c2:(acc.length+[[n.2.1]++y].length≤5864062014805)=True:=by rw [eq_iff_iff,iff_true]; simp only [iJ]; omega
     unfold tq
     simp only [n8,nZ,oj,od,n0,oc,oe,oi,om,ot,n7,n9,nj,ew,dH,dt,if_true,aK,hwr,hl,c1,c2,fX]
     have:=ih (pre++[y]) m (acc++[[n.2.1]++y]) (by simpa using hm) (by rw [←bx]; exact hb) (by simp only [cm,iJ]; omega) (fun l hl=>hy l (fm _ hl))
     rw [←bx,bO] at this
     exact this
theorem aed {R:Type} (F:jT→Nd→Option (jT×List (List Int))) {o:aI} {w:List UInt8} (ho:oE o=0) (hw:w.length≤100) (K:jT→List (List Int)→Option R):
  ∀ (ys pre:List Nd) (M:Nat) (mp:List (Nd×Int)) (acc:List (List Int)),ys.length < M→(pre++ys).length≤1000→Inv o w mp→(∀ y∈ys,Ok o w y)→acc.length+ld o w ys≤200→
    (∀ y∈ys,∀ mp,Inv o w mp→(ways o w y).length≤200→∃ mp',Inv o w mp'∧F (o,(w,(mp,()))) y=some ((o,(w,(mp',()))),al o w y))→
    ∃ mp',Inv o w mp'∧ow 2000 (aW 2000) F (fun y0 y1 _ _ _=>K y0 y1) M (o,(w,(mp,()))) acc (pre++ys) ((pre++ys).length:Int) (pre.length:Int)=K (o,(w,(mp',()))) (acc++ys.flatMap fun m=>(ways o w m).map (m.2.1:: ·)):=by
 intro ys
 induction ys with
 | nil=>
   intro pre M mp acc hM hb hI hO ha hF
   cases M with
   | zero=>omega
   | succ M=>
     refine ⟨mp,hI,?_⟩
     unfold ow
     simp only [n8,nZ,oj,od,n0,oc,oe,oi,om,ot,n7,n9,nj,eC,aB,List.flatMap_nil,jf acc]
 | cons y ys ih=>
   intro pre M mp acc hM hb hI hO ha hF
   cases M with
   | zero=>omega
   | succ M=>
     have hwr:=eE pre ys y (by unfold bF; omega)
     have hl:(gL (pre.length:Int) < (pre++y::ys).length)=True:=tF pre ys y
     have hy:=hO y (by simp)
     have ht:ld o w (y::ys)=(ways o w y).length+ld o w ys:=rfl
     rw [ht] at ha
     obtain ⟨mp1,hI1,h1⟩:=W3 ho hw y mp hy hI
     have hgo:=fun (mp:List (Nd×Int)) (acc:List (List Int)) (hI:Inv o w mp) (ha:acc.length+ld o w ys≤200)=>ih (pre++[y]) M mp acc (by simpa using hM) (by rw [←bx]; exact hb) hI (fun z hz=>hO z (fm _ hz)) ha (fun z hz=>hF z (fm _ hz))
     by_cases hc:cn o w y=0
     ·have hnil:ways o w y=[]:=by
       unfold cn at hc
       exact kK.1 (by omega)
      obtain ⟨mp2,hI2,h2⟩:=hgo mp1 acc hI1 (by omega)
      rw [←bx] at h2
      refine ⟨mp2,hI2,?_⟩
      have e:(cn o w y==0)=true:=beq_iff_eq.2 hc
      unfold ow
      simp only [n8,nZ,oj,od,n0,oc,oe,oi,om,ot,n7,n9,nj,ew,dH,dt,if_true,aK,hl,h1,ar,e,hwr]
      rw [h2,zF,hnil]
      rfl
     ·have hne:ways o w y≠[]:=by
       intro h; apply hc; unfold cn; rw [h]; rfl
      obtain ⟨mp2,hI2,h2⟩:=hF y (by simp) mp1 hI1 (by omega)
      rw [L7 hne] at h2
      have e:(cn o w y==0)=false:=beq_eq_false_iff_ne.2 hc
      obtain ⟨mp3,hI3,h3⟩:=hgo mp2 (acc++(ways o w y).map (y.2.1:: ·)) hI2 (by rw [cm,nD]; omega)
      rw [←bx,bO] at h3
      refine ⟨mp3,hI3,?_⟩
      have hp:=aeZ (R:=R) (fun y0 y1 y3 y4 y5=>ow 2000 (aW 2000) F (fun y0 y1 _ _ _=>K y0 y1) M y0 y1 y3 y4 (IntKind.i64.wrap (y5+(1:Int)))) (o,(w,(mp2,()))) y (pre++y::ys) ((pre++y::ys).length:Int) (pre.length:Int) (ways o w y) [] 2000 acc (by omega) (by simp; omega) (by omega) (fun l hl=>by
       have h0:=hy.e0
       have:=LB ho _ y hy l hl
       unfold rm at this; omega)
      simp only [cO,dC] at hp
      unfold ow
      simp only [n8,nZ,oj,od,n0,oc,oe,oi,om,ot,n7,n9,nj,ew,dH,dt,if_true,aK,hl,h1,ar,e,aB,h2]
      refine dB hp ?_
      rw [hwr,h3,zF]
theorem aec {o:aI} {w:List UInt8} (ho:oE o=0) (hw:w.length≤100):∀ (m:Nat) (n:Nd) (mp:List (Nd×Int)),Ok o w n→rm w n < m→Inv o w mp→(ways o w n).length≤200→
  ∃ mp',Inv o w mp'∧nI 2000 m (o,(w,(mp,()))) n=some ((o,(w,(mp',()))),al o w n):=by
 intro m
 induction m with
 | zero=>intro n mp hn hm; omega
 | succ m ih=>
   intro n mp hn hm hI h200
   unfold nI al
   simp only [n8,nZ,oj,od,n0,oc,oe,oi,om,ot,n7,n9,nj]
   cases he:n.2.2.1==(w.length:Int) with
   | true=>exact ⟨mp,hI,rfl⟩
   | false=>
     have hnx:=WZ (o,(w,(mp,()))) ho hw n hn
     simp only at hnx
     have h120:=(qI ho).2.1
     have hnl:=K4 o w n o.2.1 0
     rw [DA ho hn he,Lt] at h200
     obtain ⟨mp1,hI1,h1⟩:=aed (R:=jT×List (List Int)) (nI 2000 m) ho hw (fun x0 x1=>some (x0,x1)) (dY o w n o.2.1 0) [] 2000 mp [] (by omega) (by simp; omega) hI (fun y hy=>(ns ho hn hy).1) (by simpa using h200) (fun y hy mp hI h2=>by
      have h3:=ns ho hn hy
      exact ih y mp h3.1 (by omega) hI h2)
     simp only [cO,dC] at h1
     refine ⟨mp1,hI1,?_⟩
     simp only [aB,cond_false,hnx,ar,DA ho hn he]
     exact h1
def wE (s:List UInt8):Int:=cond (s==[]) 7 (cond (decide ((s.length:Int) > 16)) 3 (cond (s.all jD) 0 2))
def gy (o:aI) (w:List UInt8):Int:=cond (oE o != 0) (oE o) (wE w)
theorem aeA {R:Type} (k0:Int→Option R) (K:Option R) (f:Int×Unit→Option Bool) (p:Int→Bool):
  ∀ (ys pre:List Int) (m:Nat),(∀ t∈ys,f (t,())=some (p t))→ys.length < m→(pre++ys).length≤bF→
    (ys.any p=false→qu k0 (fun _ _ _ _=>K) m (pre++ys) f ((pre++ys).length:Int) (pre.length:Int)=K)∧
    (ys.any p=true→∃ i:Nat,qu k0 (fun _ _ _ _=>K) m (pre++ys) f ((pre++ys).length:Int) (pre.length:Int)=k0 (i:Int)):=by
 intro ys
 induction ys with
 | nil=>
   intro pre m hf hm hb
   cases m with
   | zero=>omega
   | succ m=>
     unfold qu
     simp only [wc,we,wg,wh,wi,wj,ss,eC,aB,uh]
     exact ⟨fun _=>trivial,fun h=>by cases h⟩
 | cons y ys ih=>
   intro pre m hf hm hb
   cases m with
   | zero=>omega
   | succ m=>
     have hwr:=eE pre ys y hb
     have hgo:=ih (pre++[y]) m (fun t ht=>hf t (fm _ ht)) (by simpa using hm) (by rw [←bx]; exact hb)
     rw [←bx] at hgo
     unfold qu
     simp only [wc,we,wg,wh,wi,wj,ss,ew,dH,dt,if_true,aK,hwr,hf y (by simp),ar,nB]
     cases h:p y with
     | true=>simp only [aK,ua]; exact ⟨(fun h=>by cases h),fun _=>⟨pre.length,rfl⟩⟩
     | false=>simp only [aB,ny]; exact hgo
theorem v96 (xs:List Int) (hx:xs.length < 2000) (f:Int×Unit→Option Bool) (p:Int→Bool) (hf:∀ t∈xs,f (t,())=some (p t)):db 2000 xs f=some (xs.any p):=by
 unfold db
 simp only [Kf,CT]
 unfold iM
 simp only [wc,we,wg,wh,wi,wj,ss]
 have h:=aeA (R:=Int) some (some (-1)) f p xs [] 2000 hf hx (by unfold bF; simp; omega)
 simp only [cO,dC] at h
 have z:((0:Nat):Int)=0:=rfl
 rw [z] at h
 cases ha:xs.any p with
 | false=>rw [h.1 ha]; rfl
 | true=>
   obtain ⟨i,h1⟩:=h.2 ha
   rw [h1]
   simp only [ar]
   have:decide ((i:Int)≥0)=true:=decide_eq_true (by omega)
   rw [this]
theorem Xv (s:List UInt8):(s.map ch).any (fun t=>!dA t)=!(s.map ch).all dA:=by
 induction s with
 | nil=>rfl
 | cons b s ih=>simp only [fX,nB,dJ,ih]; cases dA (ch b)<;>rfl
theorem aeS (s:List UInt8):s.all jD=((s.map ch).all dA&&s.all fun b=>!up b):=by
 induction s with
 | nil=>rfl
 | cons b s ih=>
   simp only [fX,dJ,ih,jD]
   have:dA (ch b)=dA (b.toNat:Int):=rfl
   rw [this]
   cases dA (b.toNat:Int)<;>cases up b<;>cases (s.map ch).all dA<;>cases s.all fun b=>!up b<;>rfl
theorem v71 (w:List UInt8) (h0:w≠[]) (hl:w.length≤16):∃ s,ij 2000 [w]=some (s,cond ((w.map ch).all dA) 0 2):=by
 have hc:db 2000 (w.map fun b=>(b.toNat:Int)) (fun (x0:Int×Unit)=>((dq 2000 x0.1).bind fun b=>some [.v .bool b]).bind (j7 .bool))=some ((w.map ch).any fun t=>!dA t):=
  v96 (w.map ch) (by simp; omega) _ (fun t=>!dA t) (fun t ht=>by
   obtain ⟨b,_,rfl⟩:=dd.1 ht
   unfold dq
   simp only [Kg,CU]
   have:=(Lw b).1
   rw [show cj 2000 (ch b)=some (dA (ch b)) from this]
   rfl)
 have hJ:fL 2000 [w] [32]=some w:=by
  unfold fL
  simp only [Km,Ki,Kj,Kk,Kl,Kn,CV]
  rfl
 have h00:(w==[])=false:=by simpa using h0
 unfold ij
 simp only [xV,xW,xX,xY,xZ,ya,sV]
 show ∃ s,qB (db 2000) (dq 2000) _ _ (1999+1) [w] [w] (1:Int) (0:Int)=_
 unfold qB
 have d0:decide ((0:Int) < 1)=true:=rfl
 have c0:(0≤(0:Int)∧(0:Int) < (([w]:List (List UInt8)).length:Int))=True:=by rw [eq_iff_iff,iff_true]; exact ⟨by omega,by simp⟩
 have g:([w]:List (List UInt8)).getD (0:Int).toNat []=w:=rfl
 simp only [xV,xW,xX,xY,xZ,ya,sV,d0,aK,c0,if_true,g,h00,aB,hc,ar,Xv]
 cases ha:(w.map ch).all dA with
 | false=>exact ⟨[],rfl⟩
 | true=>
   simp only [eK,aB]
   show ∃ s,qB (db 2000) (dq 2000) _ _ (1998+1) [w] [w] (1:Int) (IntKind.i64.wrap (0+1))=_
   unfold qB
   have w1:IntKind.i64.wrap (0+1)=1:=rfl
   have d1:decide ((1:Int) < 1)=false:=rfl
   have d2:decide ((w.length:Int) > 120)=false:=decide_eq_false (by omega)
   simp only [xV,xW,xX,xY,xZ,ya,sV,w1,d1,aB,hJ,ar,d2]
   exact ⟨w,rfl⟩
theorem v40 (o:aI) (w:List UInt8):dF 2000 o w=some (gy o w):=by
 unfold dF gy wE
 simp only [JS,CK,v70,ar]
 cases oE o != 0 with
 | true=>rfl
 | false=>
   cases h0:w==[] with
   | true=>rfl
   | false=>
     cases h1:decide ((w.length:Int) > 16) with
     | true=>rfl
     | false=>
       have h2:=of_decide_eq_false h1
       obtain ⟨s,hs⟩:=v71 w (by simpa using h0) (by omega)
       simp only [aB,cond_false,hs,ar,v72 w (by omega)]
       rw [show (fold w != w)=!(fold w==w) from rfl,Jk,aeS]
       cases (w.map ch).all dA<;>cases w.all (fun b=>!up b)<;>rfl
theorem s5 {o:aI} {w:List UInt8} (h:gy o w=0):oE o=0∧w≠[]∧w.length≤16:=by
 unfold gy at h
 cases h1:oE o != 0 with
 | true=>rw [h1,cond_true] at h; rw [h] at h1; cases h1
 | false=>
   rw [h1,cond_false] at h
   unfold wE at h
   cases h2:w==[] with
   | true=>rw [h2] at h; cases h
   | false=>
     rw [h2] at h
     cases h3:decide ((w.length:Int) > 16) with
     | true=>rw [h3] at h; cases h
     | false=>have:=of_decide_eq_false h3; exact ⟨by simpa using h1,by simpa using h2,by omega⟩
def ei (o:aI):List Int→Int
 | []=>0
 | i::r=>(sg o i).2.2.1+ei o r
theorem TG {x:bI} (h:gE x=0):0≤x.2.2.1∧x.2.2.1≤99:=by
 unfold gE at h
 cases h1:tE x.1 != 0 with
 | true=>rw [h1,cond_true] at h; rw [h] at h1; cases h1
 | false=>
   rw [h1,cond_false] at h
   cases h2:(x.2.1.length:Int)==0 with
   | true=>rw [h2] at h; cases h
   | false=>
     rw [h2,cond_false] at h
     cases h3:decide ((x.2.1.length:Int) > 2) with
     | true=>rw [h3] at h; cases h
     | false=>
       rw [h3,cond_false] at h
       cases h4:jM x.2.1 != 0 with
       | true=>rw [h4,cond_true] at h; rw [h] at h4; cases h4
       | false=>
         rw [h4,cond_false] at h
         cases h5:uC x with
         | true=>rw [h5] at h; cases h
         | false=>
           unfold uC at h5
           simp only [Bool.or_eq_false_iff,decide_eq_false_iff_not] at h5
           omega
theorem XN {o:aI} (ho:oE o=0):∀ {l:List Int},l.all (cQ o)=true→0≤ei o l∧ei o l≤99 * l.length
 | [],_=>by simp [ei]
 | i::r,h=>by
   simp only [dJ,au] at h
   have h1:=TG (nu ho (iY.1 h.1))
   have h2:=XN ho h.2
   simp only [ei,fk]; omega
theorem aem {R:Type} (K:Int→Option R) (o:aI) (ho:oE o=0):
  ∀ (ys pre:List Int) (m:Nat) (s:Int),ys.all (cQ o)=true→ys.length < m→(pre++ys).length≤1000→0≤s→s≤99 * pre.length→
    tn (fun _ y1 _ _ _=>K y1) m o s (pre++ys) ((pre++ys).length:Int) (pre.length:Int)=K (s+ei o ys):=by
 intro ys
 induction ys with
 | nil=>
   intro pre m s hi hm hb h0 h1
   cases m with
   | zero=>omega
   | succ m=>
     unfold tn
     simp only [xu,xm,xn,xp,xr,xw,sC,eC,aB,ei,Int.add_zero]
 | cons y ys ih=>
   intro pre m s hi hm hb h0 h1
   cases m with
   | zero=>omega
   | succ m=>
     have hwr:=eE pre ys y (by unfold bF; omega)
     simp only [dJ,au] at hi
     have hy:=iY.1 hi.1
     have hg:=TG (nu ho hy)
     have hbp:pre.length < 1000:=by simp at hb; omega
     have hin:(0≤y∧y < (o.2.1.length:Int))=True:=by rw [eq_iff_iff,iff_true]; exact hy
     have hs:o.2.1.getD y.toNat g0=sg o y:=rfl
     have hw:IntKind.i64.wrap (s+(sg o y).2.2.1)=s+(sg o y).2.2.1:=fO (by omega)
     unfold tn
     simp only [xu,xm,xn,xp,xr,xw,sC,ew,dH,dt,if_true,aK,hwr,hin,hs,hw,ei]
     have:=ih (pre++[y]) m (s+(sg o y).2.2.1) hi.2 (by simpa using hm) (by rw [←bx]; exact hb) (by omega) (by simp only [cm,iJ]; omega)
     rw [←bx,Int.add_assoc] at this
     exact this
theorem Lv (o:aI) (l:List Int) (ho:oE o=0) (hi:l.all (cQ o)=true) (hl:l.length≤1000):er 2000 o l=some (ei o l):=by
 unfold er
 have:=aem (R:=Int) some o ho l [] 2000 0 hi (by omega) (by simpa using hl) (by omega) (by simp)
 simp only [cO,dC,Int.zero_add] at this
 simp only [xu,xm,xn,xp,xr,xw,sC]
 exact this
def im (a b:Int):Int:=ad (decide (a < b)) (-1) (ad (decide (a > b)) 1 0)
theorem v46 (a b:Int):cy 2000 a b=some (im a b):=by
 unfold cy im
 simp only [JU,CM]
 have h:∀ x:Int,gO 2000 x=some false:=by
  intro x
  unfold gO
  simp only [J7,CQ,bne_self_eq_false]
 simp only [h,ar,aB]
 cases decide (a < b)<;>cases decide (a > b)<;>rfl
theorem HR {a b:Int} (h:a < b):im a b= -1:=by unfold im; rw [decide_eq_true h]; rfl
theorem Rc {a b:Int} (h:b < a):im a b=1:=by unfold im; rw [decide_eq_false (show ¬ a < b by omega),decide_eq_true (show a > b from h)]; rfl
theorem Rb (a:Int):im a a=0:=by
 have h:decide (a < a)=false:=decide_eq_false (by omega)
 unfold im
 simp only [gt_iff_lt,h,aB]
theorem rC (x:Int):ad ((-1:Int) != 0) (-1) x= -1:=rfl
theorem rD (x:Int):ad ((1:Int) != 0) 1 x=1:=rfl
def lex:List Int→List Int→Int
 | [],[]=>0
 | [],_::_=> -1
 | _::_,[]=>1
 | x::xs,y::ys=>ad (im x y != 0) (im x y) (lex xs ys)
theorem aeK {R:Type} (k0:Int→Option R) (K:List Int→List Int→Option R):
  ∀ (ys pre zs pre2:List Int) (m:Nat),ys.length < m→(pre++ys).length≤bF→pre.length=pre2.length→(∀ r,ys≠[]∨r=K (pre++ys) (pre2++zs)→(ys=[]→K (pre++ys) (pre2++zs)=k0 (lex ys zs))→True)→
    (∀ A B,A=pre++ys→B=pre2++zs→A.length < B.length→K A B=k0 (-1))→(∀ A B,A=pre++ys→B=pre2++zs→¬ A.length < B.length→K A B=k0 0)→
    tr (cy 2000) k0 (fun y0 y1 _ _ _=>K y0 y1) m (pre++ys) (pre2++zs) (pre++ys) ((pre++ys).length:Int) (pre.length:Int)=k0 (lex ys zs):=by
 intro ys
 induction ys with
 | nil=>
   intro pre zs pre2 m hm hb hp _ h1 h2
   cases m with
   | zero=>omega
   | succ m=>
     unfold tr
     simp only [xD,xE,xF,xG,xH,xI,sK,eC,aB]
     cases zs with
     | nil=>exact h2 _ _ rfl rfl (by simp [hp])
     | cons z zs=>exact h1 _ _ rfl rfl (by simp [hp])
 | cons y ys ih=>
   intro pre zs pre2 m hm hb hp _ h1 h2
   cases m with
   | zero=>omega
   | succ m=>
     have hwr:=eE pre ys y hb
     unfold tr
     simp only [xD,xE,xF,xG,xH,xI,sK,ew,dH,dt,if_true,aK,hwr]
     cases zs with
     | nil=>
       have d:decide ((pre.length:Int)≥((pre2++([]:List Int)).length:Int))=true:=decide_eq_true (by simp [hp])
       simp only [d,aK,lex]
     | cons z zs=>
       have d:decide ((pre.length:Int)≥((pre2++z::zs).length:Int))=false:=decide_eq_false (by simp [hp]; omega)
       have i2:(0≤(pre.length:Int)∧(pre.length:Int) < ((pre2++z::zs).length:Int))=True:=by rw [hp]; exact dH _ _ _
       have a2:(pre2++z::zs).getD (gL (pre.length:Int)) (0:Int)=z:=by rw [hp]; exact dt _ _ _ _
       simp only [d,aB,i2,if_true,a2,v46,ar,lex]
       cases h:im y z != 0 with
       | true=>simp only [aK]
       | false=>
         simp only [aB]
         rw [bx pre ys y,bx pre2 zs z]
         exact ih (pre++[y]) zs (pre2++[z]) m (by simpa using hm) (by rw [←bx]; exact hb) (by simp [hp]) (fun _ _ _=>trivial) (fun A B hA hB=>h1 A B (by rw [hA,←bx]) (by rw [hB,←bx])) (fun A B hA hB=>h2 A B (by rw [hA,←bx]) (by rw [hB,←bx]))
theorem v47 (a b:List Int) (h:a.length < 2000):ic 2000 a b=some (lex a b):=by
 unfold ic
 simp only [xD,xE,xF,xG,xH,xI,sK]
 have:=aeK (R:=Int) some (fun x0 x1=>ad (decide ((x0.length:Int) < (x1.length:Int))) (some (-1)) (some 0)) a [] b [] 2000 h (by unfold bF; simp; omega) rfl (fun _ _ _=>trivial)
  (fun A B _ _ hl=>by rw [decide_eq_true (show (A.length:Int) < (B.length:Int) by omega)]; rfl) (fun A B _ _ hl=>by rw [decide_eq_false (show ¬ (A.length:Int) < (B.length:Int) by omega)]; rfl)
 simp only [cO,dC] at this
 exact this
def nS (o:aI) (a b:List Int):Int:=ad (im (ei o a) (ei o b) != 0) (im (ei o a) (ei o b)) (lex a b)
theorem v45 (a b:Int):ib 2000 [a,b]=some (ad (a != 0) a b):=by
 unfold ib
 simp only [sI,sE,sF,sG,sH,sJ,qa]
 show np _ _ (1999+1) (0:Int) [a,b] (2:Int) (0:Int)=_
 unfold np
 have d0:decide ((0:Int) < 2)=true:=rfl
 have c0:(0≤(0:Int)∧(0:Int) < (([a,b]:List Int).length:Int))=True:=by rw [eq_iff_iff,iff_true]; exact ⟨by omega,by simp⟩
 have e0:([a,b]:List Int).getD (0:Int).toNat 0=a:=rfl
 simp only [sI,sE,sF,sG,sH,sJ,qa,d0,aK,c0,if_true,e0]
 cases h:a != 0 with
 | true=>rfl
 | false=>
   simp only [aB]
   show np _ _ (1998+1) (0:Int) [a,b] (2:Int) (IntKind.i64.wrap (0+1))=_
   unfold np
   have w1:IntKind.i64.wrap (0+1)=1:=rfl
   have d1:decide ((1:Int) < 2)=true:=rfl
   have c1:(0≤(1:Int)∧(1:Int) < (([a,b]:List Int).length:Int))=True:=by rw [eq_iff_iff,iff_true]; exact ⟨by omega,by simp⟩
   have e1:([a,b]:List Int).getD (1:Int).toNat 0=b:=rfl
   simp only [sI,sE,sF,sG,sH,sJ,qa,w1,d1,aK,c1,if_true,e1]
   cases h2:b != 0 with
   | true=>rfl
   | false=>
     have hb:b=0:=by simpa using h2
     simp only [aB]
     show np _ _ (1997+1) (0:Int) [a,b] (2:Int) (IntKind.i64.wrap (1+1))=_
     unfold np
     have w2:IntKind.i64.wrap (1+1)=2:=rfl
     have d2:decide ((2:Int) < 2)=false:=rfl
     simp only [sI,sE,sF,sG,sH,sJ,qa,w2,d2,aB,hb]
theorem v44 (o:aI) (ho:oE o=0) (a b:List Int) (ha:a.all (cQ o)=true∧a.length≤1000) (hb:b.all (cQ o)=true∧b.length≤1000):gD 2000 a b o=some (nS o a b):=by
 unfold gD nS
 simp only [JT,CL,Lv o a ho ha.1 ha.2,Lv o b ho hb.1 hb.2,v46,v47 a b (by omega),v45,ar]
theorem rF (a b:Int):(im a b= -1∧a < b)∨(im a b=0∧a=b)∨(im a b=1∧b < a):=by
 rcases LK a b with h | h | h
 ·exact .inl ⟨HR h,h⟩
 ·subst h; exact .inr (.inl ⟨Rb a,rfl⟩)
 ·exact .inr (.inr ⟨Rc h,h⟩)
theorem Vn:∀ a:List Int,lex a a=0
 | []=>rfl
 | x::xs=>by unfold lex; rw [Rb]; exact Vn xs
theorem Vo:∀ {a b:List Int},lex a b=0→a=b
 | [],[],_=>rfl
 | [],_::_,h=>by simp [lex] at h
 | _::_,[],h=>by simp [lex] at h
 | x::xs,y::ys,h=>by
   unfold lex at h
   rcases rF x y with ⟨h1,_⟩ | ⟨h1,h2⟩ | ⟨h1,_⟩
   ·rw [h1] at h; cases h
   ·rw [h1] at h; subst h2; rw [Vo h]
   ·rw [h1] at h; cases h
theorem Vm:∀ {a b:List Int},lex a b < 0↔lex b a > 0
 | [],[]=>by simp [lex]
 | [],_::_=>by simp [lex]
 | _::_,[]=>by simp [lex]
 | x::xs,y::ys=>by
   unfold lex
   rcases rF x y with ⟨h1,h2⟩ | ⟨h1,h2⟩ | ⟨h1,h2⟩
   ·rw [h1,Rc h2,rC,rD]; decide
   ·subst h2; rw [h1]; exact Vm (a:=xs) (b:=ys)
   ·rw [h1,HR h2,rD,rC]; decide
theorem lex_trans:∀ {a b c:List Int},lex a b < 0→lex b c < 0→lex a c < 0
 | [],[],c,h,_=>by simp [lex] at h
 | [],_::_,[],_,h=>by simp [lex] at h
 | [],_::_,_::_,_,_=>by simp [lex]
 | _::_,[],c,h,_=>by simp [lex] at h
 | _::_,_::_,[],_,h=>by simp [lex] at h
 | x::xs,y::ys,z::zs,h1,h2=>by
   unfold lex at h1 h2 ⊢
   rcases rF x y with ⟨a1,a2⟩ | ⟨a1,a2⟩ | ⟨a1,a2⟩
   ·rcases rF y z with ⟨b1,b2⟩ | ⟨b1,b2⟩ | ⟨b1,b2⟩
    ·rw [HR (show x < z by omega),rC]; decide
    ·subst b2; rw [a1,rC]; decide
    ·rw [b1] at h2; exact absurd h2 (by rw [rD]; decide)
   ·subst a2
    rw [a1] at h1
    rcases rF x z with ⟨b1,b2⟩ | ⟨b1,b2⟩ | ⟨b1,b2⟩
    ·rw [b1,rC]; decide
    ·rw [b1] at h2 ⊢; exact lex_trans (a:=xs) (b:=ys) h1 h2
    ·rw [b1] at h2; exact absurd h2 (by rw [rD]; decide)
   ·rw [a1] at h1; exact absurd h1 (by rw [rD]; decide)
def iz (o:aI) (a b:List Int):Prop:=ei o a < ei o b∨(ei o a=ei o b∧lex a b < 0)
theorem Ra {o:aI} {a b:List Int}:nS o a b < 0↔iz o a b:=by
 unfold nS iz
 rcases rF (ei o a) (ei o b) with ⟨h1,h2⟩ | ⟨h1,h2⟩ | ⟨h1,h2⟩
 ·rw [h1]; exact ⟨fun _=>.inl h2,fun _=>by rw [rC]; decide⟩
 ·rw [h1]; exact ⟨fun h=>.inr ⟨h2,h⟩,fun h=>by rcases h with h | h; omega; exact h.2⟩
 ·rw [h1]; exact ⟨fun h=>absurd h (by rw [rD]; decide),fun h=>by rcases h with h | h<;>omega⟩
theorem VB (o:aI) (a:List Int):¬ iz o a a:=by
 rintro (h | ⟨_,h⟩)
 ·omega
 ·rw [Vn] at h; omega
theorem VC {o:aI} {a b c:List Int} (h1:iz o a b) (h2:iz o b c):iz o a c:=by
 rcases h1 with h1 | ⟨h1,h3⟩<;>rcases h2 with h2 | ⟨h2,h4⟩
 ·exact .inl (by omega)
 ·exact .inl (by omega)
 ·exact .inl (by omega)
 ·exact .inr ⟨by omega,lex_trans h3 h4⟩
theorem afs (o:aI) (a b:List Int):iz o a b∨a=b∨iz o b a:=by
 rcases LK (ei o a) (ei o b) with h | h | h
 ·exact .inl (.inl h)
 ·rcases LK (lex a b) 0 with h2 | h2 | h2
  ·exact .inl (.inr ⟨h,h2⟩)
  ·exact .inr (.inl (Vo h2))
  ·exact .inr (.inr (.inr ⟨h.symm,Vm.2 h2⟩))
 ·exact .inr (.inr (.inl h))
theorem VA {o:aI} {a b:List Int} (h:iz o a b):¬ iz o b a:=fun h2=>VB o a (VC h h2)
section
variable {o:aI} {g:List Int×(List Int×Unit)→Option Int}
def ri (o:aI) (g:List Int×(List Int×Unit)→Option Int) (l:List (List Int)):Prop:=∀ a∈l,∀ b∈l,g (a,(b,()))=some (nS o a b)
theorem K3 {a b:List Int} (h:g (a,(b,()))=some (nS o a b)):qG g a b=true↔iz o a b:=by
 unfold qG; rw [h]; simp only [decide_eq_true_iff]; exact Ra
theorem TH {a b:List Int} (h:g (a,(b,()))=some (nS o a b)):qn g a b=true↔¬ iz o a b:=by
 unfold qn; rw [h]; simp only [du,decide_eq_false_iff_not]; exact not_congr Ra
abbrev mQ (o:aI) (l:List (List Int)):Prop:=l.Pairwise fun a b=>a=b∨iz o a b
theorem KC {x y:List Int} {l:List (List Int)}:y∈nn g x l↔y=x∨y∈l:=by
 rw [(KD (g:=g) x l).mem_iff,cS]
theorem Ud (x:List Int):∀ l:List (List Int),ri o g (x::l)→mQ o l→mQ o (nn g x l)
 | [],_,_=>List.pairwise_singleton _ _
 | y::r,hg,hs=>by
   have hs':=zH.1 hs
   unfold nn
   cases h:qG g y x with
   | true=>
     have hlt:=(K3 (hg y (by simp) x (by simp))).1 h
     refine zH.2 ⟨fun z hz=>?_,Ud x r (fun a ha b hb=>hg a (by rcases cS.1 ha with h | h; simp [h]; simp [h]) b (by rcases cS.1 hb with h | h; simp [h]; simp [h])) hs'.2⟩
     rcases KC.1 hz with h | h
     ·rw [h]; exact .inr hlt
     ·exact hs'.1 z h
   | false=>
     have hge:¬ iz o y x:=fun h2=>by rw [(K3 (hg y (by simp) x (by simp))).2 h2] at h; cases h
     have hxy:x=y∨iz o x y:=by
      rcases afs o x y with h | h | h
      ·exact .inr h
      ·exact .inl h
      ·exact absurd h hge
     refine zH.2 ⟨fun z hz=>?_,hs⟩
     rcases cS.1 hz with h | h
     ·rw [h]; exact hxy
     ·rcases hs'.1 z h with h2 | h2
      ·rw [←h2]; exact hxy
      ·rcases hxy with h3 | h3
       ·rw [h3]; exact .inr h2
       ·exact .inr (VC h3 h2)
theorem WC (xs:List (List Int)) (hg:ri o g xs):mQ o (jc g xs):=by
 unfold jc
 have key:∀ (ys l:List (List Int)),ri o g (ys++l)→mQ o l→mQ o (ys.foldl (fun l x=>nn g x l) l):=by
  intro ys
  induction ys with
  | nil=>intro l _ h; exact h
  | cons y ys ih=>
    intro l hg h
    refine ih _ ?_ (Ud y l (fun a ha b hb=>hg a (by rcases cS.1 ha with h | h<;>simp [h]) b (by rcases cS.1 hb with h | h<;>simp [h])) h)
    intro a ha b hb
    refine hg a ?_ b ?_
    ·rcases dD.1 ha with h | h
     ·simp [h]
     ·rcases KC.1 h with h | h<;>simp [h]
    ·rcases dD.1 hb with h | h
     ·simp [h]
     ·rcases KC.1 h with h | h<;>simp [h]
 exact key xs [] (by simpa using hg) List.Pairwise.nil
theorem WD:∀ (l:List (List Int)),ri o g l→mQ o l→nr g l=true
 | [],_,_=>rfl
 | x::r,hg,hs=>by
   have hs':=zH.1 hs
   unfold nr
   simp only [au,fj,nz,decide_eq_true_eq]
   refine ⟨⟨(TH (hg x (by simp) x (by simp))).2 (VB o x),fun y hy=>?_⟩,WD r (fun a ha b hb=>hg a (by simp [ha]) b (by simp [hb])) hs'.2⟩
   rcases hs'.1 y hy with h | h
   ·exact .inl h
   ·exact .inr ⟨(K3 (hg x (by simp) y (by simp [hy]))).2 h,(TH (hg y (by simp [hy]) x (by simp))).2 (VA h)⟩
end
theorem akX {o:aI} {l m:List (List Int)} (hp:l.Perm m) (hl:mQ o l) (hm:mQ o m):l=m:=by
 refine List.Perm.eq_of_pairwise (le:=fun a b=>a=b∨iz o a b) ?_ hl hm hp
 rintro a b _ _ (h | h) (h2 | h2)
 ·exact h
 ·exact h
 ·exact h2.symm
 ·exact absurd h2 (VA h)
theorem W7 {o:aI} {w:List UInt8} (ho:oE o=0):∀ (f:Nat) (n:Nd),Ok o w n→∀ l∈wy o w f n,l.all (cQ o)=true
 | 0,_,_,l,h=>absurd h (by simp [wy])
 | f+1,n,hn,l,h=>by
   unfold wy at h
   cases he:n.2.2.1==(w.length:Int) with
   | true=>
     rw [he,cond_true] at h
     cases hf:decide (n.2.1≥0)&&gT o n.2.1 (fb o n.1) [] with
     | true=>rw [hf,cond_true] at h; rw [gX.1 h]; rfl
     | false=>rw [hf,cond_false] at h; cases h
   | false=>
     rw [he,cond_false] at h
     obtain ⟨m,hm,h2⟩:=DP.1 h
     obtain ⟨l',hl',rfl⟩:=dd.1 h2
     have h3:=ns ho hn hm
     have h4:=W7 ho f m h3.1 l' hl'
     rw [dJ,h4,iG]
     exact iY.2 ⟨h3.2.2,h3.1.s⟩
def gl:Nd:=(-1,(-1,(0,())))
theorem zj (o:aI) (w:List UInt8):Ok o w gl:=⟨by show (-1:Int) < _; omega,by show (-1:Int) < _; omega,by show (0:Int)≤0; omega,by show (0:Int)≤_; omega⟩
def W0 (o:aI) (w:List UInt8):List (List Int):=ways o w gl
theorem uw {o:aI} {w:List UInt8} (h:gy o w=0) {l:List Int} (hl:l∈W0 o w):l.all (cQ o)=true∧l.length≤16:=by
 obtain ⟨ho,h0,h1⟩:=s5 h
 refine ⟨W7 ho _ _ (zj o w) l hl,?_⟩
 have:=LB ho _ _ (zj o w) l hl
 have h2:rm w gl≤w.length:=by unfold rm gl; simp
 omega
def dS (o:aI) (l:List (List Int)):List (List Int):=jc (fun p=>some (nS o p.1 p.2.1)) l
theorem u6 (o:aI) (l:List (List Int)):(dS o l).Perm l:=zi l
theorem Rk (o:aI) (l:List (List Int)):mQ o (dS o l):=WC l fun _ _ _ _=>rfl
def gu (o:aI) (w:List UInt8):List (List Int)×Int:=cond (gy o w != 0) ([],gy o w) (cond ((W0 o w).length==0) ([],9) (cond (decide (200 < (W0 o w).length)) ([],3) (dS o (W0 o w),0)))
theorem WX (o:aI) (w:List UInt8):cg 2000 o w=some (gu o w):=by
 unfold cg gu
 simp only [JP,g16,v40,ar]
 cases hg:gy o w != 0 with
 | true=>rfl
 | false=>
   have hg0:gy o w=0:=by simpa using hg
   obtain ⟨ho,hw0,hw1⟩:=s5 hg0
   obtain ⟨mp,hI,h1⟩:=W3 ho (by omega) gl [] (zj o w) (fun p hp=>absurd hp (by simp))
   have h1':aW 2000 (o,w,[],()) ((-1:Int),(-1:Int),(0:Int),())=some ((o,(w,(mp,()))),cn o w gl):=h1
   have hc:cn o w gl=((min 201 (W0 o w).length:Nat):Int):=rfl
   simp only [aB,cond_false,h1',ar]
   cases hz:(W0 o w).length==0 with
   | true=>
     have hz':(W0 o w).length=0:=by simpa using hz
     have:(cn o w gl==0)=true:=by rw [hc,hz']; rfl
     rw [this]; rfl
   | false=>
     have hz':(W0 o w).length≠0:=by simpa using hz
     have e1:(cn o w gl==0)=false:=beq_eq_false_iff_ne.2 (by rw [hc]; omega)
     rw [e1]
     simp only [aB,cond_false]
     by_cases h200:200 < (W0 o w).length
     ·have e2:decide (cn o w gl > 200)=true:=decide_eq_true (by rw [hc]; omega)
      rw [e2,decide_eq_true h200]; rfl
     ·have e2:decide (cn o w gl > 200)=false:=decide_eq_false (by rw [hc]; omega)
      rw [e2,decide_eq_false h200]
      simp only [aB,cond_false]
      obtain ⟨mp2,_,h2⟩:=aec ho (show w.length≤100 by omega) 250 gl mp (zj o w) (by unfold rm gl; simp; omega) hI (show (ways o w gl).length≤200 from by have:(W0 o w).length=(ways o w gl).length:=rfl; omega)
      have hal:al o w gl=W0 o w:=L7 (fun e=>hz' (by unfold W0; rw [e]; rfl))
      rw [hal] at h2
      have h2':bS 2000 (o,(w,(mp,()))) ((-1:Int),(-1:Int),(0:Int),())=some ((o,(w,(mp2,()))),W0 o w):=h2
      simp only [h2',ar]
      have hG:ri o (fun (x0:List Int×(List Int×Unit))=>((gD 2000 x0.1 x0.2.1 o).bind fun b=>some [.v (.int .i64) b]).bind (j7 (.int .i64))) (W0 o w):=by
       intro a ha b hb
       have h3:=uw hg0 ha
       have h4:=uw hg0 hb
       simp only [v44 o ho a b ⟨h3.1,by omega⟩ ⟨h4.1,by omega⟩,ar]
       rfl
      have hG2:∀ {g:List Int×(List Int×Unit)→Option Int},ri o g (W0 o w)→tT g (W0 o w)=some (dS o (W0 o w)):=by
       intro g hG
       have hp:=zi (g:=g) (W0 o w)
       have hs:=WC (W0 o w) hG
       have hok:=WD (jc g (W0 o w)) (fun a ha b hb=>hG a (hp.mem_iff.1 ha) b (hp.mem_iff.1 hb)) hs
       unfold tT
       rw [if_pos ⟨fun e=>hz' (by rw [e]; rfl),by omega,hok⟩]
       rw [akX (hp.trans (u6 o _).symm) hs (Rk o _)]
      have h5:eV 2000 (fun (x0:List Int×(List Int×Unit))=>((gD 2000 x0.1 x0.2.1 o).bind fun b=>some [.v (.int .i64) b]).bind (j7 (.int .i64))) (W0 o w)=some (dS o (W0 o w)):=by
       unfold eV
       exact hG2 hG
      rw [h5]
      rfl
theorem zW {o:aI} {w:List UInt8} (h:(gu o w).2=0):gy o w=0∧W0 o w≠[]∧(W0 o w).length≤200∧(gu o w).1=dS o (W0 o w):=by
 unfold gu at h ⊢
 cases hg:gy o w != 0 with
 | true=>rw [hg,cond_true] at h; simp only at h; rw [h] at hg; cases hg
 | false=>
   rw [hg,cond_false] at h
   cases hz:(W0 o w).length==0 with
   | true=>rw [hz,cond_true] at h; cases h
   | false=>
     rw [hz,cond_false] at h
     by_cases h200:200 < (W0 o w).length
     ·rw [decide_eq_true h200,cond_true] at h; cases h
     ·rw [decide_eq_false h200]
      exact ⟨by simpa using hg,fun e=>by rw [e] at hz; (cases hz),by omega,rfl⟩
theorem Rj {o:aI} {w:List UInt8} (h:W0 o w≠[]):∃ a r,dS o (W0 o w)=a::r∧a∈W0 o w∧∀ l∈W0 o w,ei o a≤ei o l:=by
 cases hd:dS o (W0 o w) with
 | nil=>
   have:=(u6 o (W0 o w)).length_eq
   rw [hd] at this
   exact absurd (kK.1 this.symm) h
 | cons a r=>
   have hp:=u6 o (W0 o w)
   rw [hd] at hp
   have hs:=Rk o (W0 o w)
   rw [hd] at hs
   refine ⟨a,r,rfl,hp.mem_iff.1 (by simp),fun l hl=>?_⟩
   rcases cS.1 (hp.mem_iff.2 hl) with h1 | h1
   ·rw [h1]; omega
   ·rcases (zH.1 hs).1 l h1 with h2 | h2 | h2
    ·rw [h2]; omega
    ·omega
    ·omega
def Aa (o:aI) (w:List UInt8):List Int×(Int×Int):=cond ((gu o w).2 != 0) ([],(0,(gu o w).2)) ((gu o w).1.getD 0 [],(ei o ((gu o w).1.getD 0 []),0))
theorem v13 (o:aI) (w:List UInt8):cW 2000 o w=some (Aa o w):=by
 unfold cW Aa
 simp only [JD,g13,WX,ar]
 cases h:(gu o w).2 != 0 with
 | true=>rfl
 | false=>
   obtain ⟨hg,hne,h200,h1⟩:=zW (show (gu o w).2=0 by simpa using h)
   obtain ⟨a,r,h2,h3,_⟩:=Rj hne
   have h4:=uw hg h3
   rw [h1,h2]
   have c:(0≤(0:Int)∧(0:Int) < ((a::r).length:Int))=True:=by rw [eq_iff_iff,iff_true]; simp only [fk]; omega
   have c2:((0:Int).toNat < (a::r).length)=True:=by rw [eq_iff_iff,iff_true]; simp
   have e:(a::r).getD ((0:Int).toNat) []=a:=rfl
   have e':(a::r).getD 0 []=a:=rfl
   simp only [aB,cond_false,c,c2,if_true,e,e',Lv o a (s5 hg).1 h4.1 (by omega),ar]
def yM (o:aI):List Int→List bT
 | []=> []
 | j::_=>(sg o j).2.1
def lv (o:aI):List bT→List Int→Bool
 | _,[]=>true
 | bf,i::r=>gT o i bf (yM o r)&&lv o (sg o i).2.1 r
theorem VN {o:aI} {w:List UInt8} {n:Nd}:∀ (ys pre:List bI) (j:Nat),o.2.1=pre++ys→j < ys.length→jG o w n (ys.getD j g0)=true→oN n ((pre.length+j:Nat):Int) (ys.getD j g0)∈dY o w n ys (pre.length:Int)
 | [],_,_,_,h,_=>by simp at h
 | y::ys,pre,0,hl,h,hk=>by
   have hk':jG o w n y=true:=hk
   unfold dY
   rw [hk',cond_true]
   exact List.mem_cons_self ..
 | y::ys,pre,j+1,hl,h,hk=>by
   have h1:=VN ys (pre++[y]) j (by rw [hl,bx]) (by simpa using h) hk
   have hlen:((pre++[y]).length:Int)=(pre.length:Int)+1:=by simp
   have hlen2:(((pre++[y]).length+j:Nat):Int)=((pre.length+(j+1):Nat):Int):=by simp only [cm,iJ]; omega
   rw [hlen,hlen2] at h1
   unfold dY
   cases jG o w n y with
   | true=>rw [cond_true]; exact fm _ h1
   | false=>rw [cond_false]; exact h1
theorem aga {o:aI} {w:List UInt8} {n:Nd} {i:Int} (hi:cQ o i=true) (hk:jG o w n (sg o i)=true):oN n i (sg o i)∈dY o w n o.2.1 0:=by
 have h:=iY.1 hi
 have:=VN (o:=o) (w:=w) (n:=n) o.2.1 [] i.toNat rfl (by omega) hk
 simp only [dC,jQ] at this
 rw [show ((i.toNat:Nat):Int)=i by omega] at this
 exact this
theorem ar4 {o:aI} (ho:oE o=0) {l:List Int} (hi:l.all (cQ o)=true) (h:gB o l=[]):l=[]:=by
 cases l with
 | nil=>rfl
 | cons i r=>
   simp only [dJ,au] at hi
   have h1:=(kW (nu ho (iY.1 hi.1))).2.2.1
   simp only [gB,List.append_eq_nil_iff] at h
   exact absurd h.1 h1
def acc (o:aI) (w:List UInt8) (n:Nd) (l:List Int):Prop:=
 l.all (cQ o)=true∧gB o l=w.drop n.2.2.1.toNat∧(n.2.1 < 0∨gT o n.2.1 (fb o n.1) (yM o l)=true)∧lv o (fb o n.2.1) l=true
theorem asH {o:aI} {w:List UInt8} (ho:oE o=0):∀ (k:Nat) (n:Nd),rm w n < k→Ok o w n→(n.2.1 < 0→n.2.2.1 < (w.length:Int))→∀ l,l∈ways o w n↔acc o w n l:=by
 intro k
 induction k with
 | zero=>intro n h; omega
 | succ k ih=>
   intro n hk hn hs l
   have he0:=hn.e0; have he1:=hn.e1
   cases he:n.2.2.1==(w.length:Int) with
   | true=>
     have he':n.2.2.1=(w.length:Int):=by simpa using he
     have hs0:¬ n.2.1 < 0:=fun h=>by have:=hs h; omega
     have hd:w.drop n.2.2.1.toNat=[]:=List.drop_eq_nil_of_le (by omega)
     rw [Lx he,decide_eq_true (show n.2.1≥0 by omega),fV]
     unfold acc
     rw [hd]
     constructor
     ·intro h
      cases hf:gT o n.2.1 (fb o n.1) [] with
      | false=>rw [hf] at h; cases h
      | true=>
        rw [hf,cond_true] at h
        rw [gX.1 h]
        exact ⟨rfl,rfl,.inr hf,rfl⟩
     ·rintro ⟨h1,h2,h3,_⟩
      have:=ar4 ho h1 h2
      subst this
      rcases h3 with h3 | h3
      ·exact absurd h3 hs0
      ·have h3':gT o n.2.1 (fb o n.1) []=true:=h3
       rw [h3',cond_true]; exact gX.2 rfl
   | false=>
     have he':n.2.2.1≠(w.length:Int):=by simpa using he
     rw [DA ho hn he,DP]
     constructor
     ·rintro ⟨m,hm,h2⟩
      obtain ⟨l',hl',rfl⟩:=dd.1 h2
      have h3:=ns ho hn hm
      have h4:=K5 ho hn o.2.1 [] rfl hm
      obtain ⟨a1,a2,a3,a4⟩:=(ih m (by omega) h3.1 (fun h=>absurd h (by omega)) l').1 hl'
      have hix:cQ o m.2.1=true:=iY.2 ⟨h3.2.2,h3.1.s⟩
      have hok:=h4.2.2.2.2.2.2
      unfold jG at hok
      simp only [au,nz,decide_eq_true_eq] at hok
      obtain ⟨r,hr⟩:=Lg.1 hok.1
      have hm0:¬ m.2.1 < 0:=by omega
      refine ⟨by rw [dJ,hix,a1]; rfl,?_,hok.2,?_⟩
      ·simp only [gB]
       rw [a2,hr]
       congr 1
       have:m.2.2.1.toNat=n.2.2.1.toNat+(sg o m.2.1).1.length:=by rw [h4.2.2.2.2.2.1]; omega
       rw [this,←zE,hr,DF]
      ·unfold lv
       rw [au]
       refine ⟨?_,?_⟩
       ·rcases a3 with a3 | a3
        ·exact absurd a3 hm0
        ·rw [h4.1] at a3; exact a3
       ·have e:fb o m.2.1=(sg o m.2.1).2.1:=by unfold fb; rw [decide_eq_false hm0]; rfl
        rw [←e]; exact a4
     ·rintro ⟨h1,h2,h3,h4⟩
      cases l with
      | nil=>
        have:w.drop n.2.2.1.toNat=[]:=h2.symm
        have:=List.drop_eq_nil_iff.1 this
        omega
      | cons i r=>
        simp only [dJ,au] at h1
        have hix:=iY.1 h1.1
        have hi0:¬ i < 0:=by omega
        have ht:(sg o i).1++gB o r=w.drop n.2.2.1.toNat:=h2
        have hok:jG o w n (sg o i)=true:=by
         unfold jG
         rw [au,nz,decide_eq_true_eq]
         exact ⟨Lg.2 ⟨_,ht.symm⟩,h3⟩
        have hm:=aga h1.1 hok
        have h5:=ns ho hn hm
        refine ⟨oN n i (sg o i),hm,dd.2 ⟨r,?_,rfl⟩⟩
        unfold lv at h4
        rw [au] at h4
        have e:fb o i=(sg o i).2.1:=by unfold fb; rw [decide_eq_false hi0]; rfl
        refine (ih (oN n i (sg o i)) (by omega) h5.1 (fun h=>absurd h hi0) r).2 ⟨h1.2,?_,.inr h4.1,by show lv o (fb o i) r=true; rw [e]; exact h4.2⟩
        show gB o r=w.drop (n.2.2.1+((sg o i).1.length:Int)).toNat
        have:(n.2.2.1+((sg o i).1.length:Int)).toNat=n.2.2.1.toNat+(sg o i).1.length:=by omega
        rw [this,←zE,←ht,DF]
theorem L6 {o:aI} {w:List UInt8} (ho:oE o=0) (hw:w≠[]) (l:List Int):l∈W0 o w↔l.all (cQ o)=true∧gB o l=w∧lv o [] l=true:=by
 have hpos:0 < w.length:=zG.2 hw
 rw [show (l∈W0 o w)=(l∈ways o w gl) from rfl,asH ho _ gl (Nat.lt_succ_self _) (zj o w) (fun _=>by show (0:Int) < _; omega)]
 unfold acc
 have e1:w.drop gl.2.2.1.toNat=w:=rfl
 have e2:fb o gl.2.1=[]:=rfl
 rw [e1,e2]
 exact ⟨fun h=>⟨h.1,h.2.1,h.2.2.2⟩,fun h=>⟨h.1,h.2.1,.inl (by show (-1:Int) < 0; decide),h.2.2⟩⟩
def C3 (o:aI) (l:List Int):List bT:=match l.getLast? with | none=> [] | some j=>(sg o j).2.1
theorem aeb (o:aI) (l:List Int) (j:Int):C3 o (l++[j])=(sg o j).2.1:=by unfold C3; simp
theorem atf {o:aI} (ho:oE o=0) {l:List Int} (hi:l.all (cQ o)=true):(C3 o l).length≤2:=by
 rcases LR l with h | ⟨l',s,h⟩
 ·subst h; simp [C3]
 ·rw [LO] at h
  subst h
  rw [aeb]
  simp only [List.all_append,dJ,nA,iG,au] at hi
  exact (kW (nu ho (iY.1 hi.2))).1
def asZ (o:aI) (w:List UInt8) (l:List Int):Int×Int:=cond (gy o w != 0) (0,gy o w) (cond (!l.all (cQ o)) (0,6) (cond (gB o l != w) (0,1) (cond (lv o [] l) (ei o l,0) (0,19))))
theorem aeI {R:Type} (k0:Bool→Option R) (K:Option R):
  ∀ (ys pre zs pre2:List Int) (m:Nat),ys.length < m→(pre++ys).length≤bF→pre.length=pre2.length→ys.length=zs.length→
    tt k0 (fun _ _ _=>K) m (pre++ys) (pre2++zs) (pre.length:Int)=ad (ys==zs) K (k0 false):=by
 intro ys
 induction ys with
 | nil=>
   intro pre zs pre2 m hm hb hp hz
   have:zs=[]:=kK.1 hz.symm
   subst this
   cases m with
   | zero=>omega
   | succ m=>
     unfold tt
     simp only [xN,xJ,xK,xL,xM,xO,sL,eC,aB]
     rfl
 | cons y ys ih=>
   intro pre zs pre2 m hm hb hp hz
   obtain ⟨z,zs,rfl⟩:∃ z zs',zs=z::zs':=by
    cases zs with
    | nil=>simp at hz
    | cons z zs=>exact ⟨z,zs,rfl⟩
   cases m with
   | zero=>omega
   | succ m=>
     have hwr:=eE pre ys y hb
     have i2:(0≤(pre.length:Int)∧(pre.length:Int) < ((pre2++z::zs).length:Int))=True:=by rw [hp]; exact dH _ _ _
     have a2:(pre2++z::zs).getD (gL (pre.length:Int)) (0:Int)=z:=by rw [hp]; exact dt _ _ _ _
     have e:((y::ys)==(z::zs))=(y==z&&ys==zs):=rfl
     unfold tt
     simp only [xN,xJ,xK,xL,xM,xO,sL,ew,dH,dt,if_true,aK,hwr,i2,a2,e]
     cases h:y==z with
     | false=>
       have:(y != z)=true:=by unfold bne; rw [h]; rfl
       simp only [this,aK,jP,aB]
     | true=>
       have:(y != z)=false:=by unfold bne; rw [h]; rfl
       simp only [this,aB,fV]
       rw [bx pre ys y,bx pre2 zs z]
       exact ih (pre++[y]) zs (pre2++[z]) m (by simpa using hm) (by rw [←bx]; exact hb) (by simp [hp]) (by simpa using hz)
theorem v53 (a b:List Int) (h:a.length < 2000):bA 2000 a b=some (a==b):=by
 unfold bA
 simp only [xN,xJ,xK,xL,xM,xO,sL]
 by_cases hl:a.length=b.length
 ·have e:((a.length:Int) != (b.length:Int))=false:=by simp [hl]
  have:=aeI (R:=Bool) some (some true) a [] b [] 2000 h (by unfold bF; simp; omega) rfl hl
  simp only [cO,dC] at this
  simp only [e,aB]
  refine dB this ?_
  cases a==b<;>rfl
 ·have e:((a.length:Int) != (b.length:Int))=true:=bne_iff_ne.2 (by omega)
  simp only [e,aK]
  have:(a==b)=false:=beq_eq_false_iff_ne.2 fun e=>hl (congrArg kJ e)
  rw [this]
theorem aeF {R:Type} (k0:Bool→Option R) (K:Option R) (x:List Int):
  ∀ (ys pre:List (List Int)) (m:Nat),ys.length < m→(pre++ys).length≤bF→(∀ y∈ys,y.length < 2000)→
    tk (bA 2000) k0 (fun _ _ _=>K) m (pre++ys) x (pre.length:Int)=ad (ys.any (· ==x)) (k0 true) K:=by
 intro ys
 induction ys with
 | nil=>
   intro pre m hm hb hy
   cases m with
   | zero=>omega
   | succ m=>
     unfold tk
     simp only [w8,w9,xb,xc,xd,xe,sA,eC,aB,uh]
 | cons y ys ih=>
   intro pre m hm hb hy
   cases m with
   | zero=>omega
   | succ m=>
     have hwr:=eE pre ys y hb
     have hgo:=ih (pre++[y]) m (by simpa using hm) (by rw [←bx]; exact hb) (fun z hz=>hy z (fm _ hz))
     rw [←bx] at hgo
     unfold tk
     simp only [w8,w9,xb,xc,xd,xe,sA,ew,dH,dt,if_true,aK,hwr,v53 y x (hy y (by simp)),ar,nB]
     cases y==x with
     | true=>rfl
     | false=>simp only [aB,ny]; exact hgo
theorem v31 (L:List (List Int)) (x:List Int) (h:L.length < 2000) (hy:∀ y∈L,y.length < 2000):dx 2000 L x=some (L.any (· ==x)):=by
 unfold dx
 simp only [w8,w9,xb,xc,xd,xe,sA]
 have:=aeF (R:=Bool) some (some false) x L [] 2000 h (by unfold bF; simp; omega) hy
 simp only [cO,dC] at this
 refine dB this ?_
 cases L.any (· ==x)<;>rfl
def qJ:List UInt8×(List (List UInt8×(List (Int×(Int×(List UInt8×Unit)))×(Int×(Int×Unit))))×Unit):=([108,97,116,105,110],([([97],([(1,(3,([97],())))],(1,(0,())))),([101],([(1,(3,([101],())))],(1,(0,())))),([105],([(1,(3,([105],())))],(1,(0,())))),([111],([(1,(3,([111],())))],(1,(0,())))),([117],([(1,(3,([117],())))],(1,(0,())))),([121],([(1,(3,([121],())))],(1,(0,())))),([97,95],([(1,(2,([97,95],())))],(1,(0,())))),([101,95],([(1,(2,([101,95],())))],(1,(0,())))),([105,95],([(1,(2,([105,95],())))],(1,(0,())))),([111,95],([(1,(2,([111,95],())))],(1,(0,())))),([117,95],([(1,(2,([117,95],())))],(1,(0,())))),([121,95],([(1,(2,([121,95],())))],(1,(0,())))),([97,94],([(1,(1,([97,94],())))],(1,(0,())))),([101,94],([(1,(1,([101,94],())))],(1,(0,())))),([105,94],([(1,(1,([105,94],())))],(1,(0,())))),([111,94],([(1,(1,([111,94],())))],(1,(0,())))),([117,94],([(1,(1,([117,94],())))],(1,(0,())))),([121,94],([(1,(1,([121,94],())))],(1,(0,())))),([97,101],([(2,(2,([97,101],())))],(1,(0,())))),([97,117],([(2,(2,([97,117],())))],(1,(0,())))),([111,101],([(2,(2,([111,101],())))],(1,(0,())))),([101,117],([(2,(2,([101,117],())))],(3,(0,())))),([105],([(8,(0,([105],())))],(0,(2,())))),([105],([(8,(0,([105],()))),(8,(0,([105],())))],(0,(3,())))),([117],([(8,(0,([117],())))],(0,(2,())))),([117],([(8,(0,([117],())))],(0,(3,())))),([106],([(8,(0,([106],())))],(0,(0,())))),([118],([(8,(0,([118],())))],(0,(0,())))),([113,117],([(3,(0,([113,117],())))],(0,(1,())))),([103,117],([(3,(0,([103,117],())))],(2,(1,())))),([115,117],([(6,(0,([115],()))),(8,(0,([117],())))],(3,(1,())))),([98],([(3,(0,([98],())))],(0,(0,())))),([99],([(3,(0,([99],())))],(0,(0,())))),([100],([(3,(0,([100],())))],(0,(0,())))),([102],([(3,(0,([102],())))],(0,(0,())))),([103],([(3,(0,([103],())))],(0,(0,())))),([107],([(3,(0,([107],())))],(0,(0,())))),([112],([(3,(0,([112],())))],(0,(0,())))),([116],([(3,(0,([116],())))],(0,(0,())))),([108],([(4,(0,([108],())))],(0,(0,())))),([114],([(4,(0,([114],())))],(0,(0,())))),([109],([(5,(0,([109],())))],(0,(0,())))),([110],([(5,(0,([110],())))],(0,(0,())))),([115],([(6,(0,([115],())))],(0,(0,())))),([120],([(7,(0,([120],())))],(0,(0,())))),([122],([(7,(0,([122],())))],(0,(0,())))),([104],([(9,(0,([104],())))],(0,(0,()))))],()))
theorem Vj:dy 2000=some qJ:=by kernel_rfl
theorem Xp:cg 2000 qJ [97,114,109,97]=some ([[0,40,41,0]],0):=by kernel_rfl
theorem Xq:cg 2000 qJ [116,114,111,105,97,101]=some ([[38,40,3,23,18],[38,40,3,2,18],[38,40,3,23,0,1],[38,40,3,2,0,1]],0):=by kernel_rfl
theorem Xr:cW 2000 qJ [105,97,109]=some ([22,0,41],1,0):=by kernel_rfl
theorem Xs:gN 2000 qJ [38,40,3,23,18]=some ([0,1,2,3,3,4],0):=by kernel_rfl
theorem Xt:iQ 2000 qJ [97,114,109,113]=some (3,0):=by kernel_rfl
theorem v11:eG 2000=some true:=by
 unfold eG
 simp only [Jr,g11,Vj,ar]
 rw [Xp,Xq,Xr,Xs,Xt]
 kernel_rfl
end Go.Fw.L19
