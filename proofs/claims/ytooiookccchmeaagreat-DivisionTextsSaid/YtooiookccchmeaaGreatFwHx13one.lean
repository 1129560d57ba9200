/- Own work. -/
import Derived.Test.YtooiookccchmeaaGreatFwMx13
import Derived.Test.YtooiookccchmeaaGreatFwB6
import Derived.Test.YtooiookccchmeaaGreatFwB7
set_option linter.unusedVariables false
set_option linter.unusedSimpArgs false
open Bool renaming not_true → eK, not_false → gM, and_eq_true → au, true_or → tL, false_or → oQ, or_eq_true → nB, false_eq_true → ew, and_true → gV, eq_iff_iff → tK, true_and → fW, false_and → j0, not_eq_true' → du, and_false → Lm
open Eq renaming trans → eg
open Int renaming toNat → fP, lt_trichotomy → Lo
open List renaming length_pos_iff → zf, all_eq_true → fH, mem_range → Dn, map_cons → fX, append_assoc → bJ, length_append → cd, length_cons → eG, length_map → nD, length_nil → ei, nil_append → cY, any_nil → zc, any_cons → oU, length_eq_zero_iff → mN, length → lh, all_cons → dP, all_nil → mM, length_singleton → gW, mem_append → dv, mem_singleton → gX, mem_cons_of_mem → fx, eq_nil_or_concat → Dd, concat_eq_append → Da, all_eq_false → Ls, mem_map → df, mem_cons → cU, replicate → ka, append_nil → je, length_replicate → Lx, length_drop → nC, flatMap_cons → ze, mem_flatMap → Dm, pairwise_cons → qV, drop_drop → zd, drop_left → Dc, all_append → oT
open List.cons renaming injEq → gC
open Nat renaming zero_add → kc
open Option renaming bind_some → ar
open Prod.mk renaming injEq → eN
open UInt8 renaming ofNat → mS
namespace Go.Fw.L19
open Go Go.Fw
set_option maxRecDepth 100000
abbrev WD:Type:=Int×(Int×(List (List UInt8)×Unit))
abbrev Lic:Type:=List UInt8×(List WD×Unit)
def sm (c:Int):Bool:=decide (c≥97)&&decide (c≤122)
def dg (c:Int):Bool:=decide (c≥48)&&decide (c≤57)
theorem Wq (c:Int):cK 2000 c=some (sm c):=by
 unfold cK sm
 simp only [Je,B6]
 cases decide (c≥97)<;>rfl
theorem La (c:Int):cH 2000 c=some (sm c):=by
 unfold cH sm
 simp only [I4,BU]
 cases decide (c≥97)<;>rfl
theorem arl (c:Int):dq 2000 c=some (dg c):=by
 unfold dq dg
 simp only [Jf,B7]
 cases decide (c≥48)<;>rfl
theorem Wp (c:Int):bu 2000 c=some (dg c):=by
 unfold bu dg
 simp only [I5,BV]
 cases decide (c≥48)<;>rfl
theorem ad7 (s:List UInt8) (hs:s.length≤bN) {R:Type} (k:Int→Option R):
  ∀ (m:Nat) (i:Int),0≤i→i≤s.length+1→yw (cK 2000) (dq 2000) k (fun _ i=>k i) m s i=ql (cH 2000) (bu 2000) (fun _ i=>k i) m s i:=by
 intro m
 induction m with
 | zero=>intro i _ _; rfl
 | succ m ih=>
   intro i h0 h1
   unfold yw ql
   simp only [B0,BX,BY,BZ,B3,vU,vl,vi,vj,vk,vm,se,Wq,arl,La,Wp,ar]
   by_cases hi:i < (s.length:Int)
   ·have d:decide (i < (s.length:Int))=true:=decide_eq_true hi
    have hb:0≤i∧i < (s.length:Int):=⟨h0,hi⟩
    have w1:IntKind.i64.wrap (i+1)=i+1:=fw (by unfold bN at hs; omega)
    have w2:IntKind.i64.wrap (i+2)=i+2:=fw (by unfold bN at hs; omega)
    simp only [d,aN,if_pos hb,w1,w2]
    generalize hc:((s.getD i.toNat 0).toNat:Int)=c
    cases h3:sm c with
    | true=>simp only [aN]; exact ih (i+1) (by omega) (by omega)
    | false=>
      simp only [aC]
      cases h4:dg c with
      | true=>simp only [aN]; exact ih (i+1) (by omega) (by omega)
      | false=>
        simp only [aC]
        by_cases h5:c=45
        ·have e1:(c==(45:Int))=true:=by simpa using h5
         have e2:(c != (45:Int))=false:=by simp [h5]
         simp only [e1,e2,aN,aC]
         by_cases h6:i+1 < (s.length:Int)
         ·have e3:decide (i+1 < (s.length:Int))=true:=decide_eq_true h6
          have e4:((i+1)==(s.length:Int))=false:=by
           simp only [beq_eq_false_iff_ne,ne_eq]; omega
          have hb2:0≤i+1∧i+1 < (s.length:Int):=by omega
          simp only [e3,e4,aN,aC,if_pos hb2]
          generalize ((s.getD (i+1).toNat 0).toNat:Int)=c2
          cases h7:sm c2 with
          | true=>simp only [aN,eK,aC]; exact ih (i+2) (by omega) (by omega)
          | false=>
            simp only [aC,gM,aN]
            cases h8:dg c2 with
            | true=>simp only [aN,eK,aC]; exact ih (i+2) (by omega) (by omega)
            | false=>simp only [aC,gM,aN]
         ·have e3:decide (i+1 < (s.length:Int))=false:=decide_eq_false h6
          have e4:((i+1)==(s.length:Int))=true:=by
           simp only [beq_iff_eq]; omega
          simp only [e3,e4,aN,aC]
        ·have e1:(c==(45:Int))=false:=by simpa using h5
         have e2:(c != (45:Int))=true:=by simpa using h5
         simp only [e1,e2,aN,aC]
   ·have d:decide (i < (s.length:Int))=false:=decide_eq_false hi
    simp only [d,aC]
theorem ad8 (s:List UInt8) (hs:s.length≤bN):
  ∀ (m:Nat) (i:Int),0≤i→i≤s.length+1→(s.length:Int)+1 - i < m→∃ n,ql (cH 2000) (bu 2000) (fun _ i=>some i) m s i=some n:=by
 intro m
 induction m with
 | zero=>intro i h0 h1 h2; omega
 | succ m ih=>
   intro i h0 h1 h2
   unfold ql
   simp only [vl,vi,vj,vk,vm,se,La,Wp,ar]
   by_cases hi:i < (s.length:Int)
   ·have d:decide (i < (s.length:Int))=true:=decide_eq_true hi
    have hb:0≤i∧i < (s.length:Int):=⟨h0,hi⟩
    have w1:IntKind.i64.wrap (i+1)=i+1:=fw (by unfold bN at hs; omega)
    have w2:IntKind.i64.wrap (i+2)=i+2:=fw (by unfold bN at hs; omega)
    simp only [d,aN,if_pos hb,w1,w2]
    generalize hc:((s.getD i.toNat 0).toNat:Int)=c
    cases h3:sm c with
    | true=>simp only [aN]; exact ih (i+1) (by omega) (by omega) (by omega)
    | false=>
      simp only [aC]
      cases h4:dg c with
      | true=>simp only [aN]; exact ih (i+1) (by omega) (by omega) (by omega)
      | false=>
        simp only [aC]
        cases e2:(c != (45:Int)) with
        | true=>exact ⟨i,by simp only [aN]⟩
        | false=>
          simp only [aC]
          by_cases h6:i+1 < (s.length:Int)
          ·have e4:((i+1)==(s.length:Int))=false:=by
            simp only [beq_eq_false_iff_ne,ne_eq]; omega
           have hb2:0≤i+1∧i+1 < (s.length:Int):=by omega
           simp only [e4,aC,if_pos hb2]
           generalize ((s.getD (i+1).toNat 0).toNat:Int)=c2
           cases h7:sm c2 with
           | true=>simp only [eK,aC]; exact ih (i+2) (by omega) (by omega) (by omega)
           | false=>
             simp only [gM,aN]
             cases h8:dg c2 with
             | true=>simp only [eK,aC]; exact ih (i+2) (by omega) (by omega) (by omega)
             | false=>exact ⟨i,by simp only [gM,aN]⟩
          ·have e4:((i+1)==(s.length:Int))=true:=by
            simp only [beq_iff_eq]; omega
           exact ⟨i,by simp only [e4,aN]⟩
   ·have d:decide (i < (s.length:Int))=false:=decide_eq_false hi
    exact ⟨i,by simp only [d,aC]⟩
theorem v141 (s:List UInt8) (hs:s.length < 1900):∃ n,hP 2000 s=some n∧gY 2000 s=some n:=by
 have hb:s.length≤bN:=by unfold bN; omega
 have e1:=ad7 s hb (R:=Int) some 2000 1 (by omega) (by omega)
 obtain ⟨n,e2⟩:=ad8 s hb 2000 1 (by omega) (by omega) (by omega)
 unfold hP gY
 simp only [B0,BX,BY,BZ,B3,vU,vl,vi,vj,vk,vm,se,Wq,La,ar]
 cases h0:(s==([]:List UInt8)) with
 | true=>exact ⟨0,by simp only [aN],by simp only [aN]⟩
 | false=>
   have hne:s≠[]:=by simpa using h0
   have hp:0 < s.length:=zf.2 hne
   have hb0:(0:Int)≤0∧(0:Int) < (s.length:Int):=by omega
   simp only [aC,if_pos hb0]
   cases sm ((s.getD (0:Int).toNat 0).toNat:Int) with
   | false=>exact ⟨0,by simp only [gM,aN],by simp only [gM,aN]⟩
   | true=>
     refine ⟨n,?_,?_⟩
     ·simp only [eK,aC]
      rw [e2] at e1; exact e1
     ·simp only [eK,aC]
      exact e2
theorem ard (s:List UInt8):∃ b,fy 2000 s=some b∧ft 2000 s=some b:=by
 unfold fy ft
 simp only [I0,BR,JK,Cp]
 cases h0:(s != ([]:List UInt8)) with
 | false=>exact ⟨false,by simp only [aC],by simp only [aC]⟩
 | true=>
   simp only [aN]
   by_cases h1:(s.length:Int)≤20
   ·obtain ⟨n,e1,e2⟩:=v141 s (by omega)
    have d:decide ((s.length:Int)≤20)=true:=decide_eq_true h1
    exact ⟨n==(s.length:Int),by simp only [d,aN,e1,ar],by simp only [d,aN,e2,ar]⟩
   ·have d:decide ((s.length:Int)≤20)=false:=decide_eq_false h1
    exact ⟨false,by simp only [d,aC],by simp only [d,aC]⟩
def dF (c:Int):Bool:=match dh 2000 c with | some b=>b | none=>false
theorem adV:((List.range 256).all fun n=>b6 2000 (n:Int)==some (dF (n:Int))&&dh 2000 (n:Int)==some (dF (n:Int)))=true:=by kernel_rfl
theorem Lc (b:UInt8):b6 2000 (b.toNat:Int)=some (dF (b.toNat:Int))∧dh 2000 (b.toNat:Int)=some (dF (b.toNat:Int)):=by
 have:=fH.1 adV b.toNat (Dn.2 b.toNat_lt)
 simp only [au,beq_iff_eq] at this
 exact this
def fl (b:UInt8):UInt8:=if 65≤b.toNat∧b.toNat≤90 then mS (b.toNat+32) else b
def fold (s:List UInt8):List UInt8:=s.map fl
theorem XF (b:UInt8) (h:65≤b.toNat∧b.toNat≤90):IntKind.u8.wrap (IntKind.u8.wrap ((b.toNat:Int) - 65)+97)=((fl b).toNat:Int):=by
 have e:(fl b).toNat=b.toNat+32:=by
  unfold fl; rw [if_pos h]
  simp [UInt8.toNat_ofNat]
  omega
 rw [e]
 have w:∀ n:Int,0≤n→n≤255→IntKind.u8.wrap n=n:=by
  intro n h0 h1
  simp only [IntKind.wrap,IntKind.signed,IntKind.bits]
  simp
  omega
 rw [w ((b.toNat:Int) - 65) (by omega) (by omega),w ((b.toNat:Int) - 65+97) (by omega) (by omega)]
 omega
theorem Xa (s:List UInt8):(s.map fun b=>(b.toNat:Int)).map (fun n=>mS n.toNat)=s:=by
 rw [List.map_map]
 conv=>rhs; rw [←List.map_id s]
 apply List.map_congr_left
 intro b _
 simp
theorem aj8 {α:Type} (pre ys:List α) (y z:α):(pre++y::ys).set (fP (pre.length:Int)) z=pre++z::ys:=by simp
theorem tn {α:Type} (pre ys:List α) (y:α):(fP (pre.length:Int) < (pre++y::ys).length)=True:=by simp
theorem ad0 {R:Type} (k0:List Int→Int→Int→Option R):
  ∀ (ys:List UInt8) (pre:List Int) (m:Nat),ys.length < m→(pre++ys.map fun b=>(b.toNat:Int)).length≤bN→
    tg k0 m (pre++ys.map fun b=>(b.toNat:Int)) ((pre++ys.map fun b=>(b.toNat:Int)).length:Int) (pre.length:Int)=k0 (pre++(fold ys).map fun b=>(b.toNat:Int)) ((pre++ys.map fun b=>(b.toNat:Int)).length:Int) ((pre++ys.map fun b=>(b.toNat:Int)).length:Int):=by
 intro ys
 induction ys with
 | nil=>
   intro pre m hm hb
   cases m with
   | zero=>simp at hm
   | succ m=>
     unfold tg
     simp only [xP,xL,xM,xN,xO,xQ,sL,List.map_nil,fk,aC]
     simp [fold]
 | cons y ys ih=>
   intro pre m hm hb
   cases m with
   | zero=>simp at hm
   | succ m=>
     rw [fX] at hb ⊢
     unfold tg
     simp only [xP,xL,xM,xN,xO,xQ,sL,eQ,dZ,dL,if_true,aN,tn,aj8,fo pre _ _ hb]
     by_cases h1:65≤y.toNat∧y.toNat≤90
     ·have d1:decide ((y.toNat:Int)≥65)=true:=decide_eq_true (by omega)
      have d2:decide ((y.toNat:Int)≤90)=true:=decide_eq_true (by omega)
      simp only [d1,d2,aN,XF y h1]
      have:=ih (pre++[((fl y).toNat:Int)]) m (by simpa using hm) (by simpa using hb)
      simp only [bJ,List.singleton_append,cd,eG,nD,ei] at this ⊢
      simp only [fold,fX] at this ⊢
      exact this
     ·have hf:fl y=y:=by unfold fl; rw [if_neg h1]
      have step:=ih (pre++[(y.toNat:Int)]) m (by simpa using hm) (by simpa using hb)
      simp only [bJ,List.singleton_append,cd,eG,nD,ei] at step ⊢
      simp only [fold,fX,hf] at step ⊢
      by_cases h2:65≤y.toNat
      ·have d1:decide ((y.toNat:Int)≥65)=true:=decide_eq_true (by omega)
       have d2:decide ((y.toNat:Int)≤90)=false:=decide_eq_false (by omega)
       simp only [d1,d2,aN,aC]
       exact step
      ·have d1:decide ((y.toNat:Int)≥65)=false:=decide_eq_false (by omega)
       simp only [d1,aC]
       exact step
theorem v72 (s:List UInt8) (hs:s.length < 2000):eB 2000 s=some (fold s):=by
 unfold eB
 have:=ad0 (R:=List UInt8) (fun x _ _=>some (x.map fun n=>mS n.toNat)) s [] 2000 hs (by unfold bN; simp; omega)
 simp only [xP,xL,xM,xN,xO,xQ,sL]
 simp only [cY,ei,Xa] at this
 exact this
abbrev bO:Type:=Int×(Int×(List UInt8×Unit))
abbrev s0:bO:=((0:Int),((0:Int),([],())))
def gJ (s:bO):Bool:=s.1==1 || s.1==2
theorem v87 (s:bO):cZ 2000 s=some (gJ s):=by
 unfold cZ
 simp only [JJ,sO,gJ]
 cases h:(s.1==(1:Int))<;>simp only [aN,aC,tL,oQ]
theorem asv (s:bO):fI 2000 s=some (gJ s):=by
 unfold fI
 simp only [IV,BQ,gJ]
 cases h:(s.1==(1:Int))<;>simp only [aN,aC,tL,oQ]
def asa (l:List bO):Int:=
 if 0 < l.length∧gJ (l.getD (l.length - 1) s0)=true then 1
 else if 1 < l.length∧gJ (l.getD (l.length - 2) s0)=true∧(l.getD (l.length - 1) s0).1=5∧(l.getD (l.length - 1) s0).2.2.1=[109] then 2
 else 0
theorem asy {n k:Nat} (h:k≤n) (hb:n≤bN):IntKind.i64.wrap ((n:Int) - (k:Int))=((n - k:Nat):Int):=by
 rw [fw]
 ·omega
 ·unfold bN at hb; omega
def nb (s:bO):Bool:=s.1 != 9
def jn (p:bO→Bool):List bO→Nat→Int
 | [],_=> -1
 | y::ys,i=>if p y then (i:Int) else jn p ys (i+1)
def asi (l:List bO):Int:=if jn nb l 0 < 0 then (l.length:Int) else jn nb l 0
def ue:List bO→Nat→Int
 | [],_=> -1
 | y::ys,i=>if gJ y then (i:Int) else if nb y then -1 else ue ys (i+1)
def arY (l:List bO):Bool:=decide (0≤ue l 0)
theorem Rf (p:bO→Bool):∀ (l:List bO) (i:Nat),jn p l i= -1∨((i:Int)≤jn p l i∧jn p l i < (i:Int)+l.length)
 | [],i=>.inl rfl
 | y::ys,i=>by
   simp only [jn]
   split
   ·right; simp; omega
   ·rcases Rf p ys (i+1) with h | h
    ·exact .inl h
    ·right; simp only [eG]; omega
theorem afs {s:bO} (h:gJ s=true):nb s=true:=by
 unfold gJ at h; unfold nb
 simp only [nB,beq_iff_eq] at h
 simp only [bne_iff_ne,ne_eq]
 omega
theorem Xe:∀ (l:List bO) (i:Nat),(ue l i=if 0≤jn nb l i∧gJ (l.getD (jn nb l i - i).toNat s0)=true then jn nb l i else -1)
 | [],i=>by simp [ue,jn]
 | y::ys,i=>by
   simp only [ue,jn]
   by_cases h1:gJ y=true
   ·simp only [h1,afs h1,if_true]
    have:(0:Int)≤(i:Int):=by omega
    simp [this,h1]
   ·have h1:gJ y=false:=by simpa using h1
    simp only [h1,ew,if_false]
    by_cases h2:nb y=true
    ·simp only [h2,if_true]
     simp [h1]
    ·have h2:nb y=false:=by simpa using h2
     simp only [h2,ew,if_false]
     rw [Xe ys (i+1)]
     rcases Rf nb ys (i+1) with h | h
     ·rw [h]; simp
     ·have e:(jn nb ys (i+1) - (i:Int)).toNat=(jn nb ys (i+1) - ((i+1:Nat):Int)).toNat+1:=by omega
      rw [e]
      simp only [List.getD_cons_succ]
def jM (c:Int):Bool:=(decide (c≥97)&&decide (c≤122)) || ((decide (c≥48)&&decide (c≤57)) || ((c==95) || ((c==94) || (c==39))))
def fE (s:List UInt8):Bool:=s.any fun b=>!jM (b.toNat:Int)
theorem aro (c:Int):hY 2000 c=some (jM c):=by
 unfold hY jM
 simp only [Jj,Cb]
 cases decide (c≥97)<;>cases decide (c≤122)<;>cases decide (c≥48)<;>cases decide (c≤57)<;>cases (c==95)<;>cases (c==94)<;>rfl
theorem arj (c:Int):dw 2000 c=some (jM c):=by
 unfold dw jM
 simp only [I6,BW]
 cases decide (c≥97)<;>cases decide (c≤122)<;>cases decide (c≥48)<;>cases decide (c≤57)<;>cases (c==95)<;>cases (c==94)<;>rfl
theorem Wx {c:Int} (h:128≤c):jM c=false:=by
 unfold jM
 have h1:decide (c≤122)=false:=decide_eq_false (by omega)
 have h2:decide (c≤57)=false:=decide_eq_false (by omega)
 have h3:(c==95)=false:=by simp; omega
 have h4:(c==94)=false:=by simp; omega
 have h5:(c==39)=false:=by simp; omega
 rw [h1,h2,h3,h4,h5]; simp
theorem v154 (c:Int):hX 2000 c=some (!jM c):=by
 unfold hX
 simp only [Ji,Ca,aro,ar]
theorem Xv (s:ByteArray) (i:Nat) (h:128≤(s.get! (i+0)).toNat):128≤(Utf8.decode s i).1:=by
 unfold Utf8.decode
 simp only [Utf8.runeError]
 rw [if_neg (by omega)]
 repeat' split
 all_goals first | (simp only; omega) | (simp only [ge_iff_le,au,decide_eq_true_eq] at *; omega)
theorem Xx (s:ByteArray) (i:Nat) (h:(s.get! (i+0)).toNat < 128):Utf8.decode s i=((s.get! (i+0)).toNat,1):=by
 unfold Utf8.decode
 simp only
 rw [if_pos h]
theorem get_at (pre ys:List UInt8) (y:UInt8):(⟨⟨pre++y::ys⟩⟩:ByteArray).get! (pre.length+0)=y:=by
 show (⟨pre++y::ys⟩:Array UInt8)[pre.length+0]! =y
 simp
theorem ad1 (f:Int×Unit→Option Bool) (hf:∀ c,f (c,())=some (!jM c)) {R:Type} (k0:Int→Option R) (k2:(Int×Unit→Option Bool)→Bool→List UInt8→Nat→Bool→Option R) (e:Option R) (hk:∀ a b c d g,k2 a b c d g=e):
  ∀ (ys pre:List UInt8) (m:Nat),ys.length < m→
    ∃ j:Int,0≤j∧s5 k0 k2 m f true (pre++ys) pre.length=(if fE ys=true then k0 j else e):=by
 intro ys
 induction ys with
 | nil=>
   intro pre m hm
   cases m with
   | zero=>simp at hm
   | succ m=>
     refine ⟨0,by omega,?_⟩
     have h:decide (pre.length < (pre++([]:List UInt8)).length)=false:=by simp
     unfold s5
     simp only [wB,wC,wD,wF,wG,wH,ss,h,aC,hk,fE,zc,ew,if_false]
 | cons y ys ih=>
   intro pre m hm
   cases m with
   | zero=>simp at hm
   | succ m=>
     have h:decide (pre.length < (pre++y::ys).length)=true:=by simp
     unfold s5
     simp only [wB,wC,wD,wF,wG,wH,ss,h,aN,hf,ar]
     by_cases hy:y.toNat < 128
     ·have hd:Utf8.decode ⟨⟨pre++y::ys⟩⟩ pre.length=(y.toNat,1):=by
       have:=Xx ⟨⟨pre++y::ys⟩⟩ pre.length (by rw [get_at]; exact hy)
       rwa [get_at] at this
      simp only [hd]
      cases hw:jM (y.toNat:Int) with
      | false=>
        refine ⟨(pre.length:Int),by omega,?_⟩
        have:fE (y::ys)=true:=by unfold fE; rw [oU,hw]; rfl
        simp only [gM,beq_self_eq_true,aN,this,if_true]
      | true=>
        obtain ⟨j,hj,h2⟩:=ih (pre++[y]) m (by simpa using hm)
        refine ⟨j,hj,?_⟩
        have e1:fE (y::ys)=fE ys:=by unfold fE; rw [oU,hw]; rfl
        have e2:((!true)==true)=false:=rfl
        have e3:pre.length+1=(pre++[y]).length:=by simp
        simp only [e2,aC]
        rw [e1,←h2,←bE pre ys y,←e3]
     ·have hd:128≤(Utf8.decode ⟨⟨pre++y::ys⟩⟩ pre.length).1:=Xv _ _ (by rw [get_at]; omega)
      have hw1:jM ((Utf8.decode ⟨⟨pre++y::ys⟩⟩ pre.length).1:Int)=false:=Wx (by omega)
      have hw2:jM (y.toNat:Int)=false:=Wx (by omega)
      have:fE (y::ys)=true:=by unfold fE; rw [oU,hw2]; rfl
      refine ⟨(pre.length:Int),by omega,?_⟩
      simp only [hw1,gM,beq_self_eq_true,aN,this,if_true]
theorem arn (f:Int×Unit→Option Bool) (hf:∀ c,f (c,())=some (!jM c)) (s:List UInt8) (hs:s.length < 2000):hR 2000 s f=some (fE s):=by
 obtain ⟨j,hj,h⟩:=ad1 f hf (R:=Int) some (fun _ _ _ _ _=>some (-1)) (some (-1)) (fun _ _ _ _ _=>rfl) s [] 2000 hs
 have h1:ia 2000 s f true=(if fE s=true then some j else some (-1)):=by
  unfold ia
  simp only [wB,wC,wD,wF,wG,wH,ss]
  simpa using h
 have h2:hZ 2000 s f=(if fE s=true then some j else some (-1)):=by
  unfold hZ
  simp only [Jk,Cc,h1]
  split<;>rfl
 unfold hR
 simp only [Jh,B9,h2]
 cases fE s with
 | true=>
   have:decide (j≥0)=true:=decide_eq_true hj
   simp only [if_true,ar,this]
 | false=>
   simp only [ew,if_false,ar]
   rfl
def qI (s:bO):Bool:=cond (s.1==1) (decide (s.2.1≥1)&&decide (s.2.1≤3)) (cond (s.1==2) (s.2.1==2) (s.2.1==0))
def oN (s:bO):Int:=cond (decide (s.1 < 1)) 1 (cond (decide (s.1 > 9)) 1 (cond (!qI s) 6 (cond (s.2.2.1==[]) 7 (cond (decide ((s.2.2.1.length:Int) > 8)) 3 (cond (fE s.2.2.1) 2 0)))))
theorem v152 (s:bO):hQ 2000 s=some (qI s):=by
 unfold hQ qI
 simp only [Jg,B8]
 cases (s.1==1)<;>cases (s.1==2)<;>cases decide (s.2.1≥1)<;>rfl
theorem arN (s:bO):dx 2000 s=some (oN s):=by
 unfold dx oN
 simp only [Jc,B5,v152,ar]
 cases decide (s.1 < 1) with
 | true=>rfl
 | false=>
   simp only [aC,cond_false]
   cases decide (s.1 > 9) with
   | true=>rfl
   | false=>
     simp only [aC,cond_false]
     cases qI s with
     | false=>rfl
     | true=>
       simp only [eK,aC,cond_false]
       cases (s.2.2.1==[]) with
       | true=>rfl
       | false=>
         simp only [aC,cond_false]
         cases hd:decide ((s.2.2.1.length:Int) > 8) with
         | true=>rfl
         | false=>
           simp only [aC,cond_false]
           have hl:s.2.2.1.length≤8:=by
            have:=of_decide_eq_false hd
            omega
           rw [arn _ (fun c=>by simp only [v154,ar,jZ]; rfl) s.2.2.1 (by omega)]
           simp only [ar]
           cases fE s.2.2.1<;>rfl
theorem afh {R:Type} (k0:Int→Option R) (k1:bO→Int→Option R) (e:Option R) (hk:∀ a b,k1 a b=e) (a b:Int) (u:Unit):
  ∀ (ys pre:List UInt8) (m:Nat),ys.length < m→(pre++ys).length≤bN→
    sX (dw 2000) k0 k1 m (a,b,(pre++ys),u) (pre.length:Int)=(if fE ys=true then k0 2 else e):=by
 intro ys
 induction ys with
 | nil=>
   intro pre m hm hb
   cases m with
   | zero=>simp at hm
   | succ m=>
     unfold sX
     simp only [vA,vz,vu,vw,vx,vy,vB,sh,fk,aC,hk,fE,zc,ew,if_false]
 | cons y ys ih=>
   intro pre m hm hb
   cases m with
   | zero=>simp at hm
   | succ m=>
     unfold sX
     simp only [vA,vz,vu,vw,vx,vy,vB,sh,eQ,dZ,dL,if_true,aN,arj,ar]
     cases hw:jM (y.toNat:Int) with
     | false=>
       have:fE (y::ys)=true:=by unfold fE; rw [oU,hw]; rfl
       simp only [gM,aN,this,if_true]
     | true=>
       have e1:fE (y::ys)=fE ys:=by unfold fE; rw [oU,hw]; rfl
       simp only [eK,aC,fo pre ys y hb]
       rw [e1,bE pre ys y,ih (pre++[y]) m (by simpa using hm) (by rw [←bE]; exact hb)]
theorem v117 (s:bO):bK 2000 s=some (oN s):=by
 unfold bK oN
 obtain ⟨a,b,t,u⟩:=s
 simp only [vA,vz,vu,vw,vx,vy,vB,sh]
 cases decide (a < 1) with
 | true=>rfl
 | false=>
   simp only [aC,cond_false]
   cases decide (a > 9) with
   | true=>rfl
   | false=>
     simp only [aC,cond_false]
     have hq:∀ (K:Bool→Option Int),ad (a==1) (ad (decide (b≥1)) (ad (a==2) (K (b==2)) (K (decide (b≤3)))) (ad (a==2) (K (b==2)) (K false))) (ad (a==2) (K (b==2)) (K (b==0)))=K (qI (a,b,t,u)):=by
      intro K
      unfold qI
      by_cases h1:a=1
      ·subst h1
       have e:((1:Int)==2)=false:=rfl
       have e':((1:Int)==1)=true:=rfl
       simp only [e,e',aN,aC,cond_true]
       cases decide (b≥1)<;>rfl
      ·have e:(a==1)=false:=by simpa using h1
       simp only [e,aC,cond_false]
       cases (a==2)<;>rfl
     rw [hq fun q=>ad (!q) _ _]
     cases qI (a,b,t,u) with
     | false=>rfl
     | true=>
       simp only [eK,aC,cond_false]
       cases (t==[]) with
       | true=>rfl
       | false=>
         simp only [aC,cond_false]
         cases hd:decide ((t.length:Int) > 8) with
         | true=>rfl
         | false=>
           simp only [aC,cond_false]
           have hl:t.length≤8:=by
            have:=of_decide_eq_false hd
            omega
           have:=afh (R:=Int) some (fun _ _=>some 0) (some 0) (fun _ _=>rfl) a b u t [] 2000 (by omega) (by unfold bN; simp; omega)
           simp only [cY,ei,Int.natCast_zero] at this
           rw [this]
           cases fE t<;>rfl
def jL:List bO→Int
 | []=>0
 | s::r=>cond (oN s != 0) (oN s) (jL r)
abbrev cQ:Type:=List UInt8×(List bO×(Int×(Int×Unit)))
abbrev aJ:Type:=List UInt8×(List cQ×Unit)
abbrev g0:cQ:=([],([],((0:Int),((0:Int),()))))
theorem L1:∀ s:List UInt8,Op.bytesLess s s=false
 | []=>rfl
 | b::s=>by
   simp only [Op.bytesLess]
   simp [L1 s]
def mI (a b:bO):Bool:=(a.1==b.1)&&((a.2.1==b.2.1)&&((a.2.2.1==b.2.2.1)&&true))
def fv:List bO→List bO→Bool
 | [],[]=>true
 | x::xs,y::ys=>mI x y&&fv xs ys
 | _,_=>false
theorem akb {a b:bO} (h:mI a b=true):a=b:=by
 obtain ⟨a1,a2,a3,a4⟩:=a; obtain ⟨b1,b2,b3,b4⟩:=b
 simp only [mI,gV,au,beq_iff_eq] at h
 obtain ⟨h1,h2,h3⟩:=h
 subst h1; subst h2; subst h3; rfl
theorem akc (a:bO):mI a a=true:=by simp [mI]
theorem C0:∀ {a b:List bO},fv a b=true↔a=b
 | [],[]=>by simp [fv]
 | [],_::_=>by simp [fv]
 | _::_,[]=>by simp [fv]
 | x::xs,y::ys=>by
   simp only [fv,au,gC,C0 (a:=xs) (b:=ys)]
   exact ⟨fun h=>⟨akb h.1,h.2⟩,fun h=>⟨by rw [h.1]; exact akc y,h.2⟩⟩
theorem akd (a b:List bO):fv a b=fv b a:=by
 rw [tK,C0,C0]; exact eq_comm
def CN (a b:Int):Int:=ad (decide (a < b)) (-1) (ad (decide (a > b)) 1 0)
theorem v86 (a b:Int):gP 2000 a b=some (CN a b):=by
 unfold gP CN
 simp only [JI,Co]
 cases decide (a < b)<;>cases decide (a > b)<;>rfl
theorem KS (a b:Int):(CN a b != 0)=!(a==b):=by
 unfold CN
 by_cases h:a < b
 ·rw [decide_eq_true h]; have:(a==b)=false:=beq_eq_false_iff_ne.2 (by omega)
  rw [this]; rfl
 ·by_cases h2:a > b
  ·rw [decide_eq_false h,decide_eq_true h2]; have:(a==b)=false:=beq_eq_false_iff_ne.2 (by omega)
   rw [this]; rfl
  ·rw [decide_eq_false h,decide_eq_false h2]; have:(a==b)=true:=beq_iff_eq.2 (by omega)
   rw [this]; rfl
theorem v59 (a b:bO):∃ n,dD 2000 a b=some n∧(n != 0)=!mI a b:=by
 unfold dD mI
 simp only [Jv,Ck,v86,ar,KS]
 cases h1:a.1==b.1 with
 | false=>exact ⟨_,rfl,by rw [KS,h1]; rfl⟩
 | true=>
   cases h2:a.2.1==b.2.1 with
   | false=>exact ⟨_,rfl,by rw [KS,h2]; rfl⟩
   | true=>
     simp only [eK,aC,fW,gV]
     cases h3:a.2.2.1==b.2.2.1 with
     | true=>
       have h4:a.2.2.1=b.2.2.1:=by simpa using h3
       rw [h4,L1]
       exact ⟨_,rfl,rfl⟩
     | false=>
       cases Op.bytesLess a.2.2.1 b.2.2.1 with
       | true=>exact ⟨_,rfl,rfl⟩
       | false=>exact ⟨_,rfl,rfl⟩
theorem aek {R:Type} (k0:Bool→Option R) (K:Option R):
  ∀ (ys pre zs pre2:List bO) (m:Nat),ys.length < m→(pre++ys).length≤bN→pre.length=pre2.length→ys.length=zs.length→
    s8 (dD 2000) k0 (fun _ _ _=>K) m (pre++ys) (pre2++zs) (pre.length:Int)=ad (fv ys zs) K (k0 false):=by
 intro ys
 induction ys with
 | nil=>
   intro pre zs pre2 m hm hb hp hz
   have:zs=[]:=mN.1 hz.symm
   subst this
   cases m with
   | zero=>omega
   | succ m=>
     unfold s8
     simp only [wS,wO,wP,wQ,wR,wT,su,fk,aC,fv,aN]
 | cons y ys ih=>
   intro pre zs pre2 m hm hb hp hz
   obtain ⟨z,zs,rfl⟩:∃ z zs',zs=z::zs':=by
    cases zs with
    | nil=>simp at hz
    | cons z zs=>exact ⟨z,zs,rfl⟩
   cases m with
   | zero=>omega
   | succ m=>
     have hwr:=fo pre ys y hb
     obtain ⟨n,h1,h2⟩:=v59 y z
     have i2:(0≤(pre.length:Int)∧(pre.length:Int) < ((pre2++z::zs).length:Int))=True:=by rw [hp]; exact dZ _ _ _
     have a2:(pre2++z::zs).getD (fP (pre.length:Int)) s0=z:=by rw [hp]; exact dL _ _ _ _
     unfold s8
     simp only [wS,wO,wP,wQ,wR,wT,su,eQ,dZ,dL,if_true,aN,hwr,i2,a2,h1,ar,h2,fv]
     cases h:mI y z with
     | false=>simp only [gM,aN,j0,aC]
     | true=>
       simp only [eK,aC,fW]
       rw [bE pre ys y,bE pre2 zs z]
       exact ih (pre++[y]) zs (pre2++[z]) m (by simpa using hm) (by rw [←bE]; exact hb) (by simp [hp]) (by simpa using hz)
theorem VV {a b:List bO} (h:a.length≠b.length):fv a b=false:=by
 cases h2:fv a b with
 | false=>rfl
 | true=>exact absurd (congrArg lh (C0.1 h2)) h
theorem v28 (a b:List bO) (h:a.length < 2000):bH 2000 a b=some (fv a b):=by
 unfold bH
 simp only [wS,wO,wP,wQ,wR,wT,su]
 by_cases hl:a.length=b.length
 ·have e:((a.length:Int) != (b.length:Int))=false:=by simp [hl]
  have:=aek (R:=Bool) some (some true) a [] b [] 2000 h (by unfold bN; simp; omega) rfl hl
  simp only [cY,ei] at this
  simp only [e,aC]
  refine eg this ?_
  cases fv a b<;>rfl
 ·have e:((a.length:Int) != (b.length:Int))=true:=bne_iff_ne.2 (by omega)
  simp only [e,aN]
  rw [VV hl]
theorem adR {R:Type} (k0:Bool→Option R) (K:Option R):
  ∀ (ys pre zs pre2:List bO) (m:Nat),ys.length < m→(pre++ys).length≤bN→pre.length=pre2.length→ys.length=zs.length→
    sZ k0 (fun _ _ _ _=>K) m (pre++ys) (pre2++zs) ((pre++ys).length:Int) (pre.length:Int)=ad (fv ys zs) K (k0 false):=by
 intro ys
 induction ys with
 | nil=>
   intro pre zs pre2 m hm hb hp hz
   have:zs=[]:=mN.1 hz.symm
   subst this
   cases m with
   | zero=>omega
   | succ m=>
     unfold sZ
     simp only [vM,vI,vJ,vK,vL,vN,sj,fk,aC,fv,aN]
 | cons y ys ih=>
   intro pre zs pre2 m hm hb hp hz
   obtain ⟨z,zs,rfl⟩:∃ z zs',zs=z::zs':=by
    cases zs with
    | nil=>simp at hz
    | cons z zs=>exact ⟨z,zs,rfl⟩
   cases m with
   | zero=>omega
   | succ m=>
     have hwr:=fo pre ys y hb
     have i2:(0≤(pre.length:Int)∧(pre.length:Int) < ((pre2++z::zs).length:Int))=True:=by rw [hp]; exact dZ _ _ _
     have a2:(pre2++z::zs).getD (fP (pre.length:Int)) s0=z:=by rw [hp]; exact dL _ _ _ _
     unfold sZ
     simp only [vM,vI,vJ,vK,vL,vN,sj,eQ,dZ,dL,if_true,aN,hwr,i2,a2,fv]
     have e:(y.1==z.1&&(y.2.1==z.2.1&&(y.2.2.1==z.2.2.1&&true)))=mI y z:=rfl
     rw [e]
     cases h:mI y z with
     | false=>simp only [gM,aN,j0,aC]
     | true=>
       simp only [eK,aC,fW]
       rw [bE pre ys y,bE pre2 zs z]
       exact ih (pre++[y]) zs (pre2++[z]) m (by simpa using hm) (by rw [←bE]; exact hb) (by simp [hp]) (by simpa using hz)
theorem ari (a b:List bO) (h:a.length < 2000):gZ 2000 a b=some (fv a b):=by
 unfold gZ
 simp only [vM,vI,vJ,vK,vL,vN,sj]
 by_cases hl:a.length=b.length
 ·have e:((a.length:Int) != (b.length:Int))=false:=by simp [hl]
  have:=adR (R:=Bool) some (some true) a [] b [] 2000 h (by unfold bN; simp; omega) rfl hl
  simp only [cY,ei] at this
  simp only [e,aC]
  refine eg this ?_
  cases fv a b<;>rfl
 ·have e:((a.length:Int) != (b.length:Int))=true:=bne_iff_ne.2 (by omega)
  simp only [e,aN]
  rw [VV hl]
def up (b:UInt8):Bool:=decide ((b.toNat:Int)≥65)&&decide ((b.toNat:Int)≤90)
def jC (b:UInt8):Bool:=dF (b.toNat:Int)&&!up b
def tE (s:List UInt8):Int:=cond (s==[]) 7 (cond (decide ((s.length:Int) > 4)) 3 (cond (s.all jC) 0 2))
theorem XG (b:UInt8):(fl b=b)↔up b=false:=by
 unfold fl up
 by_cases h:65≤b.toNat∧b.toNat≤90
 ·rw [if_pos h,decide_eq_true (show (b.toNat:Int)≥65 by omega),decide_eq_true (show (b.toNat:Int)≤90 by omega)]
  constructor
  ·intro e
   have e2:=congrArg UInt8.toNat e
   simp only [UInt8.toNat_ofNat'] at e2
   omega
  ·intro e; cases e
 ·rw [if_neg h]
  have:(decide ((b.toNat:Int)≥65)&&decide ((b.toNat:Int)≤90))=false:=by
   rw [Bool.and_eq_false_iff]
   by_cases h1:65≤b.toNat
   ·exact .inr (decide_eq_false (by omega))
   ·exact .inl (decide_eq_false (by omega))
  rw [this]; simp
theorem IQ:∀ s:List UInt8,(fold s==s)=s.all fun b=>!up b
 | []=>rfl
 | b::s=>by
   rw [tK]
   have ih:=IQ s
   rw [tK] at ih
   simp only [fold,fX,dP,au,beq_iff_eq,gC,du] at ih ⊢
   rw [XG,ih]
theorem afg {R:Type} (k0:Int→Option R) (K:Option R):
  ∀ (ys pre:List UInt8) (m:Nat),ys.length < m→(pre++ys).length≤bN→
    sW (dh 2000) k0 (fun _ _=>K) m (pre++ys) (pre.length:Int)=cond (ys.all jC) K (k0 2):=by
 intro ys
 induction ys with
 | nil=>
   intro pre m hm hb
   cases m with
   | zero=>omega
   | succ m=>
     unfold sW
     simp only [vr,vn,vo,vp,vq,vt,sf,fk,aC,mM,cond_true]
 | cons y ys ih=>
   intro pre m hm hb
   cases m with
   | zero=>omega
   | succ m=>
     have hwr:=fo pre ys y hb
     unfold sW
     simp only [vr,vn,vo,vp,vq,vt,sf,eQ,dZ,dL,if_true,aN,hwr,(Lc y).2,ar,dP,jC,up]
     have hgo:=ih (pre++[y]) m (by simpa using hm) (by rw [←bE]; exact hb)
     rw [←bE] at hgo
     cases dF (y.toNat:Int) with
     | false=>simp only [gM,aN,j0,cond_false]
     | true=>
       simp only [eK,aC,fW]
       cases decide ((y.toNat:Int)≥65) with
       | false=>simp only [aC,j0,gM,fW]; exact hgo
       | true=>
         simp only [aN,fW]
         cases decide ((y.toNat:Int)≤90) with
         | false=>simp only [aC,gM,fW]; exact hgo
         | true=>simp only [aN,eK,j0,cond_false]
theorem arc (s:List UInt8):fJ 2000 s=some (tE s):=by
 unfold fJ tE
 simp only [vr,vn,vo,vp,vq,vt,sf]
 cases h0:s==[] with
 | true=>rfl
 | false=>
   cases h1:decide ((s.length:Int) > 4) with
   | true=>rfl
   | false=>
     have h2:¬ (s.length:Int) > 4:=of_decide_eq_false h1
     have:=afg (R:=Int) some (some 0) s [] 2000 (by omega) (by unfold bN; simp; omega)
     simp only [cY,ei] at this
     simp only [aC,cond_false]
     refine eg this ?_
     cases s.all jC<;>rfl
def qH (v:Int):Bool:=!decide (v < 32)&&!decide (v > 126)
theorem afi {R:Type} (k0:Int→Option R) (K:Option R):
  ∀ (ys pre:List Int) (m:Nat),ys.length < m→(pre++ys).length≤bN→
    s3 k0 (fun _ _ _=>K) m (pre++ys) ((pre++ys).length:Int) (pre.length:Int)=cond (ys.all qH) K (k0 2):=by
 intro ys
 induction ys with
 | nil=>
   intro pre m hm hb
   cases m with
   | zero=>omega
   | succ m=>
     unfold s3
     simp only [wm,wh,wi,wj,wk,wo,sr,fk,aC,mM,cond_true]
 | cons y ys ih=>
   intro pre m hm hb
   cases m with
   | zero=>omega
   | succ m=>
     have hwr:=fo pre ys y hb
     have hl:(fP (pre.length:Int) < (pre++y::ys).length)=True:=tn pre ys y
     unfold s3
     simp only [wm,wh,wi,wj,wk,wo,sr,eQ,dZ,dL,if_true,aN,hwr,hl,dP,qH]
     have hgo:=ih (pre++[y]) m (by simpa using hm) (by rw [←bE]; exact hb)
     rw [←bE] at hgo
     cases decide (y < 32) with
     | true=>simp only [aN,eK,j0,cond_false]
     | false=>
       cases decide (y > 126) with
       | true=>simp only [aN,aC,eK,gM,fW,j0,cond_false]
       | false=>simp only [aC,gM,fW]; exact hgo
def ch (b:UInt8):Int:=(b.toNat:Int)
theorem arp (s:List UInt8) (h:s.length≤120):fL 2000 s=some (cond ((s.map ch).all qH) 0 2):=by
 unfold fL
 have h1:decide ((s.length:Int) > 120)=false:=decide_eq_false (by omega)
 simp only [wm,wh,wi,wj,wk,wo,sr,h1,aC]
 have:=afi (R:=Int) some (some 0) (s.map ch) [] 2000 (by simp; omega) (by unfold bN; simp; omega)
 simp only [cY,ei] at this
 refine eg this ?_
 cases (s.map ch).all qH<;>rfl
abbrev mQ:Type:=Int×(Int×Unit)
structure Jw (P:List Int) (out:List mQ):Prop where
 yes:P.all dF=true→out=if P=[] then [] else [(0,((P.length:Nat):Int),())]
 no:P.all dF=false→out.length≠1∨∃ a b,out=[(a,b,())]∧b - a < (P.length:Int)
 bd:∀ x∈out,0≤x.1∧x.1≤(P.length:Int)∧0≤x.2.1∧x.2.1≤(P.length:Int)
 len:out.length≤P.length
theorem tZ (P:List Int) (y:Int):(P++[y]).all dF=(P.all dF&&dF y):=by simp
theorem Jw.skip {P:List Int} {out:List mQ} {y:Int} (h:Jw P out) (hy:dF y=false):Jw (P++[y]) out:=by
 have ha:(P++[y]).all dF=false:=by rw [tZ,hy,Lm]
 refine ⟨fun e=>by rw [ha] at e; (cases e),fun _=>?_,fun x hx=>?_,by have:=h.len; simp; omega⟩
 ·cases hp:P.all dF with
  | true=>
    rw [h.yes hp]
    split
    ·exact .inl (by simp)
    ·exact .inr ⟨_,_,rfl,by simp; omega⟩
  | false=>
    rcases h.no hp with h1 | ⟨a,b,h1,h2⟩
    ·exact .inl h1
    ·exact .inr ⟨a,b,h1,by simp; omega⟩
 ·have:=h.bd x hx
  simp only [cd,gW]; omega
theorem Jw.ext {P:List Int} {o:List mQ} {a:Int} {y:Int} (h:Jw P (o++[(a,((P.length:Nat):Int),())])) (hy:dF y=true):Jw (P++[y]) (o++[(a,((P.length:Nat):Int)+1,())]):=by
 refine ⟨fun e=>?_,fun e=>?_,fun x hx=>?_,by have:=h.len; simp at this ⊢; omega⟩
 ·rw [tZ,hy,gV] at e
  have h1:=h.yes e
  split at h1
  ·simp at h1
  ·have h2:o=[]:=by
    have:=congrArg lh h1
    simp at this; exact mN.1 (by simpa using this)
   subst h2
   simp only [cY,gC,eN,and_true] at h1
   rw [if_neg (by simp),h1]
   simp
 ·rw [tZ,hy,gV] at e
  rcases h.no e with h1 | ⟨a',b',h1,h2⟩
  ·exact .inl (by simpa using h1)
  ·have h3:o=[]:=by
    have:=congrArg lh h1
    simp at this; exact mN.1 (by simpa using this)
   subst h3
   simp only [cY,gC,eN,and_true] at h1
   exact .inr ⟨a,_,rfl,by simp; omega⟩
 ·simp only [cd,gW]
  rcases dv.1 hx with h1 | h1
  ·have:=h.bd x (List.mem_append_left _ h1); omega
  ·have h2:=h.bd (a,((P.length:Nat):Int),()) (by simp)
   simp only [gX] at h1
   subst h1
   simp only at h2 ⊢; omega
theorem Jw.new {P:List Int} {out:List mQ} {y:Int} (h:Jw P out) (hy:dF y=true) (hn:∀ o a,out≠o++[(a,((P.length:Nat):Int),())]):Jw (P++[y]) (out++[(((P.length:Nat):Int),((P.length:Nat):Int)+1,())]):=by
 refine ⟨fun e=>?_,fun e=>?_,fun x hx=>?_,by have:=h.len; simp; omega⟩
 ·rw [tZ,hy,gV] at e
  have h1:=h.yes e
  split at h1
  ·rename_i hp; subst hp; subst h1; simp
  ·exact absurd h1 (hn [] 0)
 ·rw [tZ,hy,gV] at e
  cases out with
  | nil=>
    refine .inr ⟨_,_,rfl,?_⟩
    cases P with
    | nil=>cases e
    | cons p P=>simp; omega
  | cons x o=>exact .inl (by simp)
 ·simp only [cd,gW]
  rcases dv.1 hx with h1 | h1
  ·have:=h.bd x h1; omega
  ·simp only [gX] at h1
   subst h1
   simp only; omega
theorem afj {R:Type} (K:List mQ→Option R):
  ∀ (ys pre:List Int) (m:Nat) (out:List mQ),ys.length < m→(pre++ys).length≤120→(∀ v∈ys,b6 2000 v=some (dF v))→Jw pre out→
    ∃ o,Jw (pre++ys) o∧qo (b6 2000) (fun o _ _ _=>K o) m out (pre++ys) ((pre++ys).length:Int) (pre.length:Int)=K o:=by
 intro ys
 induction ys with
 | nil=>
   intro pre m out hm hb hs hJ
   cases m with
   | zero=>omega
   | succ m=>
     refine ⟨out,by simpa using hJ,?_⟩
     unfold qo
     simp only [we,v8,wa,wb,wc,wg,sq,fk,aC]
 | cons y ys ih=>
   intro pre m out hm hb hs hJ
   cases m with
   | zero=>omega
   | succ m=>
     have hwr:=fo pre ys y (by unfold bN; omega)
     have hl:(fP (pre.length:Int) < (pre++y::ys).length)=True:=tn pre ys y
     have hy:=hs y (by simp)
     have hbp:pre.length < 120:=by simp at hb; omega
     have hgo:∀ o,Jw (pre++[y]) o→∃ o',Jw (pre++y::ys) o'∧qo (b6 2000) (fun o _ _ _=>K o) m o (pre++y::ys) ((pre++y::ys).length:Int) ((pre++[y]).length:Int)=K o':=by
      intro o ho
      have:=ih (pre++[y]) m o (by simpa using hm) (by rw [←bE]; exact hb) (fun v hv=>hs v (fx _ hv)) ho
      rwa [←bE] at this
     unfold qo
     simp only [we,v8,wa,wb,wc,wg,sq,eQ,dZ,dL,if_true,aN,hl,hwr,hy,ar]
     cases hly:dF y with
     | false=>
       simp only [gM,aN]
       exact hgo out (hJ.skip hly)
     | true=>
       simp only [eK,aC]
       have h3:(((pre++[y]).length:Nat):Int)=(pre.length:Int)+1:=by simp
       rcases Dd out with h0 | ⟨o,x,h0⟩
       ·subst h0
        have d:decide ((([]:List mQ).length:Int) > 0)=false:=rfl
        have hl2:(([]:List mQ).length+[((pre.length:Int),(((pre++[y]).length:Nat):Int),())].length≤8796093022208)=True:=by simp
        have hn:=hJ.new hly (by intro o a; simp)
        rw [←h3] at hn
        simp only [d,aC,hl2,if_true]
        exact hgo _ hn
       ·rw [Da] at h0
        subst h0
        have hol:(o++[x]).length≤pre.length:=hJ.len
        have hol':o.length < 120:=by simp at hol; omega
        have d:decide ((((o++[x]).length:Nat):Int) > 0)=true:=decide_eq_true (by simp only [cd,gW]; omega)
        have w2:IntKind.i64.wrap ((((o++[x]).length:Nat):Int) - 1)=(o.length:Int):=by
         have:(((o++[x]).length:Nat):Int) - 1=(o.length:Int):=by simp
         rw [this]; exact fw (by omega)
        have i1:(0≤(o.length:Int)∧(o.length:Int) < (((o++[x]).length:Nat):Int))=True:=by rw [eq_iff_iff,iff_true]; simp only [cd,gW]; omega
        have i2:(fP (o.length:Int) < (o++[x]).length)=True:=by simp
        have g1:(o++[x]).getD (fP (o.length:Int)) ((0:Int),((0:Int),()))=x:=by simp
        have s1:∀ z,(o++[x]).set (fP (o.length:Int)) z=o++[z]:=by intro z; simp
        simp only [d,aN,w2,i1,i2,if_true,g1,s1]
        cases hx:x.2.1==(pre.length:Int) with
        | true=>
          have hx':x.2.1=(pre.length:Int):=by simpa using hx
          obtain ⟨a,b,u⟩:=x
          simp only at hx'
          subst hx'
          have hn:=hJ.ext hly
          rw [←h3] at hn
          simp only [aN,hwr]
          exact hgo _ hn
        | false=>
          have hx':x.2.1≠(pre.length:Int):=by simpa using hx
          have hl2:((o++[x]).length+[((pre.length:Int),(((pre++[y]).length:Nat):Int),())].length≤8796093022208)=True:=by
           simp only [cd,gW,eq_iff_iff,iff_true]; omega
          have hn:=hJ.new hly (by
           intro o' a e
           have:=(List.append_inj' e rfl).2
           simp only [gC,and_true] at this
           rw [this] at hx'
           exact hx' rfl)
          rw [←h3] at hn
          simp only [aC,hl2,if_true]
          exact hgo _ hn
theorem adT:((List.range 256).all fun n=>!dF (n:Int) || qH (n:Int))=true:=by kernel_rfl
theorem adU (b:UInt8) (h:dF (b.toNat:Int)=true):qH (b.toNat:Int)=true:=by
 have:=fH.1 adT b.toNat (Dn.2 b.toNat_lt)
 rw [h] at this
 simpa using this
theorem ark (s:List UInt8):fK 2000 s=some (tE s):=by
 unfold fK tE
 simp only [Jb,B4]
 cases h0:s==[] with
 | true=>rfl
 | false=>
   have h0':s≠[]:=by simpa using h0
   cases h1:decide ((s.length:Int) > 4) with
   | true=>rfl
   | false=>
     have h2:¬ (s.length:Int) > 4:=of_decide_eq_false h1
     simp only [aC,cond_false,v72 s (by omega),ar]
     have hne:(fold s != s)=!(fold s==s):=rfl
     rw [hne,IQ]
     cases hu:s.all fun b=>!up b with
     | false=>
       have:s.all jC=false:=by
        rw [Ls] at hu ⊢
        obtain ⟨b,hb,h3⟩:=hu
        exact ⟨b,hb,by unfold jC; simp only [Bool.not_eq_true] at h3 ⊢; rw [h3,Lm]⟩
       rw [this]; rfl
     | true=>
       have hlk:s.all jC=(s.map ch).all dF:=by
        rw [tK]
        simp only [fH,df,forall_exists_index,and_imp,forall_apply_eq_imp_iff₂] at hu ⊢
        exact ⟨fun h b hb=>by have:=h b hb; unfold jC at this; simp only [au] at this; exact this.1,fun h b hb=>by unfold jC; rw [hu b hb,gV]; exact h b hb⟩
       simp only [eK,aC]
       unfold iM
       simp only [we,v8,wa,wb,wc,wg,sq,arp s (by omega),ar]
       cases hv:(s.map ch).all qH with
       | false=>
         have:s.all jC=false:=by
          rw [hlk,Ls]
          rw [Ls] at hv
          obtain ⟨v,hvm,h3⟩:=hv
          refine ⟨v,hvm,fun h4=>h3 ?_⟩
          obtain ⟨b,_,rfl⟩:=df.1 hvm
          exact adU b h4
         rw [this]; rfl
       | true=>
         have e0:((cond true (0:Int) 2) != 0)=false:=rfl
         simp only [e0,aC]
         obtain ⟨o,hJ,ho⟩:=afj (R:=List mQ×Int) (fun o=>some (o,0)) (s.map ch) [] 2000 [] (by simp; omega) (by simp; omega) (by
          intro v hv
          obtain ⟨b,_,rfl⟩:=df.1 hv
          exact (Lc b).1) ⟨fun _=>rfl,(fun e=>by cases e),(fun x hx=>by simp at hx),by simp⟩
         simp only [cY,ei] at ho hJ
         have hch:(s.map fun b=>(b.toNat:Int))=s.map ch:=rfl
         rw [hch]
         have ho':=ho
         rw [show ((0:Nat):Int)=0 from rfl] at ho'
         simp only [ho']
         have e1:((0:Int) != 0)=false:=rfl
         simp only [ar,e1,aC]
         cases ha:(s.map ch).all dF with
         | true=>
           have h5:=hJ.yes ha
           rw [if_neg (by simpa using h0')] at h5
           subst h5
           have w:IntKind.i64.wrap (s.length:Int)=(s.length:Int):=fw (by omega)
           have hk:s.all jC=true:=by rw [hlk,ha]
           rw [hk]
           simp [w,ad]
         | false=>
           rw [hlk,ha]
           rcases hJ.no ha with h5 | ⟨a,b,h5,h6⟩
           ·have:((o.length:Int) != 1)=true:=bne_iff_ne.2 (by omega)
            rw [this]; rfl
           ·subst h5
            have hbd:=hJ.bd (a,b,()) (by simp)
            simp only [nD] at hbd h6
            have w:IntKind.i64.wrap (b - a)=b - a:=fw (by omega)
            have:(b - a != (s.length:Int))=true:=bne_iff_ne.2 (by omega)
            simp [w,this,ad]
theorem ar4 (n:Int):(n != 0)=!(n==0):=rfl
def ud (x:cQ):Bool:=decide (x.2.2.1 < 0) || (decide (x.2.2.1 > 99) || (decide (x.2.2.2.1 < 0) || decide (x.2.2.2.1 > 4)))
def gE (x:cQ):Int:=cond (tE x.1 != 0) (tE x.1) (cond ((x.2.1.length:Int)==0) 7 (cond (decide ((x.2.1.length:Int) > 2)) 3 (cond (jL x.2.1 != 0) (jL x.2.1) (cond (ud x) 6 0))))
theorem adD {R:Type} (k0:Int→Option R) (K:cQ→Option R) (x:cQ):
  ∀ (ys pre:List bO) (m:Nat),ys.length < m→(pre++ys).length≤bN→
    sY (dx 2000) k0 (fun y0 _ _ _=>K y0) m x (pre++ys) ((pre++ys).length:Int) (pre.length:Int)=cond (jL ys != 0) (k0 (jL ys)) (K x):=by
 intro ys
 induction ys with
 | nil=>
   intro pre m hm hb
   cases m with
   | zero=>omega
   | succ m=>
     unfold sY
     simp only [vG,vC,vD,vE,vF,vH,si,fk,aC,jL]
     rfl
 | cons y ys ih=>
   intro pre m hm hb
   cases m with
   | zero=>omega
   | succ m=>
     have hwr:=fo pre ys y hb
     have hgo:=ih (pre++[y]) m (by simpa using hm) (by rw [←bE]; exact hb)
     rw [←bE] at hgo
     unfold sY
     simp only [vG,vC,vD,vE,vF,vH,si,eQ,dZ,dL,if_true,aN,hwr,arN,ar,jL]
     cases h:oN y != 0 with
     | true=>simp only [aN,cond_true,h]
     | false=>simp only [aC,cond_false]; exact hgo
theorem ael {R:Type} (k0:Int→Option R) (K:cQ→Option R) (t:List UInt8) (r:Int×(Int×Unit)):
  ∀ (ys pre:List bO) (m:Nat),ys.length < m→(pre++ys).length≤bN→
    th (bK 2000) k0 (fun y0 _=>K y0) m (t,(pre++ys,r)) (pre.length:Int)=cond (jL ys != 0) (k0 (jL ys)) (K (t,(pre++ys,r))):=by
 intro ys
 induction ys with
 | nil=>
   intro pre m hm hb
   cases m with
   | zero=>omega
   | succ m=>
     unfold th
     simp only [yc,xY,xZ,ya,yb,yd,sP,fk,aC,jL]
     rfl
 | cons y ys ih=>
   intro pre m hm hb
   cases m with
   | zero=>omega
   | succ m=>
     have hwr:=fo pre ys y hb
     have hgo:=ih (pre++[y]) m (by simpa using hm) (by rw [←bE]; exact hb)
     rw [←bE] at hgo
     unfold th
     simp only [yc,xY,xZ,ya,yb,yd,sP,eQ,dZ,dL,if_true,aN,hwr,v117,ar,jL]
     cases h:oN y != 0 with
     | true=>simp only [aN,cond_true,h]
     | false=>simp only [aC,cond_false]; exact hgo
theorem arf (x:cQ):dn 2000 x=some (gE x):=by
 unfold dn gE
 simp only [vG,vC,vD,vE,vF,vH,si,ark,ar]
 cases tE x.1 != 0 with
 | true=>rfl
 | false=>
   cases (x.2.1.length:Int)==0 with
   | true=>rfl
   | false=>
     cases h:decide ((x.2.1.length:Int) > 2) with
     | true=>rfl
     | false=>
       have h2:¬ (x.2.1.length:Int) > 2:=of_decide_eq_false h
       have:=adD (R:=Int) some (fun x0=>ad (decide (x0.2.2.1 < (0:Int))) (some 6) (ad (decide (x0.2.2.1 > (99:Int))) (some 6) (ad (decide (x0.2.2.2.1 < (0:Int))) (some 6) (ad (decide (x0.2.2.2.1 > (4:Int))) (some 6) (some 0))))) x x.2.1 [] 2000 (by omega) (by unfold bN; simp; omega)
       simp only [cY,ei] at this
       simp only [aC,aN,cond_false]
       refine eg this ?_
       unfold ud
       cases jL x.2.1 != 0<;>cases decide (x.2.2.1 < 0)<;>cases decide (x.2.2.1 > 99)<;>cases decide (x.2.2.2.1 < 0)<;>cases decide (x.2.2.2.1 > 4)<;>rfl
theorem v91 (x:cQ):cL 2000 x=some (gE x):=by
 obtain ⟨t,l,r⟩:=x
 unfold cL gE
 simp only [yc,xY,xZ,ya,yb,yd,sP,arc,ar]
 cases tE t != 0 with
 | true=>rfl
 | false=>
   cases (l.length:Int)==0 with
   | true=>rfl
   | false=>
     cases h:decide ((l.length:Int) > 2) with
     | true=>rfl
     | false=>
       have h2:¬ (l.length:Int) > 2:=of_decide_eq_false h
       have:=ael (R:=Int) some (fun x0=>ad (decide (x0.2.2.1 < (0:Int))) (some 6) (ad (decide (x0.2.2.1 > (99:Int))) (some 6) (ad (decide (x0.2.2.2.1 < (0:Int))) (some 6) (ad (decide (x0.2.2.2.1 > (4:Int))) (some 6) (some 0))))) t r l [] 2000 (by omega) (by unfold bN; simp; omega)
       simp only [cY,ei] at this
       simp only [aC,aN,cond_false]
       refine eg this ?_
       unfold ud
       cases jL l != 0<;>cases decide (r.1 < 0)<;>cases decide (r.1 > 99)<;>cases decide (r.2.1 < 0)<;>cases decide (r.2.1 > 4)<;>rfl
theorem kx {x:cQ} (h:gE x=0):x.2.1.length≤2∧x.2.1≠[]∧x.1≠[]∧x.1.length≤4:=by
 unfold gE at h
 cases h1:tE x.1 != 0 with
 | true=>rw [h1,cond_true] at h; rw [h] at h1; cases h1
 | false=>
   rw [h1,cond_false] at h
   have ht:x.1≠[]∧x.1.length≤4:=by
    unfold tE at h1
    cases h3:x.1==[] with
    | true=>rw [h3] at h1; cases h1
    | false=>
      rw [h3] at h1
      cases h4:decide ((x.1.length:Int) > 4) with
      | true=>rw [h4] at h1; cases h1
      | false=>exact ⟨by simpa using h3,by have:=of_decide_eq_false h4; omega⟩
   cases h2:(x.2.1.length:Int)==0 with
   | true=>rw [h2,cond_true] at h; cases h
   | false=>
     rw [h2,cond_false] at h
     cases h3:decide ((x.2.1.length:Int) > 2) with
     | true=>rw [h3,cond_true] at h; cases h
     | false=>
       have:=of_decide_eq_false h3
       refine ⟨by omega,fun e=>?_,ht.1,ht.2⟩
       rw [e] at h2; cases h2
def yG (t y:cQ):Bool:=(t.1==y.1)&&((t.2.2.2.1==y.2.2.2.1)&&fv t.2.1 y.2.1)
def lz (y:cQ) (pre:List cQ):Bool:=pre.any fun t=>yG t y
def iD:List cQ→List cQ→Int
 | _,[]=>0
 | pre,y::ys=>cond (gE y != 0) (gE y) (cond (lz y pre) 5 (iD (pre++[y]) ys))
def oF (s:List UInt8):Bool:=match ft 2000 s with | some b=>b | none=>false
theorem Vb (s:List UInt8):fy 2000 s=some (oF s)∧ft 2000 s=some (oF s):=by
 obtain ⟨b,h1,h2⟩:=ard s
 have:oF s=b:=by unfold oF; rw [h2]
 rw [this]; exact ⟨h1,h2⟩
def oE (o:aJ):Int:=cond (!oF o.1) 2 (cond ((o.2.1.length:Int)==0) 7 (cond (decide ((o.2.1.length:Int) > 120)) 3 (iD [] o.2.1)))
theorem adX {R:Type} (k0:Int→Option R) (K:Option R) (f:cQ×Unit→Option Bool) (p:cQ→Bool):
  ∀ (ys pre:List cQ) (m:Nat),(∀ t∈ys,f (t,())=some (p t))→ys.length < m→(pre++ys).length≤bN→
    (ys.any p=false→qn k0 (fun _ _ _ _=>K) m (pre++ys) f ((pre++ys).length:Int) (pre.length:Int)=K)∧
    (ys.any p=true→∃ i:Nat,qn k0 (fun _ _ _ _=>K) m (pre++ys) f ((pre++ys).length:Int) (pre.length:Int)=k0 (i:Int)):=by
 intro ys
 induction ys with
 | nil=>
   intro pre m hf hm hb
   cases m with
   | zero=>omega
   | succ m=>
     unfold qn
     simp only [vV,vW,vX,vY,vZ,v7,sn,fk,aC,zc]
     exact ⟨fun _=>trivial,fun h=>by cases h⟩
 | cons y ys ih=>
   intro pre m hf hm hb
   cases m with
   | zero=>omega
   | succ m=>
     have hwr:=fo pre ys y hb
     have hgo:=ih (pre++[y]) m (fun t ht=>hf t (fx _ ht)) (by simpa using hm) (by rw [←bE]; exact hb)
     rw [←bE] at hgo
     unfold qn
     simp only [vV,vW,vX,vY,vZ,v7,sn,eQ,dZ,dL,if_true,aN,hwr,hf y (by simp),ar,oU]
     cases h:p y with
     | true=>simp only [aN,tL]; exact ⟨(fun h=>by cases h),fun _=>⟨pre.length,rfl⟩⟩
     | false=>simp only [aC,oQ]; exact hgo
theorem arh (xs:List cQ) (hx:xs.length < 2000) (f:cQ×Unit→Option Bool) (p:cQ→Bool) (hf:∀ t∈xs,f (t,())=some (p t)):db 2000 xs f=some (xs.any p):=by
 unfold db
 simp only [I1,BS]
 unfold iL
 simp only [vV,vW,vX,vY,vZ,v7,sn]
 have h:=adX (R:=Int) some (some (-1)) f p xs [] 2000 hf hx (by unfold bN; simp; omega)
 simp only [cY,ei] at h
 have z:((0:Nat):Int)=0:=rfl
 rw [z] at h
 cases ha:xs.any p with
 | false=>rw [h.1 ha]; rfl
 | true=>
   obtain ⟨i,h1⟩:=h.2 ha
   rw [h1]
   simp only [ar]
   have:decide ((i:Int)≥0)=true:=decide_eq_true (by omega)
   rw [this]
theorem adI {R:Type} (k0:Int→Int→Option R) (K:Option R) (nm:List UInt8):
  ∀ (ys pre:List cQ) (m:Nat),ys.length < m→(pre++ys).length≤120→(∀ t∈pre,t.2.1.length≤2)→
    (iD pre ys=0→qv (dn 2000) (db 2000) (dp 2000) k0 (fun _ _ _ _=>K) m (nm,(pre++ys,())) (pre++ys) ((pre++ys).length:Int) (pre.length:Int)=K)∧
    (iD pre ys≠0→∃ i,qv (dn 2000) (db 2000) (dp 2000) k0 (fun _ _ _ _=>K) m (nm,(pre++ys,())) (pre++ys) ((pre++ys).length:Int) (pre.length:Int)=k0 i (iD pre ys)):=by
 intro ys
 induction ys with
 | nil=>
   intro pre m hm hb hp
   cases m with
   | zero=>omega
   | succ m=>
     unfold qv
     simp only [yi,ye,yf,yg,yh,yj,sQ,fk,aC,iD]
     exact ⟨fun _=>trivial,fun h=>absurd rfl h⟩
 | cons y ys ih=>
   intro pre m hm hb hp
   cases m with
   | zero=>omega
   | succ m=>
     have hwr:=fo pre ys y (by unfold bN; omega)
     unfold qv
     simp only [yi,ye,yf,yg,yh,yj,sQ,eQ,dZ,dL,if_true,aN,hwr,arf,ar,iD]
     cases h:gE y != 0 with
     | true=>
       have h':gE y≠0:=by simpa using h
       simp only [aN,cond_true]
       exact ⟨fun e=>absurd e h',fun _=>⟨_,rfl⟩⟩
     | false=>
       have h':gE y=0:=by simpa using h
       have hy:=kx h'
       have hbp:pre.length < 120:=by simp at hb; omega
       have hc:(0≤(0:Int)∧(0:Int)≤(pre.length:Int)∧(pre.length:Int)≤((pre++y::ys).length:Int)∧((pre++y::ys).length:Int)≤((pre++y::ys).length:Int))=True:=by
        rw [eq_iff_iff,iff_true]; simp only [cd,eG]; omega
       have ht:((pre++y::ys).drop (0:Int).toNat).take ((pre.length:Int).toNat - (0:Int).toNat)=pre:=by simp
       have hd:db 2000 pre (fun (x0:cQ×Unit)=>((dp 2000 x0.1 y).bind fun b=>some [.v .bool b]).bind (jZ .bool))=some (lz y pre):=
        arh pre (by omega) _ (fun t=>yG t y) (fun t ht=>by
         unfold dp yG
         have:=hp t ht
         simp only [I2,BT,ari t.2.1 y.2.1 (by omega),ar]
         cases t.1==y.1<;>cases t.2.2.2.1==y.2.2.2.1<;>cases fv t.2.1 y.2.1<;>rfl)
       simp only [aC,cond_false,hc,if_true,ht,hd,ar]
       cases h2:lz y pre with
       | true=>
         simp only [aN,cond_true]
         exact ⟨(fun e=>by cases e),fun _=>⟨_,rfl⟩⟩
       | false=>
         simp only [aC,cond_false]
         have hgo:=ih (pre++[y]) m (by simpa using hm) (by rw [←bE]; exact hb) (by
          intro t ht
          rcases dv.1 ht with h | h
          ·exact hp t h
          ·rw [gX.1 h]; exact hy.1)
         rw [←bE] at hgo
         exact hgo
theorem v70 (o:aJ):eA 2000 o=some (oE o):=by
 obtain ⟨nm,l,u⟩:=o
 unfold eA
 simp only [JF,Cm]
 unfold iP oE
 simp only [yi,ye,yf,yg,yh,yj,sQ,(Vb nm).1,ar]
 cases oF nm with
 | false=>rfl
 | true=>
   cases (l.length:Int)==0 with
   | true=>rfl
   | false=>
     cases h:decide ((l.length:Int) > 120) with
     | true=>rfl
     | false=>
       have h2:¬ (l.length:Int) > 120:=of_decide_eq_false h
       have hk:=adI (R:=Int×Int) (fun a b=>some (a,b)) (some (-1,0)) nm l [] 2000 (by omega) (by simp; omega) (by simp)
       simp only [cY,ei] at hk
       have z:((0:Nat):Int)=0:=rfl
       rw [z] at hk
       simp only [eK,aC,cond_false]
       by_cases he:iD [] l=0
       ·rw [hk.1 he,he]; rfl
       ·obtain ⟨i,h3⟩:=hk.2 he
        rw [h3]; rfl
theorem adZ {R:Type} (k0:Int→Int→Option R) (K:aJ→Int→Option R) (o:aJ) (y:cQ) (L:List cQ) (hL:o.2.1=L) (i:Nat) (hi:i < L.length) (hy:L.getD i g0=y):
  ∀ (ys pre zs:List cQ) (m:Nat),L=pre++ys++zs→(pre++ys).length=i→ys.length < m→L.length≤120→(∀ t∈ys,t.2.1.length≤2)→y.2.1.length≤2→
    (lz y ys=false→qq (bH 2000) k0 (fun a b _=>K a b) m o (i:Int) (pre.length:Int)=K o (i:Int))∧
    (lz y ys=true→qq (bH 2000) k0 (fun a b _=>K a b) m o (i:Int) (pre.length:Int)=k0 (i:Int) 5):=by
 intro ys
 induction ys with
 | nil=>
   intro pre zs m hl hlen hm hb hp hy2
   cases m with
   | zero=>omega
   | succ m=>
     have d:decide ((pre.length:Int) < (i:Int))=false:=decide_eq_false (by simp at hlen; omega)
     unfold qq
     simp only [p8,p5,qd,qb,p6,qa,qc,qe,qf,p7,p9,ow,d,aC,lz,zc]
     exact ⟨fun _=>trivial,fun h=>by cases h⟩
 | cons x ys ih=>
   intro pre zs m hl hlen hm hb hp hy2
   cases m with
   | zero=>omega
   | succ m=>
     have hpi:pre.length < i:=by simp at hlen; omega
     have d:decide ((pre.length:Int) < (i:Int))=true:=decide_eq_true (by omega)
     have c1:(0≤(i:Int)∧(i:Int) < (L.length:Int))=True:=by rw [eq_iff_iff,iff_true]; omega
     have c2:(0≤(pre.length:Int)∧(pre.length:Int) < (L.length:Int))=True:=by rw [eq_iff_iff,iff_true]; omega
     have g1:L.getD (fP (i:Int)) g0=y:=hy
     have g2:L.getD (fP (pre.length:Int)) g0=x:=by rw [hl,bJ]; exact dL _ _ _ _
     have hw:IntKind.i64.wrap ((pre.length:Int)+1)=((pre++[x]).length:Int):=by
      rw [fw (by omega)]; simp
     have hgo:=ih (pre++[x]) zs m (by rw [hl]; simp) (by rw [←bE]; exact hlen) (by simpa using hm) hb (fun t ht=>hp t (fx _ ht)) hy2
     have hs:bH 2000 y.2.1 x.2.1=some (fv x.2.1 y.2.1):=by
      rw [v28 y.2.1 x.2.1 (by omega),akd]
     have hx:lz y (x::ys)=(yG x y || lz y ys):=rfl
     have e1:(y.1==x.1)=(x.1==y.1):=by rw [tK]; simp only [beq_iff_eq]; exact eq_comm
     have e2:(y.2.2.2.1==x.2.2.2.1)=(x.2.2.2.1==y.2.2.2.1):=by rw [tK]; simp only [beq_iff_eq]; exact eq_comm
     unfold qq
     simp only [p8,p5,qd,qb,p6,qa,qc,qe,qf,p7,p9,ow,d,aN,hL,c1,c2,if_true,g1,g2,e1,e2,hs,ar,hw,hx,yG]
     cases x.1==y.1 with
     | false=>simp only [aC,j0,oQ]; exact hgo
     | true=>
       cases x.2.2.2.1==y.2.2.2.1 with
       | false=>simp only [aC,aN,fW,j0,oQ]; exact hgo
       | true=>
         cases fv x.2.1 y.2.1 with
         | false=>simp only [aC,aN,fW,oQ]; exact hgo
         | true=>
           simp only [aN,fW,tL]
           exact ⟨(fun h=>by cases h),fun _=>trivial⟩
theorem adY {R:Type} (k0:Int→Int→Option R) (K:Option R) (nm:List UInt8):
  ∀ (ys pre:List cQ) (m:Nat),ys.length < m→(pre++ys).length≤120→(∀ t∈pre,t.2.1.length≤2)→
    (iD pre ys=0→oz 2000 (bH 2000) (cL 2000) k0 (fun _ _=>K) m (nm,(pre++ys,())) (pre.length:Int)=K)∧
    (iD pre ys≠0→∃ i,oz 2000 (bH 2000) (cL 2000) k0 (fun _ _=>K) m (nm,(pre++ys,())) (pre.length:Int)=k0 i (iD pre ys)):=by
 intro ys
 induction ys with
 | nil=>
   intro pre m hm hb hp
   cases m with
   | zero=>omega
   | succ m=>
     unfold oz
     simp only [p8,p5,qd,qb,p6,qa,qc,qe,qf,p7,p9,ow,fk,aC,iD]
     exact ⟨fun _=>trivial,fun h=>absurd rfl h⟩
 | cons y ys ih=>
   intro pre m hm hb hp
   cases m with
   | zero=>omega
   | succ m=>
     have hwr:=fo pre ys y (by unfold bN; omega)
     unfold oz
     simp only [p8,p5,qd,qb,p6,qa,qc,qe,qf,p7,p9,ow,eQ,dZ,dL,if_true,aN,v91,ar,iD]
     cases h:gE y != 0 with
     | true=>
       have h':gE y≠0:=by simpa using h
       simp only [aN,cond_true]
       exact ⟨fun e=>absurd e h',fun _=>⟨_,rfl⟩⟩
     | false=>
       have h':gE y=0:=by simpa using h
       have hy:=kx h'
       have hbp:pre.length < 120:=by simp at hb; omega
       have hin:=adZ k0 (fun x0 x1=>oz 2000 (bH 2000) (cL 2000) k0 (fun _ _=>K) m x0 (IntKind.i64.wrap (x1+(1:Int)))) (nm,(pre++y::ys,())) y (pre++y::ys) rfl pre.length (by simp) (by simp) pre [] (y::ys) 2000 (by simp) (by simp) (by omega) hb hp hy.1
       simp only [ei] at hin
       have z:((0:Nat):Int)=0:=rfl
       rw [z] at hin
       simp only [aC,cond_false]
       cases h2:lz y pre with
       | true=>
         rw [hin.2 h2]
         simp only [cond_true]
         exact ⟨(fun e=>by cases e),fun _=>⟨_,rfl⟩⟩
       | false=>
         rw [hin.1 h2,hwr]
         simp only [cond_false]
         have hgo:=ih (pre++[y]) m (by simpa using hm) (by rw [←bE]; exact hb) (by
          intro t ht
          rcases dv.1 ht with h | h
          ·exact hp t h
          ·rw [gX.1 h]; exact hy.1)
         rw [←bE] at hgo
         exact hgo
theorem v35 (o:aJ):cP 2000 o=some (oE o):=by
 obtain ⟨nm,l,u⟩:=o
 unfold cP
 simp only [Jn,Ce]
 unfold dK oE
 simp only [p8,p5,qd,qb,p6,qa,qc,qe,qf,p7,p9,ow,(Vb nm).2,ar]
 cases oF nm with
 | false=>rfl
 | true=>
   cases (l.length:Int)==0 with
   | true=>rfl
   | false=>
     cases h:decide ((l.length:Int) > 120) with
     | true=>rfl
     | false=>
       have h2:¬ (l.length:Int) > 120:=of_decide_eq_false h
       have hk:=adY (R:=Int×Int) (fun a b=>some (a,b)) (some (-1,0)) nm l [] 2000 (by omega) (by simp; omega) (by simp)
       simp only [cY,ei] at hk
       have z:((0:Nat):Int)=0:=rfl
       rw [z] at hk
       simp only [eK,aC,cond_false]
       by_cases he:iD [] l=0
       ·rw [hk.1 he,he]; rfl
       ·obtain ⟨i,h3⟩:=hk.2 he
        rw [h3]; rfl
theorem VN:∀ (ys pre:List cQ),iD pre ys=0→∀ y∈ys,gE y=0
 | [],_,_,y,hy=>absurd hy (by simp)
 | x::xs,pre,h,y,hy=>by
   unfold iD at h
   cases h1:gE x != 0 with
   | true=>
     rw [h1,cond_true] at h; rw [h] at h1; cases h1
   | false=>
     rw [h1,cond_false] at h
     have hx:gE x=0:=by simpa using h1
     cases h2:lz x pre with
     | true=>rw [h2,cond_true] at h; cases h
     | false=>
       rw [h2,cond_false] at h
       rcases cU.1 hy with rfl | hy
       ·exact hx
       ·exact VN xs _ h y hy
theorem qA {o:aJ} (h:oE o=0):(∀ y∈o.2.1,gE y=0)∧o.2.1.length≤120∧o.2.1≠[]:=by
 unfold oE at h
 cases h1:oF o.1 with
 | false=>rw [h1] at h; cases h
 | true=>
   rw [h1] at h
   cases h2:(o.2.1.length:Int)==0 with
   | true=>rw [h2] at h; cases h
   | false=>
     rw [h2] at h
     cases h3:decide ((o.2.1.length:Int) > 120) with
     | true=>rw [h3] at h; cases h
     | false=>
       rw [h3] at h
       have:=of_decide_eq_false h3
       refine ⟨VN _ _ h,by omega,fun e=>?_⟩
       rw [e] at h2; cases h2
def sg (o:aJ) (i:Int):cQ:=o.2.1.getD i.toNat g0
theorem mH {o:aJ} (h:oE o=0) {i:Int} (hi:0≤i∧i < (o.2.1.length:Int)):gE (sg o i)=0:=by
 refine (qA h).1 _ ?_
 unfold sg
 rw [List.getD_eq_getElem?_getD,List.getElem?_eq_getElem (by omega)]
 exact List.getElem_mem _
def dd (o:aJ) (i:Int):Bool:=!decide (i < 0)&&!decide (i≥(o.2.1.length:Int))
theorem iW {o:aJ} {i:Int}:dd o i=true↔0≤i∧i < (o.2.1.length:Int):=by
 unfold dd
 simp only [au,du,decide_eq_false_iff_not]; omega
def gB (o:aJ):List Int→List UInt8
 | []=> []
 | i::r=>(sg o i).1++gB o r
def kZ (o:aJ):List Int→List bO
 | []=> []
 | i::r=>(sg o i).2.1++kZ o r
def jW (o:aJ):Int→List Int→List Int
 | _,[]=> []
 | at_,i::r=>ka (sg o i).2.1.length at_++jW o (at_+((sg o i).1.length:Int)) r
theorem aq9 {o:aJ} (h:oE o=0):∀ {l:List Int},l.all (dd o)=true→(gB o l).length≤4 * l.length
 | [],_=>by simp [gB]
 | i::r,hl=>by
   simp only [dP,au] at hl
   have h1:=(kx (mH h (iW.1 hl.1))).2.2.2
   have h2:=aq9 h hl.2
   simp only [gB,cd,eG]; omega
theorem VW {o:aJ} (h:oE o=0):∀ {l:List Int},l.all (dd o)=true→(kZ o l).length≤2 * l.length
 | [],_=>by simp [kZ]
 | i::r,hl=>by
   simp only [dP,au] at hl
   have h1:=(kx (mH h (iW.1 hl.1))).1
   have h2:=VW h hl.2
   simp only [kZ,cd,eG]; omega
theorem ad3 {R:Type} (k0:List UInt8→Bool→Option R) (K:List UInt8→Option R) (o:aJ) (ho:oE o=0):
  ∀ (ys pre:List Int) (m:Nat) (acc:List UInt8),ys.length < m→(pre++ys).length≤1000→acc.length+4 * ys.length≤100000→
    tf (cG 2000) k0 (fun _ a _ _ _=>K a) m o acc (pre++ys) ((pre++ys).length:Int) (pre.length:Int)=cond (ys.all (dd o)) (K (acc++gB o ys)) (k0 [] false):=by
 intro ys
 induction ys with
 | nil=>
   intro pre m acc hm hb ha
   cases m with
   | zero=>omega
   | succ m=>
     unfold tf
     simp only [xD,xz,xA,xB,xC,xE,sI,fk,aC,mM,cond_true,gB,je acc]
 | cons y ys ih=>
   intro pre m acc hm hb ha
   cases m with
   | zero=>omega
   | succ m=>
     have hwr:=fo pre ys y (by unfold bN; omega)
     unfold tf
     simp only [xD,xz,xA,xB,xC,xE,sI,eQ,dZ,dL,if_true,aN,hwr,dP]
     cases h1:decide (y < 0) with
     | true=>simp only [aN,dd,h1,eK,j0,cond_false]
     | false=>
       cases h2:decide (y≥(o.2.1.length:Int)) with
       | true=>simp only [aN,aC,dd,h1,h2,eK,gM,Lm,j0,cond_false]
       | false=>
         have hix:dd o y=true:=by unfold dd; rw [h1,h2]; rfl
         have hy:=iW.1 hix
         have hg:=kx (mH ho hy)
         have hin:(0≤y∧y < (o.2.1.length:Int))=True:=by rw [eq_iff_iff,iff_true]; exact hy
         have hs:o.2.1.getD y.toNat g0=sg o y:=rfl
         have hw:cG 2000 acc (sg o y).1=some (acc++(sg o y).1):=by
          unfold cG
          rw [if_pos (by simp only [eG] at ha; omega)]
         simp only [aC,hin,if_true,hs,hw,ar,hix,fW,gB]
         have:=ih (pre++[y]) m (acc++(sg o y).1) (by simpa using hm) (by rw [←bE]; exact hb) (by simp only [cd,eG] at ha ⊢; omega)
         rw [←bE,bJ] at this
         exact this
theorem Lb (o:aJ) (l:List Int) (ho:oE o=0) (hl:l.length≤1000):cB 2000 o l=some (cond (l.all (dd o)) (gB o l,true) ([],false)):=by
 unfold cB
 have:=ad3 (R:=List UInt8×Bool) (fun a b=>some (a,b)) (fun x=>(ej 2000 x).bind fun r=>some (r,true)) o ho l [] 2000 [] (by omega) (by simpa using hl) (by simp; omega)
 simp only [cY,ei] at this
 simp only [xD,xz,xA,xB,xC,xE,sI]
 refine eg this ?_
 cases l.all (dd o)<;>rfl
def lE (o:aJ) (l:List Int):Int:=cond (oE o != 0) (oE o) (cond (decide ((l.length:Int) > 16)) 3 (cond (l.all (dd o)) 0 6))
theorem v55 (o:aJ) (l:List Int) (hl:l.length≤40):bT 2000 o l=some (lE o l):=by
 unfold bT lE
 simp only [Ju,Cj,v70,ar]
 cases h:oE o != 0 with
 | true=>rfl
 | false=>
   have ho:oE o=0:=by simpa using h
   cases decide ((l.length:Int) > 16) with
   | true=>rfl
   | false=>
     simp only [aC,cond_false,Lb o l ho (by omega),ar]
     cases l.all (dd o)<;>rfl
theorem KC {o:aJ} {l:List Int} (h:lE o l=0):oE o=0∧l.length≤16∧l.all (dd o)=true:=by
 unfold lE at h
 cases h1:oE o != 0 with
 | true=>rw [h1,cond_true] at h; rw [h] at h1; cases h1
 | false=>
   have ho:oE o=0:=by simpa using h1
   rw [h1,cond_false] at h
   cases h2:decide ((l.length:Int) > 16) with
   | true=>rw [h2,cond_true] at h; cases h
   | false=>
     rw [h2,cond_false] at h
     have:=of_decide_eq_false h2
     cases h3:l.all (dd o) with
     | false=>rw [h3] at h; cases h
     | true=>exact ⟨ho,by omega,rfl⟩
theorem aen {R:Type} (K:List bO→Option R) (o:aJ) (ho:oE o=0):
  ∀ (ys pre:List Int) (m:Nat) (acc:List bO),ys.all (dd o)=true→ys.length < m→(pre++ys).length≤1000→acc.length+4 * ys.length≤100000→
    s6 (fun _ a _ _ _=>K a) m o acc (pre++ys) ((pre++ys).length:Int) (pre.length:Int)=K (acc++kZ o ys):=by
 intro ys
 induction ys with
 | nil=>
   intro pre m acc hi hm hb ha
   cases m with
   | zero=>omega
   | succ m=>
     unfold s6
     simp only [wM,wI,wJ,wK,wL,wN,g22,fk,aC,kZ,je acc]
 | cons y ys ih=>
   intro pre m acc hi hm hb ha
   cases m with
   | zero=>omega
   | succ m=>
     have hwr:=fo pre ys y (by unfold bN; omega)
     simp only [dP,au] at hi
     have hy:=iW.1 hi.1
     have hg:=kx (mH ho hy)
     have hin:(0≤y∧y < (o.2.1.length:Int))=True:=by rw [eq_iff_iff,iff_true]; exact hy
     have hs:o.2.1.getD y.toNat g0=sg o y:=rfl
     have hl:(acc.length+(sg o y).2.1.length≤4398046511104)=True:=by rw [eq_iff_iff,iff_true]; simp only [eG] at ha; omega
     unfold s6
     simp only [wM,wI,wJ,wK,wL,wN,g22,eQ,dZ,dL,if_true,aN,hwr,hin,hs,hl,kZ]
     have:=ih (pre++[y]) m (acc++(sg o y).2.1) hi.2 (by simpa using hm) (by rw [←bE]; exact hb) (by simp only [cd,eG] at ha ⊢; omega)
     rw [←bE,bJ] at this
     exact this
theorem v22 (o:aJ) (l:List Int) (hl:l.length≤40):dy 2000 o l=some (cond (lE o l != 0) ([],lE o l) (kZ o l,0)):=by
 unfold dy
 simp only [wM,wI,wJ,wK,wL,wN,g22,v55 o l hl,ar]
 cases h:lE o l != 0 with
 | true=>rfl
 | false=>
   obtain ⟨ho,h16,hi⟩:=KC (by simpa using h)
   have:=aen (R:=List bO×Int) (fun a=>some (a,0)) o ho l [] 2000 [] hi (by omega) (by simp; omega) (by simp; omega)
   simp only [cY,ei] at this
   exact this
theorem aea {R:Type} (K:aJ→List Int→Int→Int→List Int→Int→Int→Option R) (o:aJ) (a:Int) (i:Int) (L:List Int) (n j:Int):
  ∀ (c d m:Nat) (acc:List Int),c < m→c+d≤1000→acc.length+c≤100000→
    s7 (fun y0 y1 y2 y3 y4 y5 y6 _ _=>K y0 y1 y2 y3 y4 y5 y6) m o acc a i L n j ((d+c:Nat):Int) (d:Int)=K o (acc++ka c a) a i L n j:=by
 intro c
 induction c with
 | zero=>
   intro d m acc hm hb ha
   cases m with
   | zero=>omega
   | succ m=>
     have e:decide ((d:Int) < ((d+0:Nat):Int))=false:=decide_eq_false (by omega)
     unfold s7
     simp only [pT,pM,pP,pN,pV,pW,pX,pY,pO,pQ,pR,pS,pU,g24,e,aC,List.replicate_zero,je]
 | succ c ih=>
   intro d m acc hm hb ha
   cases m with
   | zero=>omega
   | succ m=>
     have e:decide ((d:Int) < ((d+(c+1):Nat):Int))=true:=decide_eq_true (by omega)
     have hl:(acc.length+[a].length≤17592186044416)=True:=by rw [eq_iff_iff,iff_true]; simp only [gW]; omega
     have hw:IntKind.i64.wrap ((d:Int)+1)=((d+1:Nat):Int):=by rw [fw (by omega)]; simp
     unfold s7
     simp only [pT,pM,pP,pN,pV,pW,pX,pY,pO,pQ,pR,pS,pU,g24,e,aN,hl,if_true,hw]
     have:=ih (d+1) m (acc++[a]) (by omega) (by omega) (by simp; omega)
     rw [show d+1+c=d+(c+1) by omega,bJ] at this
     rw [this]
     rfl
theorem aeb {R:Type} (K:List Int→Option R) (o:aJ) (ho:oE o=0):
  ∀ (ys pre:List Int) (m:Nat) (acc:List Int) (a:Int),ys.all (dd o)=true→ys.length < m→(pre++ys).length≤1000→acc.length+4 * ys.length≤100000→0≤a→a+4 * ys.length≤100000→
    qp 2000 (fun _ a _ _ _ _=>K a) m o acc a (pre++ys) ((pre++ys).length:Int) (pre.length:Int)=K (acc++jW o a ys):=by
 intro ys
 induction ys with
 | nil=>
   intro pre m acc a hi hm hb ha h0 h1
   cases m with
   | zero=>omega
   | succ m=>
     unfold qp
     simp only [pT,pM,pP,pN,pV,pW,pX,pY,pO,pQ,pR,pS,pU,g24,fk,aC,jW,je acc]
 | cons y ys ih=>
   intro pre m acc a hi hm hb ha h0 h1
   cases m with
   | zero=>omega
   | succ m=>
     have hwr:=fo pre ys y (by unfold bN; omega)
     simp only [dP,au] at hi
     have hy:=iW.1 hi.1
     have hg:=kx (mH ho hy)
     have hin:(0≤y∧y < (o.2.1.length:Int))=True:=by rw [eq_iff_iff,iff_true]; exact hy
     have hs:o.2.1.getD y.toNat g0=sg o y:=rfl
     simp only [eG] at ha h1
     have hw:IntKind.i64.wrap (a+((sg o y).1.length:Int))=a+((sg o y).1.length:Int):=fw (by omega)
     have hI:=aea (R:=R) (fun y0 y1 y2 y3 y4 y5 y6=>if 0≤y3∧y3 < (y0.2.1.length:Int) then qp 2000 (fun _ a _ _ _ _=>K a) m y0 y1 (IntKind.i64.wrap (y2+(((y0.2.1.getD y3.toNat g0).1).length:Int))) y4 y5 (IntKind.i64.wrap (y6+(1:Int))) else none) o a y (pre++y::ys) ((pre++y::ys).length:Int) (pre.length:Int) (sg o y).2.1.length 0 2000 acc (by omega) (by omega) (by omega)
     simp only [kc] at hI
     have z:((0:Nat):Int)=0:=rfl
     rw [z] at hI
     unfold qp
     simp only [pT,pM,pP,pN,pV,pW,pX,pY,pO,pQ,pR,pS,pU,g24,eQ,dZ,dL,if_true,aN,hin,hs]
     refine eg hI ?_
     simp only [hin,if_true,hs,hw,hwr,jW]
     have:=ih (pre++[y]) m (acc++ka (sg o y).2.1.length a) (a+((sg o y).1.length:Int)) hi.2 (by simpa using hm) (by rw [←bE]; exact hb) (by simp only [cd,Lx]; omega) (by omega) (by omega)
     rw [←bE,bJ] at this
     exact this
theorem v24 (o:aJ) (l:List Int) (hl:l.length≤40):ck 2000 o l=some (cond (lE o l != 0) ([],lE o l) (jW o 0 l,0)):=by
 unfold ck
 simp only [pT,pM,pP,pN,pV,pW,pX,pY,pO,pQ,pR,pS,pU,g24,v55 o l hl,ar]
 cases h:lE o l != 0 with
 | true=>rfl
 | false=>
   obtain ⟨ho,h16,hi⟩:=KC (by simpa using h)
   have:=aeb (R:=List Int×Int) (fun a=>some (a,0)) o ho l [] 2000 [] 0 hi (by omega) (by simp; omega) (by simp; omega) (by omega) (by omega)
   simp only [cY,ei] at this
   exact this
theorem v26 (o:aJ) (l:List Int) (hl:l.length≤40):dz 2000 o l=some (cond (lE o l != 0) ([],lE o l) (gB o l,0)):=by
 unfold dz
 simp only [Jm,Cd,v55 o l hl,ar]
 cases h:lE o l != 0 with
 | true=>rfl
 | false=>
   obtain ⟨ho,h16,hi⟩:=KC (by simpa using h)
   simp only [aC,Lb o l ho (by omega),ar,hi,cond_true,cond_false]
theorem adS {R:Type} (k0:Bool→Option R) (K:Option R):
  ∀ (ys pre zs pre2:List Int) (m:Nat),ys.length < m→(pre++ys).length≤bN→pre.length=pre2.length→ys.length=zs.length→
    s4 k0 (fun _ _ _ _=>K) m (pre++ys) (pre2++zs) ((pre++ys).length:Int) (pre.length:Int)=ad (ys==zs) K (k0 false):=by
 intro ys
 induction ys with
 | nil=>
   intro pre zs pre2 m hm hb hp hz
   have:zs=[]:=mN.1 hz.symm
   subst this
   cases m with
   | zero=>omega
   | succ m=>
     unfold s4
     simp only [wz,wq,wu,wv,wx,wA,g15,fk,aC]
     rfl
 | cons y ys ih=>
   intro pre zs pre2 m hm hb hp hz
   obtain ⟨z,zs,rfl⟩:∃ z zs',zs=z::zs':=by
    cases zs with
    | nil=>simp at hz
    | cons z zs=>exact ⟨z,zs,rfl⟩
   cases m with
   | zero=>omega
   | succ m=>
     have hwr:=fo pre ys y hb
     have i2:(0≤(pre.length:Int)∧(pre.length:Int) < ((pre2++z::zs).length:Int))=True:=by rw [hp]; exact dZ _ _ _
     have a2:(pre2++z::zs).getD (fP (pre.length:Int)) (0:Int)=z:=by rw [hp]; exact dL _ _ _ _
     have e:((y::ys)==(z::zs))=(y==z&&ys==zs):=rfl
     unfold s4
     simp only [wz,wq,wu,wv,wx,wA,g15,eQ,dZ,dL,if_true,aN,hwr,i2,a2,e]
     cases h:y==z with
     | false=>
       have:(y != z)=true:=by unfold bne; rw [h]; rfl
       simp only [this,aN,j0,aC]
     | true=>
       have:(y != z)=false:=by unfold bne; rw [h]; rfl
       simp only [this,aC,fW]
       rw [bE pre ys y,bE pre2 zs z]
       exact ih (pre++[y]) zs (pre2++[z]) m (by simpa using hm) (by rw [←bE]; exact hb) (by simp [hp]) (by simpa using hz)
theorem v15 (a b:List Int) (h:a.length < 2000):gO 2000 a b=some (a==b):=by
 unfold gO
 simp only [wz,wq,wu,wv,wx,wA,g15]
 by_cases hl:a.length=b.length
 ·have e:((a.length:Int) != (b.length:Int))=false:=by simp [hl]
  have:=adS (R:=Bool) some (some true) a [] b [] 2000 h (by unfold bN; simp; omega) rfl hl
  simp only [cY,ei] at this
  simp only [e,aC]
  refine eg this ?_
  cases a==b<;>rfl
 ·have e:((a.length:Int) != (b.length:Int))=true:=bne_iff_ne.2 (by omega)
  simp only [e,aN]
  have:(a==b)=false:=beq_eq_false_iff_ne.2 fun e=>hl (congrArg lh e)
  rw [this]
theorem Vg {o:aJ} (h:oE o=0):∀ {l:List Int} {a:Int},l.all (dd o)=true→(jW o a l).length=(kZ o l).length
 | [],_,_=>rfl
 | i::r,a,hl=>by
   simp only [dP,au] at hl
   simp only [jW,kZ,cd,Lx,Vg h hl.2]
def o9:List bO→Bool
 | []=>false
 | s::_=>gJ s
def en (l:List bO):Bool:=match l.getLast? with | none=>false | some s=>gJ s
def sd (w:Int) (bf af:List bO):Bool:=cond (w==0) true (cond (w==1) (o9 af) (cond (w==2) (o9 af&&(bf.length:Int)==0) (cond (w==3) (o9 af&&en bf) (cond (w==4) (!o9 af) false))))
def gH (o:aJ) (i:Int) (bf af:List bO):Bool:=dd o i&&sd (sg o i).2.2.2.1 bf af
theorem Xz (l:List bO) (s:bO):en (l++[s])=gJ s:=by unfold en; simp
theorem asj (w:Int) (bf af af2:List bO) (h:o9 af=o9 af2):sd w bf af=sd w bf af2:=by unfold sd; rw [h]
theorem v60 (o:aJ) (i:Int) (bf af:List bO) (hb:bf.length≤bN):aS 2000 o i bf af=some (gH o i bf af):=by
 unfold aS gH dd
 simp only [Jx,Jy,Jz,JA,JB,sJ,v87,ar]
 cases h1:decide (i < 0) with
 | true=>rfl
 | false=>
   cases h2:decide (i≥(o.2.1.length:Int)) with
   | true=>rfl
   | false=>
     have e1:=of_decide_eq_false h1
     have e2:=of_decide_eq_false h2
     have hin:(0≤i∧i < (o.2.1.length:Int))=True:=by rw [eq_iff_iff,iff_true]; omega
     have hs:o.2.1.getD i.toNat g0=sg o i:=rfl
     have key:∀ b:Bool,o9 af=b→(ad ((sg o i).2.2.2.1==(0:Int)) (some true) (ad ((sg o i).2.2.2.1==(1:Int)) (some b) (ad ((sg o i).2.2.2.1==(2:Int)) (ad b (some ((bf.length:Int)==(0:Int))) (some false)) (ad ((sg o i).2.2.2.1==(3:Int)) (ad b (ad (decide ((bf.length:Int) > (0:Int)))
       (if 0≤IntKind.i64.wrap ((bf.length:Int) - 1)∧IntKind.i64.wrap ((bf.length:Int) - 1) < (bf.length:Int) then some (gJ (bf.getD (IntKind.i64.wrap ((bf.length:Int) - 1)).toNat s0)) else none) (some false)) (some false)) (ad ((sg o i).2.2.2.1==(4:Int)) (some (!b)) (some false))))))=some (!false&&!false&&sd (sg o i).2.2.2.1 bf af):=by
      intro b hbb
      have hl:(ad (decide ((bf.length:Int) > (0:Int))) (if 0≤IntKind.i64.wrap ((bf.length:Int) - 1)∧IntKind.i64.wrap ((bf.length:Int) - 1) < (bf.length:Int) then some (gJ (bf.getD (IntKind.i64.wrap ((bf.length:Int) - 1)).toNat s0)) else none) (some false))=some (en bf):=by
       rcases Dd bf with h | ⟨l,s,h⟩
       ·subst h; rfl
       ·rw [Da] at h
        subst h
        have hlen:l.length < bN:=by simp at hb; omega
        have w:IntKind.i64.wrap (((l++[s]).length:Int) - 1)=(l.length:Int):=by
         have:((l++[s]).length:Int) - 1=(l.length:Int):=by simp
         rw [this]; exact fw (by unfold bN at hlen; omega)
        have d:decide (((l++[s]).length:Int) > 0)=true:=decide_eq_true (by simp only [cd,gW]; omega)
        have c:(0≤(l.length:Int)∧(l.length:Int) < ((l++[s]).length:Int))=True:=by rw [eq_iff_iff,iff_true]; simp only [cd,gW]; omega
        rw [w,d,Xz]
        simp only [c,if_true,aN]
        simp
      rw [hl]
      unfold sd
      rw [hbb]
      cases (sg o i).2.2.2.1==(0:Int)<;>cases (sg o i).2.2.2.1==(1:Int)<;>cases (sg o i).2.2.2.1==(2:Int)<;>cases (sg o i).2.2.2.1==(3:Int)<;>cases (sg o i).2.2.2.1==(4:Int)<;>cases b<;>rfl
     simp only [aC,hin,if_true,hs]
     cases af with
     | nil=>
       have d:decide ((([]:List bO).length:Int) > 0)=false:=rfl
       simp only [d,aC]
       exact key false rfl
     | cons s af=>
       have d:decide (((s::af).length:Int) > 0)=true:=decide_eq_true (by simp only [eG]; omega)
       have c:(0≤(0:Int)∧(0:Int) < ((s::af).length:Int))=True:=by rw [eq_iff_iff,iff_true]; simp only [eG]; omega
       simp only [d,aN,c,if_true]
       exact key (gJ s) rfl
def fe (o:aJ) (i:Int):List bO:=cond (decide (i < 0)) [] (sg o i).2.1
abbrev Nd:Type:=Int×(Int×(Int×Unit))
abbrev jQ:Type:=aJ×(List UInt8×(List (Nd×Int)×Unit))
theorem Ws (x:jQ) (i:Int) (h:i < (x.1.2.1.length:Int)):bx 2000 x i=some (fe x.1 i):=by
 unfold bx fe
 simp only [JG,sM]
 cases h1:decide (i < 0) with
 | true=>rfl
 | false=>
   have e1:=of_decide_eq_false h1
   have hin:(0≤i∧i < (x.1.2.1.length:Int))=True:=by rw [eq_iff_iff,iff_true]; omega
   simp only [aC,hin,if_true]
   rfl
theorem VU {o:aJ} (ho:oE o=0) (i:Int) (h:i < (o.2.1.length:Int)):(fe o i).length≤2:=by
 unfold fe
 cases h1:decide (i < 0) with
 | true=>simp
 | false=>exact (kx (mH ho ⟨by have:=of_decide_eq_false h1; omega,h⟩)).1
def pf (s t:List UInt8):Bool:=decide ((s.length:Int)≥(t.length:Int))&&(s.take t.length==t)
theorem v54 (s t:List UInt8):aU 2000 s t=some (pf s t):=by
 unfold aU
 simp only [Jt,sH]
 unfold fh pf
 simp only [JH,sN]
 cases h:decide ((s.length:Int)≥(t.length:Int)) with
 | false=>rfl
 | true=>
   have:=of_decide_eq_true h
   have c:(0≤(0:Int)∧(0:Int)≤(t.length:Int)∧(t.length:Int)≤(s.length:Int))=True:=by rw [eq_iff_iff,iff_true]; omega
   simp only [aN,c,if_true,ar,fW]
   simp
theorem KV {s t:List UInt8}:pf s t=true↔∃ r,s=t++r:=by
 unfold pf
 rw [au,decide_eq_true_iff,beq_iff_eq]
 constructor
 ·rintro ⟨_,h⟩
  exact ⟨s.drop t.length,by rw [←h]; conv=>lhs; rw [←List.take_append_drop t.length s]
                            simp [h]⟩
 ·rintro ⟨r,rfl⟩
  simp; omega
def jF (o:aJ) (w:List UInt8) (n:Nd) (s:cQ):Bool:=pf (w.drop n.2.2.1.toNat) s.1&&(decide (n.2.1 < 0) || gH o n.2.1 (fe o n.1) s.2.1)
def oP (n:Nd) (i:Int) (s:cQ):Nd:=(n.2.1,(i,(n.2.2.1+(s.1.length:Int),())))
def ea (o:aJ) (w:List UInt8) (n:Nd):List cQ→Int→List Nd
 | [],_=> []
 | s::r,i=>cond (jF o w n s) (oP n i s::ea o w n r (i+1)) (ea o w n r (i+1))
structure Ok (o:aJ) (w:List UInt8) (n:Nd):Prop where
 b:n.1 < (o.2.1.length:Int)
 s:n.2.1 < (o.2.1.length:Int)
 e0:0≤n.2.2.1
 e1:n.2.2.1≤(w.length:Int)
theorem ad9 {R:Type} (K:List Nd→Option R) (x:jQ) (ho:oE x.1=0) (hw:x.2.1.length≤100) (n:Nd) (hn:Ok x.1 x.2.1 n):
  ∀ (ys pre:List cQ) (m:Nat) (acc:List Nd),ys.length < m→(pre++ys).length≤120→acc.length≤pre.length→(∀ s∈ys,s.1.length≤4)→
    qu (aU 2000) (aS 2000) (bx 2000) (fun _ _ a _ _ _=>K a) m x n acc (pre++ys) ((pre++ys).length:Int) (pre.length:Int)=K (acc++ea x.1 x.2.1 n ys (pre.length:Int)):=by
 intro ys
 induction ys with
 | nil=>
   intro pre m acc hm hb ha hy
   cases m with
   | zero=>omega
   | succ m=>
     unfold qu
     simp only [xV,xR,xS,xT,xU,xW,ox,fk,aC,ea,je acc]
 | cons y ys ih=>
   intro pre m acc hm hb ha hy
   cases m with
   | zero=>omega
   | succ m=>
     have hwr:=fo pre ys y (by unfold bN; omega)
     have hl:((pre++[y]).length:Int)=(pre.length:Int)+1:=by simp
     have hbp:pre.length < 120:=by simp at hb; omega
     have hy4:=hy y (by simp)
     have hgo:∀ a:List Nd,a.length≤pre.length+1→qu (aU 2000) (aS 2000) (bx 2000) (fun _ _ a _ _ _=>K a) m x n a (pre++y::ys) ((pre++y::ys).length:Int) ((pre++[y]).length:Int)=K (a++ea x.1 x.2.1 n ys ((pre.length:Int)+1)):=by
      intro a h
      have:=ih (pre++[y]) m a (by simpa using hm) (by rw [←bE]; exact hb) (by simpa using h) (fun s hs=>hy s (fx _ hs))
      rw [←bE,hl] at this
      rw [hl]; exact this
     have he0:=hn.e0; have he1:=hn.e1
     have c:(0≤n.2.2.1∧n.2.2.1≤(x.2.1.length:Int)∧(x.2.1.length:Int)≤(x.2.1.length:Int))=True:=by rw [eq_iff_iff,iff_true]; omega
     have ht:(x.2.1.drop n.2.2.1.toNat).take ((x.2.1.length:Int).toNat - n.2.2.1.toNat)=x.2.1.drop n.2.2.1.toNat:=by
      apply List.take_of_length_le; rw [nC]; omega
     have hwe:IntKind.i64.wrap (n.2.2.1+(y.1.length:Int))=n.2.2.1+(y.1.length:Int):=fw (by omega)
     have hla:∀ z:Nd,(acc.length+[z].length≤5864062014805)=True:=by intro z; rw [eq_iff_iff,iff_true]; simp only [gW]; omega
     have hto:((n.2.1,((pre.length:Int),(n.2.2.1+(y.1.length:Int),()))):Nd)=oP n (pre.length:Int) y:=rfl
     have hyes:K ((acc++[oP n (pre.length:Int) y])++ea x.1 x.2.1 n ys ((pre.length:Int)+1))=K (acc++oP n (pre.length:Int) y::ea x.1 x.2.1 n ys ((pre.length:Int)+1)):=by rw [bJ]; rfl
     unfold qu
     simp only [xV,xR,xS,xT,xU,xW,ox,eQ,dZ,dL,if_true,aN,hwr,c,ht,v54,ar,hwe,hla,hto,ea,jF]
     cases h1:pf (x.2.1.drop n.2.2.1.toNat) y.1 with
     | false=>simp only [aC,j0,cond_false]; exact hgo acc (by omega)
     | true=>
       simp only [aN,fW]
       cases h2:decide (n.2.1 < 0) with
       | true=>
         simp only [aN,tL,cond_true]
         exact (hgo _ (by simp; omega)).trans hyes
       | false=>
         simp only [aC,oQ,Ws x n.1 hn.b,ar,v60 x.1 n.2.1 (fe x.1 n.1) y.2.1 (by have:=VU ho n.1 hn.b; unfold bN; omega)]
         cases h3:gH x.1 n.2.1 (fe x.1 n.1) y.2.1 with
         | false=>simp only [aC,cond_false]; exact hgo acc (by omega)
         | true=>
           simp only [aN,cond_true]
           exact (hgo _ (by simp; omega)).trans hyes
theorem Wt (x:jQ) (ho:oE x.1=0) (hw:x.2.1.length≤100) (n:Nd) (hn:Ok x.1 x.2.1 n):cz 2000 x n=some (ea x.1 x.2.1 n x.1.2.1 0):=by
 unfold cz
 have h120:=(qA ho).2.1
 have:=ad9 (R:=List Nd) some x ho hw n hn x.1.2.1 [] 2000 [] (by omega) (by simpa using h120) (by simp) (fun s hs=>(kx ((qA ho).1 s hs)).2.2.2)
 simp only [cY,ei] at this
 simp only [xV,xR,xS,xT,xU,xW,ox]
 exact this
theorem KL {o:aJ} {w:List UInt8} {n m:Nd} (ho:oE o=0) (hn:Ok o w n):∀ (ys pre:List cQ),o.2.1=pre++ys→m∈ea o w n ys (pre.length:Int)→
  m.1=n.2.1∧0≤m.2.1∧m.2.1 < (o.2.1.length:Int)∧n.2.2.1 < m.2.2.1∧m.2.2.1≤(w.length:Int)∧m.2.2.1=n.2.2.1+((sg o m.2.1).1.length:Int)∧jF o w n (sg o m.2.1)=true
 | [],_,_,h=>absurd h (by simp [ea])
 | y::ys,pre,hl,h=>by
   have hgo:=KL (m:=m) ho hn ys (pre++[y]) (by rw [hl,bE])
   have hlen:((pre++[y]).length:Int)=(pre.length:Int)+1:=by simp
   rw [hlen] at hgo
   unfold ea at h
   cases hk:jF o w n y with
   | false=>rw [hk,cond_false] at h; exact hgo h
   | true=>
     rw [hk,cond_true] at h
     rcases cU.1 h with h | h
     ·subst h
      have hsg:sg o (pre.length:Int)=y:=by unfold sg; rw [hl]; exact dL _ _ _ _
      have hmem:y∈o.2.1:=by rw [hl]; simp
      have hg:=kx ((qA ho).1 y hmem)
      have hpos:0 < y.1.length:=zf.2 hg.2.2.1
      have hkk:=hk
      unfold jF at hk
      simp only [au] at hk
      obtain ⟨r,hr⟩:=KV.1 hk.1
      have h1:=congrArg lh hr
      simp only [nC,cd] at h1
      have he0:=hn.e0; have he1:=hn.e1
      refine ⟨rfl,by show 0≤(pre.length:Int); omega,by show (pre.length:Int) < _; rw [hl]; simp only [cd,eG]; omega,by show n.2.2.1 < n.2.2.1+(y.1.length:Int); omega,by show n.2.2.1+(y.1.length:Int)≤_; omega,by show n.2.2.1+(y.1.length:Int)=n.2.2.1+((sg o (pre.length:Int)).1.length:Int); rw [hsg],by show jF o w n (sg o (pre.length:Int))=true; rw [hsg]; exact hkk⟩
     ·exact hgo h
theorem afu {o:aJ} {w:List UInt8} {n m:Nd} (ho:oE o=0) (hn:Ok o w n) (h:m∈ea o w n o.2.1 0):Ok o w m∧n.2.2.1 < m.2.2.1∧0≤m.2.1:=by
 have:=KL ho hn o.2.1 [] rfl h
 have he0:=hn.e0
 exact ⟨⟨by rw [this.1]; exact hn.s,this.2.2.1,by omega,this.2.2.2.2.1⟩,this.2.2.2.1,this.2.1⟩
def wy (o:aJ) (w:List UInt8):Nat→Nd→List (List Int)
 | 0,_=> []
 | f+1,n=>cond (n.2.2.1==(w.length:Int)) (cond (decide (n.2.1≥0)&&gH o n.2.1 (fe o n.1) []) [[]] []) ((ea o w n o.2.1 0).flatMap fun m=>(wy o w f m).map (m.2.1:: ·))
def rm (w:List UInt8) (n:Nd):Nat:=((w.length:Int) - n.2.2.1).toNat
def ways (o:aJ) (w:List UInt8) (n:Nd):List (List Int):=wy o w (rm w n+1) n
theorem nx {o:aJ} {w:List UInt8} {n m:Nd} (ho:oE o=0) (hn:Ok o w n) (h:m∈ea o w n o.2.1 0):Ok o w m∧rm w m < rm w n∧0≤m.2.1:=by
 have h1:=afu ho hn h
 have:=h1.1.e1; have:=h1.2.1
 exact ⟨h1.1,by unfold rm; omega,h1.2.2⟩
theorem Ri {α β:Type} {l:List α} {f g:α→List β} (h:∀ x∈l,f x=g x):l.flatMap f=l.flatMap g:=by
 induction l with
 | nil=>rfl
 | cons x l ih=>rw [ze,ze,h x (by simp),ih (fun y hy=>h y (fx _ hy))]
theorem WA {o:aJ} {w:List UInt8} (ho:oE o=0):∀ (f f':Nat) (n:Nd),Ok o w n→rm w n < f→rm w n < f'→wy o w f n=wy o w f' n
 | 0,_,_,_,h,_=>by omega
 | _+1,0,_,_,_,h=>by omega
 | f+1,f'+1,n,hn,h1,h2=>by
   unfold wy
   rw [Ri fun m hm=>by
    have h3:=nx ho hn hm
    rw [WA ho f f' m h3.1 (by omega) (by omega)]]
theorem Ld {o:aJ} {w:List UInt8} {n:Nd} (h:(n.2.2.1==(w.length:Int))=true):ways o w n=cond (decide (n.2.1≥0)&&gH o n.2.1 (fe o n.1) []) [[]] []:=by
 unfold ways wy; rw [h,cond_true]
theorem C6 {o:aJ} {w:List UInt8} {n:Nd} (ho:oE o=0) (hn:Ok o w n) (h:(n.2.2.1==(w.length:Int))=false):ways o w n=(ea o w n o.2.1 0).flatMap fun m=>(ways o w m).map (m.2.1:: ·):=by
 have h0:ways o w n=wy o w (rm w n+1) n:=rfl
 rw [h0]
 unfold wy; rw [h,cond_false]
 refine Ri fun m hm=>?_
 have h3:=nx ho hn hm
 have h4:ways o w m=wy o w (rm w m+1) m:=rfl
 rw [h4,WA ho (rm w n) (rm w m+1) m h3.1 (by omega) (by omega)]
theorem Lg {o:aJ} {w:List UInt8} (ho:oE o=0):∀ (f:Nat) (n:Nd),Ok o w n→∀ l∈wy o w f n,l.length≤rm w n
 | 0,_,_,l,h=>absurd h (by simp [wy])
 | f+1,n,hn,l,h=>by
   unfold wy at h
   cases he:n.2.2.1==(w.length:Int) with
   | true=>
     rw [he,cond_true] at h
     cases hf:decide (n.2.1≥0)&&gH o n.2.1 (fe o n.1) [] with
     | true=>rw [hf,cond_true] at h; rw [gX.1 h]; simp
     | false=>rw [hf,cond_false] at h; cases h
   | false=>
     rw [he,cond_false] at h
     obtain ⟨m,hm,h2⟩:=Dm.1 h
     obtain ⟨l',hl',rfl⟩:=df.1 h2
     have h3:=nx ho hn hm
     have:=Lg ho f m h3.1 l' hl'
     simp only [eG]; omega
def cn (o:aJ) (w:List UInt8) (n:Nd):Int:=((min 201 (ways o w n).length:Nat):Int)
abbrev mn (a b:Nd):Bool:=(a.1==b.1)&&((a.2.1==b.2.1)&&((a.2.2.1==b.2.2.1)&&true))
theorem XB {a b:Nd} (h:mn a b=true):a=b:=by
 obtain ⟨a1,a2,a3,a4⟩:=a; obtain ⟨b1,b2,b3,b4⟩:=b
 simp only [mn,gV,au,beq_iff_eq] at h
 obtain ⟨h1,h2,h3⟩:=h
 subst h1; subst h2; subst h3; rfl
def Inv (o:aJ) (w:List UInt8) (mp:List (Nd×Int)):Prop:=∀ p∈mp,p.2=cn o w p.1
theorem UW {o:aJ} {w:List UInt8} {k:Nd}:∀ {mp:List (Nd×Int)},Inv o w mp→(iA mn 0 mp k).2=true→(iA mn 0 mp k).1=cn o w k
 | [],_,h=>by simp [iA] at h
 | e::r,hI,h=>by
   unfold iA at h ⊢
   cases he:mn k e.1 with
   | true=>
     simp only [he]
     rw [XB he]
     exact hI e (by simp)
   | false=>
     simp only [he] at h ⊢
     exact UW (fun p hp=>hI p (fx _ hp)) h
theorem UY {o:aJ} {w:List UInt8} {k:Nd}:∀ {mp:List (Nd×Int)},Inv o w mp→Inv o w (iY mn mp k (cn o w k))
 | [],_,p,hp=>by
   simp only [iY,gX] at hp
   rw [hp]
 | e::r,hI,p,hp=>by
   unfold iY at hp
   cases he:mn k e.1 with
   | true=>
     simp only [he] at hp
     rcases cU.1 hp with h | h
     ·rw [h]
     ·exact hI p (fx _ h)
   | false=>
     simp only [he] at hp
     rcases cU.1 hp with h | h
     ·rw [h]; exact hI e (by simp)
     ·exact UY (fun p hp=>hI p (fx _ hp)) p h
def k9 (o:aJ) (w:List UInt8):List Nd→Nat
 | []=>0
 | m::r=>(ways o w m).length+k9 o w r
theorem K9 (o:aJ) (w:List UInt8):∀ l:List Nd,(l.flatMap fun m=>(ways o w m).map (m.2.1:: ·)).length=k9 o w l
 | []=>rfl
 | m::r=>by rw [ze,cd,nD,K9 o w r]; rfl
theorem sat (s c:Nat):(if (201:Int) < ((min 201 s:Nat):Int)+((min 201 c:Nat):Int) then (201:Int) else ((min 201 s:Nat):Int)+((min 201 c:Nat):Int))=((min 201 (s+c):Nat):Int):=by
 split<;>omega
theorem aeo {R:Type} (F:jQ→Nd→Option (jQ×Int)) (o:aJ) (w:List UInt8) (n:Nd) (k0:jQ→Nd→Int→Option R):
  ∀ (ys pre:List Nd) (M:Nat) (mp:List (Nd×Int)) (s:Nat),ys.length < M→(pre++ys).length≤1000→Inv o w mp→
    (∀ y∈ys,∀ mp,Inv o w mp→∃ mp',Inv o w mp'∧F (o,(w,(mp,()))) y=some ((o,(w,(mp',()))),cn o w y))→
    ∃ mp',Inv o w mp'∧tc F (fun y0 y1 y2 _ _ _=>k0 y0 y1 y2) M (o,(w,(mp,()))) n ((min 201 s:Nat):Int) (pre++ys) ((pre++ys).length:Int) (pre.length:Int)=k0 (o,(w,(mp',()))) n ((min 201 (s+k9 o w ys):Nat):Int):=by
 intro ys
 induction ys with
 | nil=>
   intro pre M mp s hM hb hI hF
   cases M with
   | zero=>omega
   | succ M=>
     refine ⟨mp,hI,?_⟩
     unfold tc
     simp only [xm,xi,xj,xk,xl,xn,sz,fk,aC,k9,Nat.add_zero]
 | cons y ys ih=>
   intro pre M mp s hM hb hI hF
   cases M with
   | zero=>omega
   | succ M=>
     have hwr:=fo pre ys y (by unfold bN; omega)
     have hl:(fP (pre.length:Int) < (pre++y::ys).length)=True:=tn pre ys y
     obtain ⟨mp1,hI1,h1⟩:=hF y (by simp) mp hI
     obtain ⟨mp2,hI2,h2⟩:=ih (pre++[y]) M mp1 (s+(ways o w y).length) (by simpa using hM) (by rw [←bE]; exact hb) hI1 (fun z hz=>hF z (fx _ hz))
     rw [←bE] at h2
     refine ⟨mp2,hI2,?_⟩
     have hc:cn o w y=((min 201 (ways o w y).length:Nat):Int):=rfl
     have hw:IntKind.i64.wrap (((min 201 s:Nat):Int)+cn o w y)=((min 201 s:Nat):Int)+cn o w y:=fw (by rw [hc]; omega)
     unfold tc
     simp only [xm,xi,xj,xk,xl,xn,sz,eQ,dZ,dL,if_true,aN,hl,h1,ar,hw,hwr]
     rw [hc,sat]
     refine eg h2 ?_
     rw [show k9 o w (y::ys)=(ways o w y).length+k9 o w ys from rfl,Nat.add_assoc]
theorem KK (o:aJ) (w:List UInt8) (n:Nd):∀ (ys:List cQ) (i:Int),(ea o w n ys i).length≤ys.length
 | [],_=>by simp [ea]
 | y::ys,i=>by
   have:=KK o w n ys (i+1)
   unfold ea
   cases jF o w n y<;>simp only [cond_true,cond_false,eG]<;>omega
theorem adL {o:aJ} {w:List UInt8} (ho:oE o=0) (hw:w.length≤100):∀ (m:Nat) (n:Nd) (mp:List (Nd×Int)),Ok o w n→rm w n < m→Inv o w mp→
  ∃ mp',Inv o w mp'∧nH 2000 m (o,(w,(mp,()))) n=some ((o,(w,(mp',()))),cn o w n):=by
 intro m
 induction m with
 | zero=>intro n mp hn hm; omega
 | succ m ih=>
   intro n mp hn hm hI
   unfold nH
   simp only [xm,xi,xj,xk,xl,xn,sz]
   cases he:n.2.2.1==(w.length:Int) with
   | true=>
     refine ⟨mp,hI,?_⟩
     have hc:cn o w n=cond (decide (n.2.1≥0)&&gH o n.2.1 (fe o n.1) []) 1 0:=by
      unfold cn; rw [Ld he]
      cases decide (n.2.1≥0)&&gH o n.2.1 (fe o n.1) []<;>rfl
     rw [hc]
     simp only [aN]
     cases hd:decide (n.2.1≥0) with
     | false=>rfl
     | true=>
       simp only [aN,Ws (o,(w,(mp,()))) n.1 hn.b,ar,v60 o n.2.1 (fe o n.1) [] (by have:=VU ho n.1 hn.b; unfold bN; omega),fW]
       cases gH o n.2.1 (fe o n.1) []<;>rfl
   | false=>
     simp only [aC]
     have hg:=UW (k:=n) hI
     have hdef:iA (fun a b:Nd=>(a.1==b.1)&&((a.2.1==b.2.1)&&((a.2.2.1==b.2.2.1)&&true))) (0:Int) mp n=iA mn 0 mp n:=rfl
     rw [hdef]
     cases hb:(iA mn 0 mp n).2 with
     | true=>
       refine ⟨mp,hI,?_⟩
       rw [hg hb]
       rfl
     | false=>
       have hnx:=Wt (o,(w,(mp,()))) ho hw n hn
       simp only at hnx
       have h120:=(qA ho).2.1
       have hnl:=KK o w n o.2.1 0
       obtain ⟨mp1,hI1,h1⟩:=aeo (R:=jQ×Int) (nH 2000 m) o w n (fun x0 x1 x2=>some ((x0.1,(x0.2.1,((iY (fun a b:Nd=>((a.1==b.1)&&((a.2.1==b.2.1)&&((a.2.2.1==b.2.2.1)&&true)))) x0.2.2.1 x1 x2),x0.2.2.2))),x2)) (ea o w n o.2.1 0) [] 2000 mp 0 (by omega) (by simp; omega) hI (fun y hy mp hI=>by
        have h3:=nx ho hn hy
        exact ih y mp h3.1 (by omega) hI)
       have hcn:((min 201 (0+k9 o w (ea o w n o.2.1 0)):Nat):Int)=cn o w n:=by
        unfold cn; rw [C6 ho hn he,K9,kc]
       simp only [cY,ei] at h1
       rw [hcn] at h1
       refine ⟨iY mn mp1 n (cn o w n),UY hI1,?_⟩
       simp only [aC,hnx,ar]
       exact h1
theorem Ww {o:aJ} {w:List UInt8} (ho:oE o=0) (hw:w.length≤100) (n:Nd) (mp:List (Nd×Int)) (hn:Ok o w n) (hI:Inv o w mp):
  ∃ mp',Inv o w mp'∧aX 2000 (o,(w,(mp,()))) n=some ((o,(w,(mp',()))),cn o w n):=by
 unfold aX
 have h0:=hn.e0
 exact adL ho hw 250 n mp hn (by unfold rm; omega) hI
def al (o:aJ) (w:List UInt8) (n:Nd):List (List Int):=cond (n.2.2.1==(w.length:Int)) [[]] (ways o w n)
theorem LH {o:aJ} {w:List UInt8} {n:Nd} (h:ways o w n≠[]):al o w n=ways o w n:=by
 unfold al
 cases he:n.2.2.1==(w.length:Int) with
 | false=>rfl
 | true=>
   rw [Ld he] at h ⊢
   cases hf:decide (n.2.1≥0)&&gH o n.2.1 (fe o n.1) [] with
   | true=>rfl
   | false=>rw [hf] at h; exact absurd rfl h
theorem aej {R:Type} (K:jQ→List (List Int)→List Nd→Int→Int→Option R) (x:jQ) (n:Nd) (L:List Nd) (a b:Int):
  ∀ (ys pre:List (List Int)) (m:Nat) (acc:List (List Int)),ys.length < m→(pre++ys).length≤1000→acc.length+ys.length≤100000→(∀ l∈ys,l.length≤1000)→
    td (fun y0 y1 _ y3 y4 y5 _ _ _=>K y0 y1 y3 y4 y5) m x acc n L a b (pre++ys) ((pre++ys).length:Int) (pre.length:Int)=K x (acc++ys.map (n.2.1:: ·)) L a b:=by
 intro ys
 induction ys with
 | nil=>
   intro pre m acc hm hb ha hy
   cases m with
   | zero=>omega
   | succ m=>
     unfold td
     simp only [oc,n7,ot,oi,n8,oe,oj,om,ou,ov,n9,od,np,fk,aC,List.map_nil,je acc]
 | cons y ys ih=>
   intro pre m acc hm hb ha hy
   cases m with
   | zero=>omega
   | succ m=>
     have hwr:=fo pre ys y (by unfold bN; omega)
     have hl:(fP (pre.length:Int) < (pre++y::ys).length)=True:=tn pre ys y
     have hy1:=hy y (by simp)
     simp only [eG] at ha
     have c1:([n.2.1].length+y.length≤17592186044416)=True:=by rw [eq_iff_iff,iff_true]; simp only [gW]; omega
     have c2:(acc.length+[[n.2.1]++y].length≤5864062014805)=True:=by rw [eq_iff_iff,iff_true]; simp only [gW]; omega
     unfold td
     simp only [oc,n7,ot,oi,n8,oe,oj,om,ou,ov,n9,od,np,eQ,dZ,dL,if_true,aN,hwr,hl,c1,c2,fX]
     have:=ih (pre++[y]) m (acc++[[n.2.1]++y]) (by simpa using hm) (by rw [←bE]; exact hb) (by simp only [cd,gW]; omega) (fun l hl=>hy l (fx _ hl))
     rw [←bE,bJ] at this
     exact this
theorem adC {R:Type} (F:jQ→Nd→Option (jQ×List (List Int))) {o:aJ} {w:List UInt8} (ho:oE o=0) (hw:w.length≤100) (K:jQ→List (List Int)→Option R):
  ∀ (ys pre:List Nd) (M:Nat) (mp:List (Nd×Int)) (acc:List (List Int)),ys.length < M→(pre++ys).length≤1000→Inv o w mp→(∀ y∈ys,Ok o w y)→acc.length+k9 o w ys≤200→
    (∀ y∈ys,∀ mp,Inv o w mp→(ways o w y).length≤200→∃ mp',Inv o w mp'∧F (o,(w,(mp,()))) y=some ((o,(w,(mp',()))),al o w y))→
    ∃ mp',Inv o w mp'∧oy 2000 (aX 2000) F (fun y0 y1 _ _ _=>K y0 y1) M (o,(w,(mp,()))) acc (pre++ys) ((pre++ys).length:Int) (pre.length:Int)=K (o,(w,(mp',()))) (acc++ys.flatMap fun m=>(ways o w m).map (m.2.1:: ·)):=by
 intro ys
 induction ys with
 | nil=>
   intro pre M mp acc hM hb hI hO ha hF
   cases M with
   | zero=>omega
   | succ M=>
     refine ⟨mp,hI,?_⟩
     unfold oy
     simp only [oc,n7,ot,oi,n8,oe,oj,om,ou,ov,n9,od,np,fk,aC,List.flatMap_nil,je acc]
 | cons y ys ih=>
   intro pre M mp acc hM hb hI hO ha hF
   cases M with
   | zero=>omega
   | succ M=>
     have hwr:=fo pre ys y (by unfold bN; omega)
     have hl:(fP (pre.length:Int) < (pre++y::ys).length)=True:=tn pre ys y
     have hy:=hO y (by simp)
     have ht:k9 o w (y::ys)=(ways o w y).length+k9 o w ys:=rfl
     rw [ht] at ha
     obtain ⟨mp1,hI1,h1⟩:=Ww ho hw y mp hy hI
     have hgo:=fun (mp:List (Nd×Int)) (acc:List (List Int)) (hI:Inv o w mp) (ha:acc.length+k9 o w ys≤200)=>ih (pre++[y]) M mp acc (by simpa using hM) (by rw [←bE]; exact hb) hI (fun z hz=>hO z (fx _ hz)) ha (fun z hz=>hF z (fx _ hz))
     by_cases hc:cn o w y=0
     ·have hnil:ways o w y=[]:=by
       unfold cn at hc
       exact mN.1 (by omega)
      obtain ⟨mp2,hI2,h2⟩:=hgo mp1 acc hI1 (by omega)
      rw [←bE] at h2
      refine ⟨mp2,hI2,?_⟩
      have e:(cn o w y==0)=true:=beq_iff_eq.2 hc
      unfold oy
      simp only [oc,n7,ot,oi,n8,oe,oj,om,ou,ov,n9,od,np,eQ,dZ,dL,if_true,aN,hl,h1,ar,e,hwr]
      rw [h2,ze,hnil]
      rfl
     ·have hne:ways o w y≠[]:=by
       intro h; apply hc; unfold cn; rw [h]; rfl
      obtain ⟨mp2,hI2,h2⟩:=hF y (by simp) mp1 hI1 (by omega)
      rw [LH hne] at h2
      have e:(cn o w y==0)=false:=beq_eq_false_iff_ne.2 hc
      obtain ⟨mp3,hI3,h3⟩:=hgo mp2 (acc++(ways o w y).map (y.2.1:: ·)) hI2 (by rw [cd,nD]; omega)
      rw [←bE,bJ] at h3
      refine ⟨mp3,hI3,?_⟩
      have hp:=aej (R:=R) (fun y0 y1 y3 y4 y5=>oy 2000 (aX 2000) F (fun y0 y1 _ _ _=>K y0 y1) M y0 y1 y3 y4 (IntKind.i64.wrap (y5+(1:Int)))) (o,(w,(mp2,()))) y (pre++y::ys) ((pre++y::ys).length:Int) (pre.length:Int) (ways o w y) [] 2000 acc (by omega) (by simp; omega) (by omega) (fun l hl=>by
       have h0:=hy.e0
       have:=Lg ho _ y hy l hl
       unfold rm at this; omega)
      simp only [cY,ei] at hp
      unfold oy
      simp only [oc,n7,ot,oi,n8,oe,oj,om,ou,ov,n9,od,np,eQ,dZ,dL,if_true,aN,hl,h1,ar,e,aC,h2]
      refine eg hp ?_
      rw [hwr,h3,ze]
theorem adB {o:aJ} {w:List UInt8} (ho:oE o=0) (hw:w.length≤100):∀ (m:Nat) (n:Nd) (mp:List (Nd×Int)),Ok o w n→rm w n < m→Inv o w mp→(ways o w n).length≤200→
  ∃ mp',Inv o w mp'∧nI 2000 m (o,(w,(mp,()))) n=some ((o,(w,(mp',()))),al o w n):=by
 intro m
 induction m with
 | zero=>intro n mp hn hm; omega
 | succ m ih=>
   intro n mp hn hm hI h200
   unfold nI al
   simp only [oc,n7,ot,oi,n8,oe,oj,om,ou,ov,n9,od,np]
   cases he:n.2.2.1==(w.length:Int) with
   | true=>exact ⟨mp,hI,rfl⟩
   | false=>
     have hnx:=Wt (o,(w,(mp,()))) ho hw n hn
     simp only at hnx
     have h120:=(qA ho).2.1
     have hnl:=KK o w n o.2.1 0
     rw [C6 ho hn he,K9] at h200
     obtain ⟨mp1,hI1,h1⟩:=adC (R:=jQ×List (List Int)) (nI 2000 m) ho hw (fun x0 x1=>some (x0,x1)) (ea o w n o.2.1 0) [] 2000 mp [] (by omega) (by simp; omega) hI (fun y hy=>(nx ho hn hy).1) (by simpa using h200) (fun y hy mp hI h2=>by
      have h3:=nx ho hn hy
      exact ih y mp h3.1 (by omega) hI h2)
     simp only [cY,ei] at h1
     refine ⟨mp1,hI1,?_⟩
     simp only [aC,cond_false,hnx,ar,C6 ho hn he]
     exact h1
def wE (s:List UInt8):Int:=cond (s==[]) 7 (cond (decide ((s.length:Int) > 16)) 3 (cond (s.all jC) 0 2))
def gy (o:aJ) (w:List UInt8):Int:=cond (oE o != 0) (oE o) (wE w)
theorem adW {R:Type} (k0:Int→Option R) (K:Option R) (f:Int×Unit→Option Bool) (p:Int→Bool):
  ∀ (ys pre:List Int) (m:Nat),(∀ t∈ys,f (t,())=some (p t))→ys.length < m→(pre++ys).length≤bN→
    (ys.any p=false→qm k0 (fun _ _ _ _=>K) m (pre++ys) f ((pre++ys).length:Int) (pre.length:Int)=K)∧
    (ys.any p=true→∃ i:Nat,qm k0 (fun _ _ _ _=>K) m (pre++ys) f ((pre++ys).length:Int) (pre.length:Int)=k0 (i:Int)):=by
 intro ys
 induction ys with
 | nil=>
   intro pre m hf hm hb
   cases m with
   | zero=>omega
   | succ m=>
     unfold qm
     simp only [vO,vP,vQ,vR,vS,vT,sk,fk,aC,zc]
     exact ⟨fun _=>trivial,fun h=>by cases h⟩
 | cons y ys ih=>
   intro pre m hf hm hb
   cases m with
   | zero=>omega
   | succ m=>
     have hwr:=fo pre ys y hb
     have hgo:=ih (pre++[y]) m (fun t ht=>hf t (fx _ ht)) (by simpa using hm) (by rw [←bE]; exact hb)
     rw [←bE] at hgo
     unfold qm
     simp only [vO,vP,vQ,vR,vS,vT,sk,eQ,dZ,dL,if_true,aN,hwr,hf y (by simp),ar,oU]
     cases h:p y with
     | true=>simp only [aN,tL]; exact ⟨(fun h=>by cases h),fun _=>⟨pre.length,rfl⟩⟩
     | false=>simp only [aC,oQ]; exact hgo
theorem v96 (xs:List Int) (hx:xs.length < 2000) (f:Int×Unit→Option Bool) (p:Int→Bool) (hf:∀ t∈xs,f (t,())=some (p t)):dc 2000 xs f=some (xs.any p):=by
 unfold dc
 simp only [JO,Cq]
 unfold iK
 simp only [vO,vP,vQ,vR,vS,vT,sk]
 have h:=adW (R:=Int) some (some (-1)) f p xs [] 2000 hf hx (by unfold bN; simp; omega)
 simp only [cY,ei] at h
 have z:((0:Nat):Int)=0:=rfl
 rw [z] at h
 cases ha:xs.any p with
 | false=>rw [h.1 ha]; rfl
 | true=>
   obtain ⟨i,h1⟩:=h.2 ha
   rw [h1]
   simp only [ar]
   have:decide ((i:Int)≥0)=true:=decide_eq_true (by omega)
   rw [this]
theorem W3 (s:List UInt8):(s.map ch).any (fun t=>!dF t)=!(s.map ch).all dF:=by
 induction s with
 | nil=>rfl
 | cons b s ih=>simp only [fX,oU,dP,ih]; cases dF (ch b)<;>rfl
theorem aec (s:List UInt8):s.all jC=((s.map ch).all dF&&s.all fun b=>!up b):=by
 induction s with
 | nil=>rfl
 | cons b s ih=>
   simp only [fX,dP,ih,jC]
   have:dF (ch b)=dF (b.toNat:Int):=rfl
   rw [this]
   cases dF (b.toNat:Int)<;>cases up b<;>cases (s.map ch).all dF<;>cases s.all fun b=>!up b<;>rfl
theorem v71 (w:List UInt8) (h0:w≠[]) (hl:w.length≤16):∃ s,ig 2000 [w]=some (s,cond ((w.map ch).all dF) 0 2):=by
 have hc:dc 2000 (w.map fun b=>(b.toNat:Int)) (fun (x0:Int×Unit)=>((dt 2000 x0.1).bind fun b=>some [.v .bool b]).bind (jZ .bool))=some ((w.map ch).any fun t=>!dF t):=
  v96 (w.map ch) (by simp; omega) _ (fun t=>!dF t) (fun t ht=>by
   obtain ⟨b,_,rfl⟩:=df.1 ht
   unfold dt
   simp only [JP,Cr]
   have:=(Lc b).1
   rw [show b6 2000 (ch b)=some (dF (ch b)) from this]
   rfl)
 have hJ:fM 2000 [w] [32]=some w:=by
  unfold fM
  simp only [JV,JR,JS,JT,JU,JW,Cs]
  rfl
 have h00:(w==[])=false:=by simpa using h0
 unfold ig
 simp only [xF,xG,xH,xI,xJ,xK,sK]
 show ∃ s,qt (dc 2000) (dt 2000) _ _ (1999+1) [w] [w] (1:Int) (0:Int)=_
 unfold qt
 have d0:decide ((0:Int) < 1)=true:=rfl
 have c0:(0≤(0:Int)∧(0:Int) < (([w]:List (List UInt8)).length:Int))=True:=by rw [eq_iff_iff,iff_true]; exact ⟨by omega,by simp⟩
 have g:([w]:List (List UInt8)).getD (0:Int).toNat []=w:=rfl
 simp only [xF,xG,xH,xI,xJ,xK,sK,d0,aN,c0,if_true,g,h00,aC,hc,ar,W3]
 cases ha:(w.map ch).all dF with
 | false=>exact ⟨[],rfl⟩
 | true=>
   simp only [eK,aC]
   show ∃ s,qt (dc 2000) (dt 2000) _ _ (1998+1) [w] [w] (1:Int) (IntKind.i64.wrap (0+1))=_
   unfold qt
   have w1:IntKind.i64.wrap (0+1)=1:=rfl
   have d1:decide ((1:Int) < 1)=false:=rfl
   have d2:decide ((w.length:Int) > 120)=false:=decide_eq_false (by omega)
   simp only [xF,xG,xH,xI,xJ,xK,sK,w1,d1,aC,hJ,ar,d2]
   exact ⟨w,rfl⟩
theorem v40 (o:aJ) (w:List UInt8):bS 2000 o w=some (gy o w):=by
 unfold bS gy wE
 simp only [Jp,Cf,v70,ar]
 cases oE o != 0 with
 | true=>rfl
 | false=>
   cases h0:w==[] with
   | true=>rfl
   | false=>
     cases h1:decide ((w.length:Int) > 16) with
     | true=>rfl
     | false=>
       have h2:=of_decide_eq_false h1
       obtain ⟨s,hs⟩:=v71 w (by simpa using h0) (by omega)
       simp only [aC,cond_false,hs,ar,v72 w (by omega)]
       rw [show (fold w != w)=!(fold w==w) from rfl,IQ,aec]
       cases (w.map ch).all dF<;>cases w.all (fun b=>!up b)<;>rfl
theorem qi {o:aJ} {w:List UInt8} (h:gy o w=0):oE o=0∧w≠[]∧w.length≤16:=by
 unfold gy at h
 cases h1:oE o != 0 with
 | true=>rw [h1,cond_true] at h; rw [h] at h1; cases h1
 | false=>
   rw [h1,cond_false] at h
   unfold wE at h
   cases h2:w==[] with
   | true=>rw [h2] at h; cases h
   | false=>
     rw [h2] at h
     cases h3:decide ((w.length:Int) > 16) with
     | true=>rw [h3] at h; cases h
     | false=>have:=of_decide_eq_false h3; exact ⟨by simpa using h1,by simpa using h2,by omega⟩
def eC (o:aJ):List Int→Int
 | []=>0
 | i::r=>(sg o i).2.2.1+eC o r
theorem S9 {x:cQ} (h:gE x=0):0≤x.2.2.1∧x.2.2.1≤99:=by
 unfold gE at h
 cases h1:tE x.1 != 0 with
 | true=>rw [h1,cond_true] at h; rw [h] at h1; cases h1
 | false=>
   rw [h1,cond_false] at h
   cases h2:(x.2.1.length:Int)==0 with
   | true=>rw [h2] at h; cases h
   | false=>
     rw [h2,cond_false] at h
     cases h3:decide ((x.2.1.length:Int) > 2) with
     | true=>rw [h3] at h; cases h
     | false=>
       rw [h3,cond_false] at h
       cases h4:jL x.2.1 != 0 with
       | true=>rw [h4,cond_true] at h; rw [h] at h4; cases h4
       | false=>
         rw [h4,cond_false] at h
         cases h5:ud x with
         | true=>rw [h5] at h; cases h
         | false=>
           unfold ud at h5
           simp only [Bool.or_eq_false_iff,decide_eq_false_iff_not] at h5
           omega
theorem QJ {o:aJ} (ho:oE o=0):∀ {l:List Int},l.all (dd o)=true→0≤eC o l∧eC o l≤99 * l.length
 | [],_=>by simp [eC]
 | i::r,h=>by
   simp only [dP,au] at h
   have h1:=S9 (mH ho (iW.1 h.1))
   have h2:=QJ ho h.2
   simp only [eC,eG]; omega
theorem adK {R:Type} (K:Int→Option R) (o:aJ) (ho:oE o=0):
  ∀ (ys pre:List Int) (m:Nat) (s:Int),ys.all (dd o)=true→ys.length < m→(pre++ys).length≤1000→0≤s→s≤99 * pre.length→
    ta (fun _ y1 _ _ _=>K y1) m o s (pre++ys) ((pre++ys).length:Int) (pre.length:Int)=K (s+eC o ys):=by
 intro ys
 induction ys with
 | nil=>
   intro pre m s hi hm hb h0 h1
   cases m with
   | zero=>omega
   | succ m=>
     unfold ta
     simp only [xf,xb,xc,xd,xe,xg,sx,fk,aC,eC,Int.add_zero]
 | cons y ys ih=>
   intro pre m s hi hm hb h0 h1
   cases m with
   | zero=>omega
   | succ m=>
     have hwr:=fo pre ys y (by unfold bN; omega)
     simp only [dP,au] at hi
     have hy:=iW.1 hi.1
     have hg:=S9 (mH ho hy)
     have hbp:pre.length < 1000:=by simp at hb; omega
     have hin:(0≤y∧y < (o.2.1.length:Int))=True:=by rw [eq_iff_iff,iff_true]; exact hy
     have hs:o.2.1.getD y.toNat g0=sg o y:=rfl
     have hw:IntKind.i64.wrap (s+(sg o y).2.2.1)=s+(sg o y).2.2.1:=fw (by omega)
     unfold ta
     simp only [xf,xb,xc,xd,xe,xg,sx,eQ,dZ,dL,if_true,aN,hwr,hin,hs,hw,eC]
     have:=ih (pre++[y]) m (s+(sg o y).2.2.1) hi.2 (by simpa using hm) (by rw [←bE]; exact hb) (by omega) (by simp only [cd,gW]; omega)
     rw [←bE,Int.add_assoc] at this
     exact this
theorem C5 (o:aJ) (l:List Int) (ho:oE o=0) (hi:l.all (dd o)=true) (hl:l.length≤1000):cm 2000 o l=some (eC o l):=by
 unfold cm
 have:=adK (R:=Int) some o ho l [] 2000 0 hi (by omega) (by simpa using hl) (by omega) (by simp)
 simp only [cY,ei,Int.zero_add] at this
 simp only [xf,xb,xc,xd,xe,xg,sx]
 exact this
def il (a b:Int):Int:=ad (decide (a < b)) (-1) (ad (decide (a > b)) 1 0)
theorem v46 (a b:Int):cy 2000 a b=some (il a b):=by
 unfold cy il
 simp only [Jr,Ci]
 have h:∀ x:Int,dT 2000 x=some false:=by
  intro x
  unfold dT
  simp only [Cn,xX,bne_self_eq_false]
 simp only [h,ar,aC]
 cases decide (a < b)<;>cases decide (a > b)<;>rfl
theorem Hp {a b:Int} (h:a < b):il a b= -1:=by unfold il; rw [decide_eq_true h]; rfl
theorem QF {a b:Int} (h:b < a):il a b=1:=by unfold il; rw [decide_eq_false (show ¬ a < b by omega),decide_eq_true (show a > b from h)]; rfl
theorem QE (a:Int):il a a=0:=by
 have h:decide (a < a)=false:=decide_eq_false (by omega)
 unfold il
 simp only [gt_iff_lt,h,aC]
theorem rn (x:Int):ad ((-1:Int) != 0) (-1) x= -1:=rfl
theorem rp (x:Int):ad ((1:Int) != 0) 1 x=1:=rfl
def lex:List Int→List Int→Int
 | [],[]=>0
 | [],_::_=> -1
 | _::_,[]=>1
 | x::xs,y::ys=>ad (il x y != 0) (il x y) (lex xs ys)
theorem ad4 {R:Type} (k0:Int→Option R) (K:List Int→List Int→Option R):
  ∀ (ys pre zs pre2:List Int) (m:Nat),ys.length < m→(pre++ys).length≤bN→pre.length=pre2.length→(∀ r,ys≠[]∨r=K (pre++ys) (pre2++zs)→(ys=[]→K (pre++ys) (pre2++zs)=k0 (lex ys zs))→True)→
    (∀ A B,A=pre++ys→B=pre2++zs→A.length < B.length→K A B=k0 (-1))→(∀ A B,A=pre++ys→B=pre2++zs→¬ A.length < B.length→K A B=k0 0)→
    te (cy 2000) k0 (fun y0 y1 _ _ _=>K y0 y1) m (pre++ys) (pre2++zs) (pre++ys) ((pre++ys).length:Int) (pre.length:Int)=k0 (lex ys zs):=by
 intro ys
 induction ys with
 | nil=>
   intro pre zs pre2 m hm hb hp _ h1 h2
   cases m with
   | zero=>omega
   | succ m=>
     unfold te
     simp only [xp,xr,xu,xw,xx,xy,sG,fk,aC]
     cases zs with
     | nil=>exact h2 _ _ rfl rfl (by simp [hp])
     | cons z zs=>exact h1 _ _ rfl rfl (by simp [hp])
 | cons y ys ih=>
   intro pre zs pre2 m hm hb hp _ h1 h2
   cases m with
   | zero=>omega
   | succ m=>
     have hwr:=fo pre ys y hb
     unfold te
     simp only [xp,xr,xu,xw,xx,xy,sG,eQ,dZ,dL,if_true,aN,hwr]
     cases zs with
     | nil=>
       have d:decide ((pre.length:Int)≥((pre2++([]:List Int)).length:Int))=true:=decide_eq_true (by simp [hp])
       simp only [d,aN,lex]
     | cons z zs=>
       have d:decide ((pre.length:Int)≥((pre2++z::zs).length:Int))=false:=decide_eq_false (by simp [hp]; omega)
       have i2:(0≤(pre.length:Int)∧(pre.length:Int) < ((pre2++z::zs).length:Int))=True:=by rw [hp]; exact dZ _ _ _
       have a2:(pre2++z::zs).getD (fP (pre.length:Int)) (0:Int)=z:=by rw [hp]; exact dL _ _ _ _
       simp only [d,aC,i2,if_true,a2,v46,ar,lex]
       cases h:il y z != 0 with
       | true=>simp only [aN]
       | false=>
         simp only [aC]
         rw [bE pre ys y,bE pre2 zs z]
         exact ih (pre++[y]) zs (pre2++[z]) m (by simpa using hm) (by rw [←bE]; exact hb) (by simp [hp]) (fun _ _ _=>trivial) (fun A B hA hB=>h1 A B (by rw [hA,←bE]) (by rw [hB,←bE])) (fun A B hA hB=>h2 A B (by rw [hA,←bE]) (by rw [hB,←bE]))
theorem v47 (a b:List Int) (h:a.length < 2000):ic 2000 a b=some (lex a b):=by
 unfold ic
 simp only [xp,xr,xu,xw,xx,xy,sG]
 have:=ad4 (R:=Int) some (fun x0 x1=>ad (decide ((x0.length:Int) < (x1.length:Int))) (some (-1)) (some 0)) a [] b [] 2000 h (by unfold bN; simp; omega) rfl (fun _ _ _=>trivial)
  (fun A B _ _ hl=>by rw [decide_eq_true (show (A.length:Int) < (B.length:Int) by omega)]; rfl) (fun A B _ _ hl=>by rw [decide_eq_false (show ¬ (A.length:Int) < (B.length:Int) by omega)]; rfl)
 simp only [cY,ei] at this
 exact this
def nS (o:aJ) (a b:List Int):Int:=ad (il (eC o a) (eC o b) != 0) (il (eC o a) (eC o b)) (lex a b)
theorem v45 (a b:Int):ib 2000 [a,b]=some (ad (a != 0) a b):=by
 unfold ib
 simp only [sE,sA,sB,sC,sD,sF,pZ]
 show nt _ _ (1999+1) (0:Int) [a,b] (2:Int) (0:Int)=_
 unfold nt
 have d0:decide ((0:Int) < 2)=true:=rfl
 have c0:(0≤(0:Int)∧(0:Int) < (([a,b]:List Int).length:Int))=True:=by rw [eq_iff_iff,iff_true]; exact ⟨by omega,by simp⟩
 have e0:([a,b]:List Int).getD (0:Int).toNat 0=a:=rfl
 simp only [sE,sA,sB,sC,sD,sF,pZ,d0,aN,c0,if_true,e0]
 cases h:a != 0 with
 | true=>rfl
 | false=>
   simp only [aC]
   show nt _ _ (1998+1) (0:Int) [a,b] (2:Int) (IntKind.i64.wrap (0+1))=_
   unfold nt
   have w1:IntKind.i64.wrap (0+1)=1:=rfl
   have d1:decide ((1:Int) < 2)=true:=rfl
   have c1:(0≤(1:Int)∧(1:Int) < (([a,b]:List Int).length:Int))=True:=by rw [eq_iff_iff,iff_true]; exact ⟨by omega,by simp⟩
   have e1:([a,b]:List Int).getD (1:Int).toNat 0=b:=rfl
   simp only [sE,sA,sB,sC,sD,sF,pZ,w1,d1,aN,c1,if_true,e1]
   cases h2:b != 0 with
   | true=>rfl
   | false=>
     have hb:b=0:=by simpa using h2
     simp only [aC]
     show nt _ _ (1997+1) (0:Int) [a,b] (2:Int) (IntKind.i64.wrap (1+1))=_
     unfold nt
     have w2:IntKind.i64.wrap (1+1)=2:=rfl
     have d2:decide ((2:Int) < 2)=false:=rfl
     simp only [sE,sA,sB,sC,sD,sF,pZ,w2,d2,aC,hb]
theorem v44 (o:aJ) (ho:oE o=0) (a b:List Int) (ha:a.all (dd o)=true∧a.length≤1000) (hb:b.all (dd o)=true∧b.length≤1000):gD 2000 a b o=some (nS o a b):=by
 unfold gD nS
 simp only [Jq,Cg,C5 o a ho ha.1 ha.2,C5 o b ho hb.1 hb.2,v46,v47 a b (by omega),v45,ar]
theorem ru (a b:Int):(il a b= -1∧a < b)∨(il a b=0∧a=b)∨(il a b=1∧b < a):=by
 rcases Lo a b with h | h | h
 ·exact .inl ⟨Hp h,h⟩
 ·subst h; exact .inr (.inl ⟨QE a,rfl⟩)
 ·exact .inr (.inr ⟨QF h,h⟩)
theorem UD:∀ a:List Int,lex a a=0
 | []=>rfl
 | x::xs=>by unfold lex; rw [QE]; exact UD xs
theorem UE:∀ {a b:List Int},lex a b=0→a=b
 | [],[],_=>rfl
 | [],_::_,h=>by simp [lex] at h
 | _::_,[],h=>by simp [lex] at h
 | x::xs,y::ys,h=>by
   unfold lex at h
   rcases ru x y with ⟨h1,_⟩ | ⟨h1,h2⟩ | ⟨h1,_⟩
   ·rw [h1] at h; cases h
   ·rw [h1] at h; subst h2; rw [UE h]
   ·rw [h1] at h; cases h
theorem UC:∀ {a b:List Int},lex a b < 0↔lex b a > 0
 | [],[]=>by simp [lex]
 | [],_::_=>by simp [lex]
 | _::_,[]=>by simp [lex]
 | x::xs,y::ys=>by
   unfold lex
   rcases ru x y with ⟨h1,h2⟩ | ⟨h1,h2⟩ | ⟨h1,h2⟩
   ·rw [h1,QF h2,rn,rp]; decide
   ·subst h2; rw [h1]; exact UC (a:=xs) (b:=ys)
   ·rw [h1,Hp h2,rp,rn]; decide
theorem lex_trans:∀ {a b c:List Int},lex a b < 0→lex b c < 0→lex a c < 0
 | [],[],c,h,_=>by simp [lex] at h
 | [],_::_,[],_,h=>by simp [lex] at h
 | [],_::_,_::_,_,_=>by simp [lex]
 | _::_,[],c,h,_=>by simp [lex] at h
 | _::_,_::_,[],_,h=>by simp [lex] at h
 | x::xs,y::ys,z::zs,h1,h2=>by
   unfold lex at h1 h2 ⊢
   rcases ru x y with ⟨a1,a2⟩ | ⟨a1,a2⟩ | ⟨a1,a2⟩
   ·rcases ru y z with ⟨b1,b2⟩ | ⟨b1,b2⟩ | ⟨b1,b2⟩
    ·rw [Hp (show x < z by omega),rn]; decide
    ·subst b2; rw [a1,rn]; decide
    ·rw [b1] at h2; exact absurd h2 (by rw [rp]; decide)
   ·subst a2
    rw [a1] at h1
    rcases ru x z with ⟨b1,b2⟩ | ⟨b1,b2⟩ | ⟨b1,b2⟩
    ·rw [b1,rn]; decide
    ·rw [b1] at h2 ⊢; exact lex_trans (a:=xs) (b:=ys) h1 h2
    ·rw [b1] at h2; exact absurd h2 (by rw [rp]; decide)
   ·rw [a1] at h1; exact absurd h1 (by rw [rp]; decide)
def iz (o:aJ) (a b:List Int):Prop:=eC o a < eC o b∨(eC o a=eC o b∧lex a b < 0)
theorem QD {o:aJ} {a b:List Int}:nS o a b < 0↔iz o a b:=by
 unfold nS iz
 rcases ru (eC o a) (eC o b) with ⟨h1,h2⟩ | ⟨h1,h2⟩ | ⟨h1,h2⟩
 ·rw [h1]; exact ⟨fun _=>.inl h2,fun _=>by rw [rn]; decide⟩
 ·rw [h1]; exact ⟨fun h=>.inr ⟨h2,h⟩,fun h=>by rcases h with h | h; omega; exact h.2⟩
 ·rw [h1]; exact ⟨fun h=>absurd h (by rw [rp]; decide),fun h=>by rcases h with h | h<;>omega⟩
theorem UR (o:aJ) (a:List Int):¬ iz o a a:=by
 rintro (h | ⟨_,h⟩)
 ·omega
 ·rw [UD] at h; omega
theorem US {o:aJ} {a b c:List Int} (h1:iz o a b) (h2:iz o b c):iz o a c:=by
 rcases h1 with h1 | ⟨h1,h3⟩<;>rcases h2 with h2 | ⟨h2,h4⟩
 ·exact .inl (by omega)
 ·exact .inl (by omega)
 ·exact .inl (by omega)
 ·exact .inr ⟨by omega,lex_trans h3 h4⟩
theorem aeR (o:aJ) (a b:List Int):iz o a b∨a=b∨iz o b a:=by
 rcases Lo (eC o a) (eC o b) with h | h | h
 ·exact .inl (.inl h)
 ·rcases Lo (lex a b) 0 with h2 | h2 | h2
  ·exact .inl (.inr ⟨h,h2⟩)
  ·exact .inr (.inl (UE h2))
  ·exact .inr (.inr (.inr ⟨h.symm,UC.2 h2⟩))
 ·exact .inr (.inr (.inl h))
theorem UQ {o:aJ} {a b:List Int} (h:iz o a b):¬ iz o b a:=fun h2=>UR o a (US h h2)
section
variable {o:aJ} {g:List Int×(List Int×Unit)→Option Int}
def qU (o:aJ) (g:List Int×(List Int×Unit)→Option Int) (l:List (List Int)):Prop:=∀ a∈l,∀ b∈l,g (a,(b,()))=some (nS o a b)
theorem KJ {a b:List Int} (h:g (a,(b,()))=some (nS o a b)):qy g a b=true↔iz o a b:=by
 unfold qy; rw [h]; simp only [decide_eq_true_iff]; exact QD
theorem Ta {a b:List Int} (h:g (a,(b,()))=some (nS o a b)):qg g a b=true↔¬ iz o a b:=by
 unfold qg; rw [h]; simp only [du,decide_eq_false_iff_not]; exact not_congr QD
abbrev lq (o:aJ) (l:List (List Int)):Prop:=l.Pairwise fun a b=>a=b∨iz o a b
theorem Kg {x y:List Int} {l:List (List Int)}:y∈nr g x l↔y=x∨y∈l:=by
 rw [(Kh (g:=g) x l).mem_iff,cU]
theorem TC (x:List Int):∀ l:List (List Int),qU o g (x::l)→lq o l→lq o (nr g x l)
 | [],_,_=>List.pairwise_singleton _ _
 | y::r,hg,hs=>by
   have hs':=qV.1 hs
   unfold nr
   cases h:qy g y x with
   | true=>
     have hlt:=(KJ (hg y (by simp) x (by simp))).1 h
     refine qV.2 ⟨fun z hz=>?_,TC x r (fun a ha b hb=>hg a (by rcases cU.1 ha with h | h; simp [h]; simp [h]) b (by rcases cU.1 hb with h | h; simp [h]; simp [h])) hs'.2⟩
     rcases Kg.1 hz with h | h
     ·rw [h]; exact .inr hlt
     ·exact hs'.1 z h
   | false=>
     have hge:¬ iz o y x:=fun h2=>by rw [(KJ (hg y (by simp) x (by simp))).2 h2] at h; cases h
     have hxy:x=y∨iz o x y:=by
      rcases aeR o x y with h | h | h
      ·exact .inr h
      ·exact .inl h
      ·exact absurd h hge
     refine qV.2 ⟨fun z hz=>?_,hs⟩
     rcases cU.1 hz with h | h
     ·rw [h]; exact hxy
     ·rcases hs'.1 z h with h2 | h2
      ·rw [←h2]; exact hxy
      ·rcases hxy with h3 | h3
       ·rw [h3]; exact .inr h2
       ·exact .inr (US h3 h2)
theorem VZ (xs:List (List Int)) (hg:qU o g xs):lq o (ja g xs):=by
 unfold ja
 have key:∀ (ys l:List (List Int)),qU o g (ys++l)→lq o l→lq o (ys.foldl (fun l x=>nr g x l) l):=by
  intro ys
  induction ys with
  | nil=>intro l _ h; exact h
  | cons y ys ih=>
    intro l hg h
    refine ih _ ?_ (TC y l (fun a ha b hb=>hg a (by rcases cU.1 ha with h | h<;>simp [h]) b (by rcases cU.1 hb with h | h<;>simp [h])) h)
    intro a ha b hb
    refine hg a ?_ b ?_
    ·rcases dv.1 ha with h | h
     ·simp [h]
     ·rcases Kg.1 h with h | h<;>simp [h]
    ·rcases dv.1 hb with h | h
     ·simp [h]
     ·rcases Kg.1 h with h | h<;>simp [h]
 exact key xs [] (by simpa using hg) List.Pairwise.nil
theorem Wa:∀ (l:List (List Int)),qU o g l→lq o l→nv g l=true
 | [],_,_=>rfl
 | x::r,hg,hs=>by
   have hs':=qV.1 hs
   unfold nv
   simp only [au,fH,nB,decide_eq_true_eq]
   refine ⟨⟨(Ta (hg x (by simp) x (by simp))).2 (UR o x),fun y hy=>?_⟩,Wa r (fun a ha b hb=>hg a (by simp [ha]) b (by simp [hb])) hs'.2⟩
   rcases hs'.1 y hy with h | h
   ·exact .inl h
   ·exact .inr ⟨(KJ (hg x (by simp) y (by simp [hy]))).2 h,(Ta (hg y (by simp [hy]) x (by simp))).2 (UQ h)⟩
end
theorem akf {o:aJ} {l m:List (List Int)} (hp:l.Perm m) (hl:lq o l) (hm:lq o m):l=m:=by
 refine List.Perm.eq_of_pairwise (le:=fun a b=>a=b∨iz o a b) ?_ hl hm hp
 rintro a b _ _ (h | h) (h2 | h2)
 ·exact h
 ·exact h
 ·exact h2.symm
 ·exact absurd h2 (UQ h)
theorem WB {o:aJ} {w:List UInt8} (ho:oE o=0):∀ (f:Nat) (n:Nd),Ok o w n→∀ l∈wy o w f n,l.all (dd o)=true
 | 0,_,_,l,h=>absurd h (by simp [wy])
 | f+1,n,hn,l,h=>by
   unfold wy at h
   cases he:n.2.2.1==(w.length:Int) with
   | true=>
     rw [he,cond_true] at h
     cases hf:decide (n.2.1≥0)&&gH o n.2.1 (fe o n.1) [] with
     | true=>rw [hf,cond_true] at h; rw [gX.1 h]; rfl
     | false=>rw [hf,cond_false] at h; cases h
   | false=>
     rw [he,cond_false] at h
     obtain ⟨m,hm,h2⟩:=Dm.1 h
     obtain ⟨l',hl',rfl⟩:=df.1 h2
     have h3:=nx ho hn hm
     have h4:=WB ho f m h3.1 l' hl'
     rw [dP,h4,gV]
     exact iW.2 ⟨h3.2.2,h3.1.s⟩
def gl:Nd:=(-1,(-1,(0,())))
theorem yM (o:aJ) (w:List UInt8):Ok o w gl:=⟨by show (-1:Int) < _; omega,by show (-1:Int) < _; omega,by show (0:Int)≤0; omega,by show (0:Int)≤_; omega⟩
def W0 (o:aJ) (w:List UInt8):List (List Int):=ways o w gl
theorem tW {o:aJ} {w:List UInt8} (h:gy o w=0) {l:List Int} (hl:l∈W0 o w):l.all (dd o)=true∧l.length≤16:=by
 obtain ⟨ho,h0,h1⟩:=qi h
 refine ⟨WB ho _ _ (yM o w) l hl,?_⟩
 have:=Lg ho _ _ (yM o w) l hl
 have h2:rm w gl≤w.length:=by unfold rm gl; simp
 omega
def dS (o:aJ) (l:List (List Int)):List (List Int):=ja (fun p=>some (nS o p.1 p.2.1)) l
theorem Bz (o:aJ) (l:List (List Int)):(dS o l).Perm l:=yL l
theorem HO (o:aJ) (l:List (List Int)):lq o (dS o l):=VZ l fun _ _ _ _=>rfl
def iQ (o:aJ) (w:List UInt8):List (List Int)×Int:=cond (gy o w != 0) ([],gy o w) (cond ((W0 o w).length==0) ([],9) (cond (decide (200 < (W0 o w).length)) ([],3) (dS o (W0 o w),0)))
theorem Wr (o:aJ) (w:List UInt8):cg 2000 o w=some (iQ o w):=by
 unfold cg iQ
 simp only [Jl,g16,v40,ar]
 cases hg:gy o w != 0 with
 | true=>rfl
 | false=>
   have hg0:gy o w=0:=by simpa using hg
   obtain ⟨ho,hw0,hw1⟩:=qi hg0
   obtain ⟨mp,hI,h1⟩:=Ww ho (by omega) gl [] (yM o w) (fun p hp=>absurd hp (by simp))
   have h1':aX 2000 (o,w,[],()) ((-1:Int),(-1:Int),(0:Int),())=some ((o,(w,(mp,()))),cn o w gl):=h1
   have hc:cn o w gl=((min 201 (W0 o w).length:Nat):Int):=rfl
   simp only [aC,cond_false,h1',ar]
   cases hz:(W0 o w).length==0 with
   | true=>
     have hz':(W0 o w).length=0:=by simpa using hz
     have:(cn o w gl==0)=true:=by rw [hc,hz']; rfl
     rw [this]; rfl
   | false=>
     have hz':(W0 o w).length≠0:=by simpa using hz
     have e1:(cn o w gl==0)=false:=beq_eq_false_iff_ne.2 (by rw [hc]; omega)
     rw [e1]
     simp only [aC,cond_false]
     by_cases h200:200 < (W0 o w).length
     ·have e2:decide (cn o w gl > 200)=true:=decide_eq_true (by rw [hc]; omega)
      rw [e2,decide_eq_true h200]; rfl
     ·have e2:decide (cn o w gl > 200)=false:=decide_eq_false (by rw [hc]; omega)
      rw [e2,decide_eq_false h200]
      simp only [aC,cond_false]
      obtain ⟨mp2,_,h2⟩:=adB ho (show w.length≤100 by omega) 250 gl mp (yM o w) (by unfold rm gl; simp; omega) hI (show (ways o w gl).length≤200 from by have:(W0 o w).length=(ways o w gl).length:=rfl; omega)
      have hal:al o w gl=W0 o w:=LH (fun e=>hz' (by unfold W0; rw [e]; rfl))
      rw [hal] at h2
      have h2':bM 2000 (o,(w,(mp,()))) ((-1:Int),(-1:Int),(0:Int),())=some ((o,(w,(mp2,()))),W0 o w):=h2
      simp only [h2',ar]
      have hG:qU o (fun (x0:List Int×(List Int×Unit))=>((gD 2000 x0.1 x0.2.1 o).bind fun b=>some [.v (.int .i64) b]).bind (jZ (.int .i64))) (W0 o w):=by
       intro a ha b hb
       have h3:=tW hg0 ha
       have h4:=tW hg0 hb
       simp only [v44 o ho a b ⟨h3.1,by omega⟩ ⟨h4.1,by omega⟩,ar]
       rfl
      have hG2:∀ {g:List Int×(List Int×Unit)→Option Int},qU o g (W0 o w)→tD g (W0 o w)=some (dS o (W0 o w)):=by
       intro g hG
       have hp:=yL (g:=g) (W0 o w)
       have hs:=VZ (W0 o w) hG
       have hok:=Wa (ja g (W0 o w)) (fun a ha b hb=>hG a (hp.mem_iff.1 ha) b (hp.mem_iff.1 hb)) hs
       unfold tD
       rw [if_pos ⟨fun e=>hz' (by rw [e]; rfl),by omega,hok⟩]
       rw [akf (hp.trans (Bz o _).symm) hs (HO o _)]
      have h5:eX 2000 (fun (x0:List Int×(List Int×Unit))=>((gD 2000 x0.1 x0.2.1 o).bind fun b=>some [.v (.int .i64) b]).bind (jZ (.int .i64))) (W0 o w)=some (dS o (W0 o w)):=by
       unfold eX
       exact hG2 hG
      rw [h5]
      rfl
theorem LJ {o:aJ} {w:List UInt8} (h:(iQ o w).2=0):gy o w=0∧W0 o w≠[]∧(W0 o w).length≤200∧(iQ o w).1=dS o (W0 o w):=by
 unfold iQ at h ⊢
 cases hg:gy o w != 0 with
 | true=>rw [hg,cond_true] at h; simp only at h; rw [h] at hg; cases hg
 | false=>
   rw [hg,cond_false] at h
   cases hz:(W0 o w).length==0 with
   | true=>rw [hz,cond_true] at h; cases h
   | false=>
     rw [hz,cond_false] at h
     by_cases h200:200 < (W0 o w).length
     ·rw [decide_eq_true h200,cond_true] at h; cases h
     ·rw [decide_eq_false h200]
      exact ⟨by simpa using hg,fun e=>by rw [e] at hz; (cases hz),by omega,rfl⟩
theorem Xn {o:aJ} {w:List UInt8} (h:W0 o w≠[]):∃ a r,dS o (W0 o w)=a::r∧a∈W0 o w∧∀ l∈W0 o w,eC o a≤eC o l:=by
 cases hd:dS o (W0 o w) with
 | nil=>
   have:=(Bz o (W0 o w)).length_eq
   rw [hd] at this
   exact absurd (mN.1 this.symm) h
 | cons a r=>
   have hp:=Bz o (W0 o w)
   rw [hd] at hp
   have hs:=HO o (W0 o w)
   rw [hd] at hs
   refine ⟨a,r,rfl,hp.mem_iff.1 (by simp),fun l hl=>?_⟩
   rcases cU.1 (hp.mem_iff.2 hl) with h1 | h1
   ·rw [h1]; omega
   ·rcases (qV.1 hs).1 l h1 with h2 | h2 | h2
    ·rw [h2]; omega
    ·omega
    ·omega
def LV (o:aJ) (w:List UInt8):List Int×(Int×Int):=cond ((iQ o w).2 != 0) ([],(0,(iQ o w).2)) ((iQ o w).1.getD 0 [],(eC o ((iQ o w).1.getD 0 []),0))
theorem v13 (o:aJ) (w:List UInt8):gN 2000 o w=some (LV o w):=by
 unfold gN LV
 simp only [I9,g13,Wr,ar]
 cases h:(iQ o w).2 != 0 with
 | true=>rfl
 | false=>
   obtain ⟨hg,hne,h200,h1⟩:=LJ (show (iQ o w).2=0 by simpa using h)
   obtain ⟨a,r,h2,h3,_⟩:=Xn hne
   have h4:=tW hg h3
   rw [h1,h2]
   have c:(0≤(0:Int)∧(0:Int) < ((a::r).length:Int))=True:=by rw [eq_iff_iff,iff_true]; simp only [eG]; omega
   have c2:((0:Int).toNat < (a::r).length)=True:=by rw [eq_iff_iff,iff_true]; simp
   have e:(a::r).getD ((0:Int).toNat) []=a:=rfl
   have e':(a::r).getD 0 []=a:=rfl
   simp only [aC,cond_false,c,c2,if_true,e,e',C5 o a (qi hg).1 h4.1 (by omega),ar]
def J6 (o:aJ):List Int→List bO
 | []=> []
 | j::_=>(sg o j).2.1
def jS (o:aJ):List bO→List Int→Bool
 | _,[]=>true
 | bf,i::r=>gH o i bf (J6 o r)&&jS o (sg o i).2.1 r
theorem Ve {o:aJ} {w:List UInt8} {n:Nd}:∀ (ys pre:List cQ) (j:Nat),o.2.1=pre++ys→j < ys.length→jF o w n (ys.getD j g0)=true→oP n ((pre.length+j:Nat):Int) (ys.getD j g0)∈ea o w n ys (pre.length:Int)
 | [],_,_,_,h,_=>by simp at h
 | y::ys,pre,0,hl,h,hk=>by
   have hk':jF o w n y=true:=hk
   unfold ea
   rw [hk',cond_true]
   exact List.mem_cons_self ..
 | y::ys,pre,j+1,hl,h,hk=>by
   have h1:=Ve ys (pre++[y]) j (by rw [hl,bE]) (by simpa using h) hk
   have hlen:((pre++[y]).length:Int)=(pre.length:Int)+1:=by simp
   have hlen2:(((pre++[y]).length+j:Nat):Int)=((pre.length+(j+1):Nat):Int):=by simp only [cd,gW]; omega
   rw [hlen,hlen2] at h1
   unfold ea
   cases jF o w n y with
   | true=>rw [cond_true]; exact fx _ h1
   | false=>rw [cond_false]; exact h1
theorem aft {o:aJ} {w:List UInt8} {n:Nd} {i:Int} (hi:dd o i=true) (hk:jF o w n (sg o i)=true):oP n i (sg o i)∈ea o w n o.2.1 0:=by
 have h:=iW.1 hi
 have:=Ve (o:=o) (w:=w) (n:=n) o.2.1 [] i.toNat rfl (by omega) hk
 simp only [ei,kc] at this
 rw [show ((i.toNat:Nat):Int)=i by omega] at this
 exact this
theorem ara {o:aJ} (ho:oE o=0) {l:List Int} (hi:l.all (dd o)=true) (h:gB o l=[]):l=[]:=by
 cases l with
 | nil=>rfl
 | cons i r=>
   simp only [dP,au] at hi
   have h1:=(kx (mH ho (iW.1 hi.1))).2.2.1
   simp only [gB,List.append_eq_nil_iff] at h
   exact absurd h.1 h1
def acc (o:aJ) (w:List UInt8) (n:Nd) (l:List Int):Prop:=
 l.all (dd o)=true∧gB o l=w.drop n.2.2.1.toNat∧(n.2.1 < 0∨gH o n.2.1 (fe o n.1) (J6 o l)=true)∧jS o (fe o n.2.1) l=true
theorem arO {o:aJ} {w:List UInt8} (ho:oE o=0):∀ (k:Nat) (n:Nd),rm w n < k→Ok o w n→(n.2.1 < 0→n.2.2.1 < (w.length:Int))→∀ l,l∈ways o w n↔acc o w n l:=by
 intro k
 induction k with
 | zero=>intro n h; omega
 | succ k ih=>
   intro n hk hn hs l
   have he0:=hn.e0; have he1:=hn.e1
   cases he:n.2.2.1==(w.length:Int) with
   | true=>
     have he':n.2.2.1=(w.length:Int):=by simpa using he
     have hs0:¬ n.2.1 < 0:=fun h=>by have:=hs h; omega
     have hd:w.drop n.2.2.1.toNat=[]:=List.drop_eq_nil_of_le (by omega)
     rw [Ld he,decide_eq_true (show n.2.1≥0 by omega),fW]
     unfold acc
     rw [hd]
     constructor
     ·intro h
      cases hf:gH o n.2.1 (fe o n.1) [] with
      | false=>rw [hf] at h; cases h
      | true=>
        rw [hf,cond_true] at h
        rw [gX.1 h]
        exact ⟨rfl,rfl,.inr hf,rfl⟩
     ·rintro ⟨h1,h2,h3,_⟩
      have:=ara ho h1 h2
      subst this
      rcases h3 with h3 | h3
      ·exact absurd h3 hs0
      ·have h3':gH o n.2.1 (fe o n.1) []=true:=h3
       rw [h3',cond_true]; exact gX.2 rfl
   | false=>
     have he':n.2.2.1≠(w.length:Int):=by simpa using he
     rw [C6 ho hn he,Dm]
     constructor
     ·rintro ⟨m,hm,h2⟩
      obtain ⟨l',hl',rfl⟩:=df.1 h2
      have h3:=nx ho hn hm
      have h4:=KL ho hn o.2.1 [] rfl hm
      obtain ⟨a1,a2,a3,a4⟩:=(ih m (by omega) h3.1 (fun h=>absurd h (by omega)) l').1 hl'
      have hix:dd o m.2.1=true:=iW.2 ⟨h3.2.2,h3.1.s⟩
      have hok:=h4.2.2.2.2.2.2
      unfold jF at hok
      simp only [au,nB,decide_eq_true_eq] at hok
      obtain ⟨r,hr⟩:=KV.1 hok.1
      have hm0:¬ m.2.1 < 0:=by omega
      refine ⟨by rw [dP,hix,a1]; rfl,?_,hok.2,?_⟩
      ·simp only [gB]
       rw [a2,hr]
       congr 1
       have:m.2.2.1.toNat=n.2.2.1.toNat+(sg o m.2.1).1.length:=by rw [h4.2.2.2.2.2.1]; omega
       rw [this,←zd,hr,Dc]
      ·unfold jS
       rw [au]
       refine ⟨?_,?_⟩
       ·rcases a3 with a3 | a3
        ·exact absurd a3 hm0
        ·rw [h4.1] at a3; exact a3
       ·have e:fe o m.2.1=(sg o m.2.1).2.1:=by unfold fe; rw [decide_eq_false hm0]; rfl
        rw [←e]; exact a4
     ·rintro ⟨h1,h2,h3,h4⟩
      cases l with
      | nil=>
        have:w.drop n.2.2.1.toNat=[]:=h2.symm
        have:=List.drop_eq_nil_iff.1 this
        omega
      | cons i r=>
        simp only [dP,au] at h1
        have hix:=iW.1 h1.1
        have hi0:¬ i < 0:=by omega
        have ht:(sg o i).1++gB o r=w.drop n.2.2.1.toNat:=h2
        have hok:jF o w n (sg o i)=true:=by
         unfold jF
         rw [au,nB,decide_eq_true_eq]
         exact ⟨KV.2 ⟨_,ht.symm⟩,h3⟩
        have hm:=aft h1.1 hok
        have h5:=nx ho hn hm
        refine ⟨oP n i (sg o i),hm,df.2 ⟨r,?_,rfl⟩⟩
        unfold jS at h4
        rw [au] at h4
        have e:fe o i=(sg o i).2.1:=by unfold fe; rw [decide_eq_false hi0]; rfl
        refine (ih (oP n i (sg o i)) (by omega) h5.1 (fun h=>absurd h hi0) r).2 ⟨h1.2,?_,.inr h4.1,by show jS o (fe o i) r=true; rw [e]; exact h4.2⟩
        show gB o r=w.drop (n.2.2.1+((sg o i).1.length:Int)).toNat
        have:(n.2.2.1+((sg o i).1.length:Int)).toNat=n.2.2.1.toNat+(sg o i).1.length:=by omega
        rw [this,←zd,←ht,Dc]
theorem WV {o:aJ} {w:List UInt8} (ho:oE o=0) (hw:w≠[]) (l:List Int):l∈W0 o w↔l.all (dd o)=true∧gB o l=w∧jS o [] l=true:=by
 have hpos:0 < w.length:=zf.2 hw
 rw [show (l∈W0 o w)=(l∈ways o w gl) from rfl,arO ho _ gl (Nat.lt_succ_self _) (yM o w) (fun _=>by show (0:Int) < _; omega)]
 unfold acc
 have e1:w.drop gl.2.2.1.toNat=w:=rfl
 have e2:fe o gl.2.1=[]:=rfl
 rw [e1,e2]
 exact ⟨fun h=>⟨h.1,h.2.1,h.2.2.2⟩,fun h=>⟨h.1,h.2.1,.inl (by show (-1:Int) < 0; decide),h.2.2⟩⟩
def jB (o:aJ) (l:List Int):List bO:=match l.getLast? with | none=> [] | some j=>(sg o j).2.1
theorem KD (o:aJ) (l:List Int) (j:Int):jB o (l++[j])=(sg o j).2.1:=by unfold jB; simp
theorem adA {o:aJ} (ho:oE o=0) {l:List Int} (hi:l.all (dd o)=true):(jB o l).length≤2:=by
 rcases Dd l with h | ⟨l',s,h⟩
 ·subst h; simp [jB]
 ·rw [Da] at h
  subst h
  rw [KD]
  simp only [oT,dP,mM,gV,au] at hi
  exact (kx (mH ho (iW.1 hi.2))).1
theorem adJ {R:Type} (k0:Int→Int→Option R) (K:List Int→aJ→Option R) (o:aJ) (ho:oE o=0):
  ∀ (ys pre:List Int) (m:Nat),(pre++ys).all (dd o)=true→ys.length < m→(pre++ys).length≤1000→
    ns (aS 2000) k0 (fun y0 y1 _ _ _=>K y0 y1) m (pre++ys) o (pre++ys) ((pre++ys).length:Int) (pre.length:Int)=cond (jS o (jB o pre) ys) (K (pre++ys) o) (k0 0 19):=by
 intro ys
 induction ys with
 | nil=>
   intro pre m hi hm hb
   cases m with
   | zero=>omega
   | succ m=>
     unfold ns
     simp only [wY,wU,wV,wW,wX,wZ,sv,fk,aC,jS,cond_true]
 | cons y ys ih=>
   intro pre m hi hm hb
   cases m with
   | zero=>omega
   | succ m=>
     have hwr:=fo pre ys y (by unfold bN; omega)
     have hbp:pre.length < 1000:=by simp at hb; omega
     have hgo:=ih (pre++[y]) m (by rw [←bE]; exact hi) (by simpa using hm) (by rw [←bE]; exact hb)
     rw [←bE,KD] at hgo
     have hfb:=adA ho (l:=pre) (by simp only [oT,au] at hi; exact hi.1)
     have hfit:∀ af,aS 2000 o y (jB o pre) af=some (gH o y (jB o pre) af):=fun af=>v60 o y (jB o pre) af (by unfold bN; omega)
     -- what stands behind
     have hst:∀ af,J6 o ys=af→((aS 2000 o y (jB o pre) af).bind fun r=>ad (!r) (k0 0 19) (ns (aS 2000) k0 (fun y0 y1 _ _ _=>K y0 y1) m (pre++y::ys) o (pre++y::ys) ((pre++y::ys).length:Int) ((pre++[y]).length:Int)))=cond (jS o (jB o pre) (y::ys)) (K (pre++y::ys) o) (k0 0 19):=by
      intro af haf
      rw [hfit,ar]
      simp only [jS,haf]
      cases gH o y (jB o pre) af with
      | false=>rfl
      | true=>simp only [eK,aC,fW]; exact hgo
     unfold ns
     simp only [wY,wU,wV,wW,wX,wZ,sv,eQ,dZ,dL,if_true,aN,hwr]
     have haft:∀ (bf:List bO),bf=jB o pre→(ad (decide (((pre++[y]).length:Int) < ((pre++y::ys).length:Int)))
       (if 0≤((pre++[y]).length:Int)∧((pre++[y]).length:Int) < ((pre++y::ys).length:Int) then
        if 0≤((pre++y::ys).getD (fP ((pre++[y]).length:Int)) 0)∧((pre++y::ys).getD (fP ((pre++[y]).length:Int)) 0) < (o.2.1.length:Int) then
         (aS 2000 o y bf (o.2.1.getD ((pre++y::ys).getD (fP ((pre++[y]).length:Int)) 0).toNat g0).2.1).bind fun r=>ad (!r) (k0 0 19) (ns (aS 2000) k0 (fun y0 y1 _ _ _=>K y0 y1) m (pre++y::ys) o (pre++y::ys) ((pre++y::ys).length:Int) ((pre++[y]).length:Int))
        else none
       else none)
       ((aS 2000 o y bf []).bind fun r=>ad (!r) (k0 0 19) (ns (aS 2000) k0 (fun y0 y1 _ _ _=>K y0 y1) m (pre++y::ys) o (pre++y::ys) ((pre++y::ys).length:Int) ((pre++[y]).length:Int))))=cond (jS o (jB o pre) (y::ys)) (K (pre++y::ys) o) (k0 0 19):=by
      intro bf hbf
      subst hbf
      cases ys with
      | nil=>
        have d:decide (((pre++[y]).length:Int) < ((pre++y::[]).length:Int))=false:=decide_eq_false (by omega)
        rw [d]
        exact hst [] rfl
      | cons z zs=>
        have e:pre++y::z::zs=(pre++[y])++z::zs:=bE ..
        have hz:dd o z=true:=by
         simp only [oT,dP,au] at hi; exact hi.2.2.1
        have hzz:=iW.1 hz
        have hin:(0≤z∧z < (o.2.1.length:Int))=True:=by rw [eq_iff_iff,iff_true]; exact hzz
        have h1:decide (((pre++[y]).length:Int) < ((pre++y::z::zs).length:Int))=true:=by rw [e]; exact eQ _ _ _
        have h2:(0≤((pre++[y]).length:Int)∧((pre++[y]).length:Int) < ((pre++y::z::zs).length:Int))=True:=by rw [e]; exact dZ _ _ _
        have h3:(pre++y::z::zs).getD (fP ((pre++[y]).length:Int)) 0=z:=by rw [e]; exact dL _ _ _ _
        simp only [h1,aN,h2,if_true,h3,hin]
        exact hst _ rfl
     rcases Dd pre with h | ⟨p,q,h⟩
     ·subst h
      have d:decide (((([]:List Int).length:Nat):Int) > 0)=false:=rfl
      simp only [d,aC]
      exact haft [] rfl
     ·rw [Da] at h
      subst h
      have d:decide ((((p++[q]).length:Nat):Int) > 0)=true:=decide_eq_true (by simp only [cd,gW]; omega)
      have w1:IntKind.i64.wrap ((((p++[q]).length:Nat):Int) - 1)=(p.length:Int):=by
       have:(((p++[q]).length:Nat):Int) - 1=(p.length:Int):=by simp
       rw [this]; exact fw (by simp at hbp; omega)
      have e:(p++[q])++y::ys=p++q::(y::ys):=(bE ..).symm
      have c:(0≤(p.length:Int)∧(p.length:Int) < ((((p++[q])++y::ys).length:Nat):Int))=True:=by rw [e]; exact dZ _ _ _
      have g:((p++[q])++y::ys).getD (fP (p.length:Int)) 0=q:=by rw [e]; exact dL _ _ _ _
      have hq:dd o q=true:=by
       simp only [oT,dP,mM,gV,au] at hi; exact hi.1.2
      have hqq:=iW.1 hq
      have hin:(0≤q∧q < (o.2.1.length:Int))=True:=by rw [eq_iff_iff,iff_true]; exact hqq
      simp only [d,aN,w1,c,if_true,g,hin]
      exact haft _ (by rw [KD]; rfl)
def Bi (o:aJ) (w:List UInt8) (l:List Int):Int×Int:=cond (gy o w != 0) (0,gy o w) (cond (!l.all (dd o)) (0,6) (cond (gB o l != w) (0,1) (cond (jS o [] l) (eC o l,0) (0,19))))
theorem v29 (o:aJ) (w:List UInt8) (l:List Int) (hl:l.length≤40):dA 2000 o w l=some (Bi o w l):=by
 unfold dA Bi
 simp only [wY,wU,wV,wW,wX,wZ,sv,v40,ar]
 cases hg:gy o w != 0 with
 | true=>rfl
 | false=>
   obtain ⟨ho,hw0,hw1⟩:=qi (show gy o w=0 by simpa using hg)
   simp only [aC,cond_false,Lb o l ho (by omega),ar]
   cases hi:l.all (dd o) with
   | false=>rfl
   | true=>
     simp only [cond_true,eK,aC,cond_false]
     cases ht:gB o l != w with
     | true=>rfl
     | false=>
       simp only [aC,cond_false]
       have:=adJ (R:=Int×Int) (fun a b=>some (a,b)) (fun x0 x1=>(cm 2000 x1 x0).bind fun r=>some (r,0)) o ho l [] 2000 (by simpa using hi) (by omega) (by simp; omega)
       simp only [cY,ei] at this
       refine eg this ?_
       have e:jB o []=[]:=rfl
       rw [e,C5 o l ho hi (by omega)]
       cases jS o [] l<;>rfl
def qB:List UInt8×(List (List UInt8×(List (Int×(Int×(List UInt8×Unit)))×(Int×(Int×Unit))))×Unit):=([108,97,116,105,110],([([97],([(1,(3,([97],())))],(1,(0,())))),([101],([(1,(3,([101],())))],(1,(0,())))),([105],([(1,(3,([105],())))],(1,(0,())))),([111],([(1,(3,([111],())))],(1,(0,())))),([117],([(1,(3,([117],())))],(1,(0,())))),([121],([(1,(3,([121],())))],(1,(0,())))),([97,95],([(1,(2,([97,95],())))],(1,(0,())))),([101,95],([(1,(2,([101,95],())))],(1,(0,())))),([105,95],([(1,(2,([105,95],())))],(1,(0,())))),([111,95],([(1,(2,([111,95],())))],(1,(0,())))),([117,95],([(1,(2,([117,95],())))],(1,(0,())))),([121,95],([(1,(2,([121,95],())))],(1,(0,())))),([97,94],([(1,(1,([97,94],())))],(1,(0,())))),([101,94],([(1,(1,([101,94],())))],(1,(0,())))),([105,94],([(1,(1,([105,94],())))],(1,(0,())))),([111,94],([(1,(1,([111,94],())))],(1,(0,())))),([117,94],([(1,(1,([117,94],())))],(1,(0,())))),([121,94],([(1,(1,([121,94],())))],(1,(0,())))),([97,101],([(2,(2,([97,101],())))],(1,(0,())))),([97,117],([(2,(2,([97,117],())))],(1,(0,())))),([111,101],([(2,(2,([111,101],())))],(1,(0,())))),([101,117],([(2,(2,([101,117],())))],(3,(0,())))),([105],([(8,(0,([105],())))],(0,(2,())))),([105],([(8,(0,([105],()))),(8,(0,([105],())))],(0,(3,())))),([117],([(8,(0,([117],())))],(0,(2,())))),([117],([(8,(0,([117],())))],(0,(3,())))),([106],([(8,(0,([106],())))],(0,(0,())))),([118],([(8,(0,([118],())))],(0,(0,())))),([113,117],([(3,(0,([113,117],())))],(0,(1,())))),([103,117],([(3,(0,([103,117],())))],(2,(1,())))),([115,117],([(6,(0,([115],()))),(8,(0,([117],())))],(3,(1,())))),([98],([(3,(0,([98],())))],(0,(0,())))),([99],([(3,(0,([99],())))],(0,(0,())))),([100],([(3,(0,([100],())))],(0,(0,())))),([102],([(3,(0,([102],())))],(0,(0,())))),([103],([(3,(0,([103],())))],(0,(0,())))),([107],([(3,(0,([107],())))],(0,(0,())))),([112],([(3,(0,([112],())))],(0,(0,())))),([116],([(3,(0,([116],())))],(0,(0,())))),([108],([(4,(0,([108],())))],(0,(0,())))),([114],([(4,(0,([114],())))],(0,(0,())))),([109],([(5,(0,([109],())))],(0,(0,())))),([110],([(5,(0,([110],())))],(0,(0,())))),([115],([(6,(0,([115],())))],(0,(0,())))),([120],([(7,(0,([120],())))],(0,(0,())))),([122],([(7,(0,([122],())))],(0,(0,())))),([104],([(9,(0,([104],())))],(0,(0,()))))],()))
theorem Uz:dC 2000=some qB:=by kernel_rfl
theorem WW:cg 2000 qB [97,114,109,97]=some ([[0,40,41,0]],0):=by kernel_rfl
theorem WX:cg 2000 qB [116,114,111,105,97,101]=some ([[38,40,3,23,18],[38,40,3,2,18],[38,40,3,23,0,1],[38,40,3,2,0,1]],0):=by kernel_rfl
theorem WY:gN 2000 qB [105,97,109]=some ([22,0,41],1,0):=by kernel_rfl
theorem WZ:ck 2000 qB [38,40,3,23,18]=some ([0,1,2,3,3,4],0):=by kernel_rfl
theorem W1:iO 2000 qB [97,114,109,113]=some (3,0):=by kernel_rfl
theorem v11:eO 2000=some true:=by
 unfold eO
 simp only [IY,g11,Uz,ar]
 rw [WW,WX,WY,WZ,W1]
 kernel_rfl
end Go.Fw.L19
