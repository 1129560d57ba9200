/- Own work. -/
import Derived.Test.YtooiookccchmeaaGreatFwMs13
import Derived.Test.YtooiookccchmeaaGreatFwB6
set_option linter.unusedVariables false
set_option linter.unusedSimpArgs false
open Bool renaming not_true → ef, not_false → fk, and_eq_true → au, true_or → Bi, false_or → r6, false_eq_true → dM, and_true → jn, eq_iff_iff → rZ, true_and → gk, false_and → jb, not_eq_true' → c9, and_false → Bh
open Eq renaming trans → dN
open Int renaming toNat → jt
open List renaming all_eq_true → fm, mem_range → Bv, map_cons → gl, append_assoc → bE, length_append → cF, length_cons → eX, length_map → pC, length_nil → ei, nil_append → dG, any_nil → Bk, any_cons → sc, length_eq_zero_iff → ni, length → lQ, all_cons → eD, all_nil → mw, length_singleton → nj, mem_append → dn, mem_singleton → kg, mem_cons_of_mem → jQ, all_eq_false → Ju, mem_map → dA, replicate → iv, append_nil → iq, length_replicate → Bs
open List.cons renaming injEq → fS
open Option renaming bind_some → al
open Prod.mk renaming injEq → ej
open UInt8 renaming ofNat → lX
namespace Go.Fw.L19
open Go Go.Fw
set_option maxRecDepth 100000
abbrev VB:Type:=Int×(Int×(List (List UInt8)×Unit))
abbrev Lic:Type:=List UInt8×(List VB×Unit)
def sm (c:Int):Bool:=decide (c≥97)&&decide (c≤122)
def dg (c:Int):Bool:=decide (c≥48)&&decide (c≤57)
theorem Vr (c:Int):cy 2000 c=some (sm c):=by
 unfold cy sm
 simp only [Hr,Aj]
 cases decide (c≥97)<;>rfl
theorem Jj (c:Int):cw 2000 c=some (sm c):=by
 unfold cw sm
 simp only [Hi,z8]
 cases decide (c≥97)<;>rfl
theorem aqC (c:Int):cY 2000 c=some (dg c):=by
 unfold cY dg
 simp only [Hs,Ak]
 cases decide (c≥48)<;>rfl
theorem Vq (c:Int):bo 2000 c=some (dg c):=by
 unfold bo dg
 simp only [Hj,Aa]
 cases decide (c≥48)<;>rfl
theorem ac1 (s:List UInt8) (hs:s.length≤cc) {R:Type} (k:Int→Option R):
  ∀ (m:Nat) (i:Int),0≤i→i≤s.length+1→wb (cy 2000) (cY 2000) k (fun _ i=>k i) m s i=oV (cw 2000) (bo 2000) (fun _ i=>k i) m s i:=by
 intro m
 induction m with
 | zero=>intro i _ _; rfl
 | succ m ih=>
   intro i h0 h1
   unfold wb oV
   simp only [Af,Ac,Ad,Ae,Ag,tU,tq,tl,tn,tp,tr,qx,Vr,aqC,Jj,Vq,al]
   by_cases hi:i < (s.length:Int)
   ·have d:decide (i < (s.length:Int))=true:=decide_eq_true hi
    have hb:0≤i∧i < (s.length:Int):=⟨h0,hi⟩
    have w1:IntKind.i64.wrap (i+1)=i+1:=jm (by unfold cc at hs; omega)
    have w2:IntKind.i64.wrap (i+2)=i+2:=jm (by unfold cc at hs; omega)
    simp only [d,aS,if_pos hb,w1,w2]
    generalize hc:((s.getD i.toNat 0).toNat:Int)=c
    cases h3:sm c with
    | true=>simp only [aS]; exact ih (i+1) (by omega) (by omega)
    | false=>
      simp only [aK]
      cases h4:dg c with
      | true=>simp only [aS]; exact ih (i+1) (by omega) (by omega)
      | false=>
        simp only [aK]
        by_cases h5:c=45
        ·have e1:(c==(45:Int))=true:=by simpa using h5
         have e2:(c != (45:Int))=false:=by simp [h5]
         simp only [e1,e2,aS,aK]
         by_cases h6:i+1 < (s.length:Int)
         ·have e3:decide (i+1 < (s.length:Int))=true:=decide_eq_true h6
          have e4:((i+1)==(s.length:Int))=false:=by
           simp only [beq_eq_false_iff_ne,ne_eq]; omega
          have hb2:0≤i+1∧i+1 < (s.length:Int):=by omega
          simp only [e3,e4,aS,aK,if_pos hb2]
          generalize ((s.getD (i+1).toNat 0).toNat:Int)=c2
          cases h7:sm c2 with
          | true=>simp only [aS,ef,aK]; exact ih (i+2) (by omega) (by omega)
          | false=>
            simp only [aK,fk,aS]
            cases h8:dg c2 with
            | true=>simp only [aS,ef,aK]; exact ih (i+2) (by omega) (by omega)
            | false=>simp only [aK,fk,aS]
         ·have e3:decide (i+1 < (s.length:Int))=false:=decide_eq_false h6
          have e4:((i+1)==(s.length:Int))=true:=by
           simp only [beq_iff_eq]; omega
          simp only [e3,e4,aS,aK]
        ·have e1:(c==(45:Int))=false:=by simpa using h5
         have e2:(c != (45:Int))=true:=by simpa using h5
         simp only [e1,e2,aS,aK]
   ·have d:decide (i < (s.length:Int))=false:=decide_eq_false hi
    simp only [d,aK]
theorem ac2 (s:List UInt8) (hs:s.length≤cc):
  ∀ (m:Nat) (i:Int),0≤i→i≤s.length+1→(s.length:Int)+1 - i < m→∃ n,oV (cw 2000) (bo 2000) (fun _ i=>some i) m s i=some n:=by
 intro m
 induction m with
 | zero=>intro i h0 h1 h2; omega
 | succ m ih=>
   intro i h0 h1 h2
   unfold oV
   simp only [tq,tl,tn,tp,tr,qx,Jj,Vq,al]
   by_cases hi:i < (s.length:Int)
   ·have d:decide (i < (s.length:Int))=true:=decide_eq_true hi
    have hb:0≤i∧i < (s.length:Int):=⟨h0,hi⟩
    have w1:IntKind.i64.wrap (i+1)=i+1:=jm (by unfold cc at hs; omega)
    have w2:IntKind.i64.wrap (i+2)=i+2:=jm (by unfold cc at hs; omega)
    simp only [d,aS,if_pos hb,w1,w2]
    generalize hc:((s.getD i.toNat 0).toNat:Int)=c
    cases h3:sm c with
    | true=>simp only [aS]; exact ih (i+1) (by omega) (by omega) (by omega)
    | false=>
      simp only [aK]
      cases h4:dg c with
      | true=>simp only [aS]; exact ih (i+1) (by omega) (by omega) (by omega)
      | false=>
        simp only [aK]
        cases e2:(c != (45:Int)) with
        | true=>exact ⟨i,by simp only [aS]⟩
        | false=>
          simp only [aK]
          by_cases h6:i+1 < (s.length:Int)
          ·have e4:((i+1)==(s.length:Int))=false:=by
            simp only [beq_eq_false_iff_ne,ne_eq]; omega
           have hb2:0≤i+1∧i+1 < (s.length:Int):=by omega
           simp only [e4,aK,if_pos hb2]
           generalize ((s.getD (i+1).toNat 0).toNat:Int)=c2
           cases h7:sm c2 with
           | true=>simp only [ef,aK]; exact ih (i+2) (by omega) (by omega) (by omega)
           | false=>
             simp only [fk,aS]
             cases h8:dg c2 with
             | true=>simp only [ef,aK]; exact ih (i+2) (by omega) (by omega) (by omega)
             | false=>exact ⟨i,by simp only [fk,aS]⟩
          ·have e4:((i+1)==(s.length:Int))=true:=by
            simp only [beq_iff_eq]; omega
           exact ⟨i,by simp only [e4,aS]⟩
   ·have d:decide (i < (s.length:Int))=false:=decide_eq_false hi
    exact ⟨i,by simp only [d,aK]⟩
theorem v141 (s:List UInt8) (hs:s.length < 1900):∃ n,gq 2000 s=some n∧gm 2000 s=some n:=by
 have hb:s.length≤cc:=by unfold cc; omega
 have e1:=ac1 s hb (R:=Int) some 2000 1 (by omega) (by omega)
 obtain ⟨n,e2⟩:=ac2 s hb 2000 1 (by omega) (by omega) (by omega)
 unfold gq gm
 simp only [Af,Ac,Ad,Ae,Ag,tU,tq,tl,tn,tp,tr,qx,Vr,Jj,al]
 cases h0:(s==([]:List UInt8)) with
 | true=>exact ⟨0,by simp only [aS],by simp only [aS]⟩
 | false=>
   have hne:s≠[]:=by simpa using h0
   have hp:0 < s.length:=List.length_pos_iff.2 hne
   have hb0:(0:Int)≤0∧(0:Int) < (s.length:Int):=by omega
   simp only [aK,if_pos hb0]
   cases sm ((s.getD (0:Int).toNat 0).toNat:Int) with
   | false=>exact ⟨0,by simp only [fk,aS],by simp only [fk,aS]⟩
   | true=>
     refine ⟨n,?_,?_⟩
     ·simp only [ef,aK]
      rw [e2] at e1; exact e1
     ·simp only [ef,aK]
      exact e2
theorem aqw (s:List UInt8):∃ b,eQ 2000 s=some b∧eL 2000 s=some b:=by
 unfold eQ eL
 simp only [Hc,zZ,HV,AA]
 cases h0:(s != ([]:List UInt8)) with
 | false=>exact ⟨false,by simp only [aK],by simp only [aK]⟩
 | true=>
   simp only [aS]
   by_cases h1:(s.length:Int)≤20
   ·obtain ⟨n,e1,e2⟩:=v141 s (by omega)
    have d:decide ((s.length:Int)≤20)=true:=decide_eq_true h1
    exact ⟨n==(s.length:Int),by simp only [d,aS,e1,al],by simp only [d,aS,e2,al]⟩
   ·have d:decide ((s.length:Int)≤20)=false:=decide_eq_false h1
    exact ⟨false,by simp only [d,aK],by simp only [d,aK]⟩
def fe (c:Int):Bool:=match cV 2000 c with | some b=>b | none=>false
theorem acQ:((List.range 256).all fun n=>b8 2000 (n:Int)==some (fe (n:Int))&&cV 2000 (n:Int)==some (fe (n:Int)))=true:=by kernel_rfl
theorem Vw (b:UInt8):b8 2000 (b.toNat:Int)=some (fe (b.toNat:Int))∧cV 2000 (b.toNat:Int)=some (fe (b.toNat:Int)):=by
 have:=fm.1 acQ b.toNat (Bv.2 b.toNat_lt)
 simp only [au,beq_iff_eq] at this
 exact this
def fl (b:UInt8):UInt8:=if 65≤b.toNat∧b.toNat≤90 then lX (b.toNat+32) else b
def fold (s:List UInt8):List UInt8:=s.map fl
theorem WB (b:UInt8) (h:65≤b.toNat∧b.toNat≤90):IntKind.u8.wrap (IntKind.u8.wrap ((b.toNat:Int) - 65)+97)=((fl b).toNat:Int):=by
 have e:(fl b).toNat=b.toNat+32:=by
  unfold fl; rw [if_pos h]
  simp [UInt8.toNat_ofNat]
  omega
 rw [e]
 have w:∀ n:Int,0≤n→n≤255→IntKind.u8.wrap n=n:=by
  intro n h0 h1
  simp only [IntKind.wrap,IntKind.signed,IntKind.bits]
  simp
  omega
 rw [w ((b.toNat:Int) - 65) (by omega) (by omega),w ((b.toNat:Int) - 65+97) (by omega) (by omega)]
 omega
theorem Wb (s:List UInt8):(s.map fun b=>(b.toNat:Int)).map (fun n=>lX n.toNat)=s:=by
 rw [List.map_map]
 conv=>rhs; rw [←List.map_id s]
 apply List.map_congr_left
 intro b _
 simp
theorem ajc {α:Type} (pre ys:List α) (y z:α):(pre++y::ys).set (jt (pre.length:Int)) z=pre++z::ys:=by simp
theorem IX {α:Type} (pre ys:List α) (y:α):(jt (pre.length:Int) < (pre++y::ys).length)=True:=by simp
theorem acW {R:Type} (k0:List Int→Int→Int→Option R):
  ∀ (ys:List UInt8) (pre:List Int) (m:Nat),ys.length < m→(pre++ys.map fun b=>(b.toNat:Int)).length≤cc→
    rB k0 m (pre++ys.map fun b=>(b.toNat:Int)) ((pre++ys.map fun b=>(b.toNat:Int)).length:Int) (pre.length:Int)=k0 (pre++(fold ys).map fun b=>(b.toNat:Int)) ((pre++ys.map fun b=>(b.toNat:Int)).length:Int) ((pre++ys.map fun b=>(b.toNat:Int)).length:Int):=by
 intro ys
 induction ys with
 | nil=>
   intro pre m hm hb
   cases m with
   | zero=>simp at hm
   | succ m=>
     unfold rB
     simp only [vC,vy,vz,vA,vB,vD,qR,List.map_nil,fh,aK]
     simp [fold]
 | cons y ys ih=>
   intro pre m hm hb
   cases m with
   | zero=>simp at hm
   | succ m=>
     rw [gl] at hb ⊢
     unfold rB
     simp only [vC,vy,vz,vA,vB,vD,qR,ff,eN,eF,if_true,aS,IX,ajc,fj pre _ _ hb]
     by_cases h1:65≤y.toNat∧y.toNat≤90
     ·have d1:decide ((y.toNat:Int)≥65)=true:=decide_eq_true (by omega)
      have d2:decide ((y.toNat:Int)≤90)=true:=decide_eq_true (by omega)
      simp only [d1,d2,aS,WB y h1]
      have:=ih (pre++[((fl y).toNat:Int)]) m (by simpa using hm) (by simpa using hb)
      simp only [bE,List.singleton_append,cF,eX,pC,ei] at this ⊢
      simp only [fold,gl] at this ⊢
      exact this
     ·have hf:fl y=y:=by unfold fl; rw [if_neg h1]
      have step:=ih (pre++[(y.toNat:Int)]) m (by simpa using hm) (by simpa using hb)
      simp only [bE,List.singleton_append,cF,eX,pC,ei] at step ⊢
      simp only [fold,gl,hf] at step ⊢
      by_cases h2:65≤y.toNat
      ·have d1:decide ((y.toNat:Int)≥65)=true:=decide_eq_true (by omega)
       have d2:decide ((y.toNat:Int)≤90)=false:=decide_eq_false (by omega)
       simp only [d1,d2,aS,aK]
       exact step
      ·have d1:decide ((y.toNat:Int)≥65)=false:=decide_eq_false (by omega)
       simp only [d1,aK]
       exact step
theorem v72 (s:List UInt8) (hs:s.length < 2000):dV 2000 s=some (fold s):=by
 unfold dV
 have:=acW (R:=List UInt8) (fun x _ _=>some (x.map fun n=>lX n.toNat)) s [] 2000 hs (by unfold cc; simp; omega)
 simp only [vC,vy,vz,vA,vB,vD,qR]
 simp only [dG,ei,Wb] at this
 exact this
abbrev cg:Type:=Int×(Int×(List UInt8×Unit))
abbrev s0:cg:=((0:Int),((0:Int),([],())))
def jM (s:cg):Bool:=s.1==1 || s.1==2
theorem v87 (s:cg):cM 2000 s=some (jM s):=by
 unfold cM
 simp only [HU,qS,jM]
 cases h:(s.1==(1:Int))<;>simp only [aS,aK,Bi,r6]
theorem arH (s:cg):eY 2000 s=some (jM s):=by
 unfold eY
 simp only [G7,zY,jM]
 cases h:(s.1==(1:Int))<;>simp only [aS,aK,Bi,r6]
def arp (l:List cg):Int:=
 if 0 < l.length∧jM (l.getD (l.length - 1) s0)=true then 1
 else if 1 < l.length∧jM (l.getD (l.length - 2) s0)=true∧(l.getD (l.length - 1) s0).1=5∧(l.getD (l.length - 1) s0).2.2.1=[109] then 2
 else 0
theorem arI {n k:Nat} (h:k≤n) (hb:n≤cc):IntKind.i64.wrap ((n:Int) - (k:Int))=((n - k:Nat):Int):=by
 rw [jm]
 ·omega
 ·unfold cc at hb; omega
def nb (s:cg):Bool:=s.1 != 9
def iN (p:cg→Bool):List cg→Nat→Int
 | [],_=> -1
 | y::ys,i=>if p y then (i:Int) else iN p ys (i+1)
def arx (l:List cg):Int:=if iN nb l 0 < 0 then (l.length:Int) else iN nb l 0
def sx:List cg→Nat→Int
 | [],_=> -1
 | y::ys,i=>if jM y then (i:Int) else if nb y then -1 else sx ys (i+1)
def aq9 (l:List cg):Bool:=decide (0≤sx l 0)
theorem Pq (p:cg→Bool):∀ (l:List cg) (i:Nat),iN p l i= -1∨((i:Int)≤iN p l i∧iN p l i < (i:Int)+l.length)
 | [],i=>.inl rfl
 | y::ys,i=>by
   simp only [iN]
   split
   ·right; simp; omega
   ·rcases Pq p ys (i+1) with h | h
    ·exact .inl h
    ·right; simp only [eX]; omega
theorem aem {s:cg} (h:jM s=true):nb s=true:=by
 unfold jM at h; unfold nb
 simp only [Bool.or_eq_true,beq_iff_eq] at h
 simp only [bne_iff_ne,ne_eq]
 omega
theorem Wf:∀ (l:List cg) (i:Nat),(sx l i=if 0≤iN nb l i∧jM (l.getD (iN nb l i - i).toNat s0)=true then iN nb l i else -1)
 | [],i=>by simp [sx,iN]
 | y::ys,i=>by
   simp only [sx,iN]
   by_cases h1:jM y=true
   ·simp only [h1,aem h1,if_true]
    have:(0:Int)≤(i:Int):=by omega
    simp [this,h1]
   ·have h1:jM y=false:=by simpa using h1
    simp only [h1,dM,if_false]
    by_cases h2:nb y=true
    ·simp only [h2,if_true]
     simp [h1]
    ·have h2:nb y=false:=by simpa using h2
     simp only [h2,dM,if_false]
     rw [Wf ys (i+1)]
     rcases Pq nb ys (i+1) with h | h
     ·rw [h]; simp
     ·have e:(iN nb ys (i+1) - (i:Int)).toNat=(iN nb ys (i+1) - ((i+1:Nat):Int)).toNat+1:=by omega
      rw [e]
      simp only [List.getD_cons_succ]
def iZ (c:Int):Bool:=(decide (c≥97)&&decide (c≤122)) || ((decide (c≥48)&&decide (c≤57)) || ((c==95) || ((c==94) || (c==39))))
def eS (s:List UInt8):Bool:=s.any fun b=>!iZ (b.toNat:Int)
theorem aqE (c:Int):gx 2000 c=some (iZ c):=by
 unfold gx iZ
 simp only [Hw,Ap]
 cases decide (c≥97)<;>cases decide (c≤122)<;>cases decide (c≥48)<;>cases decide (c≤57)<;>cases (c==95)<;>cases (c==94)<;>rfl
theorem aqA (c:Int):c5 2000 c=some (iZ c):=by
 unfold c5 iZ
 simp only [Hk,Ab]
 cases decide (c≥97)<;>cases decide (c≤122)<;>cases decide (c≥48)<;>cases decide (c≤57)<;>cases (c==95)<;>cases (c==94)<;>rfl
theorem Vx {c:Int} (h:128≤c):iZ c=false:=by
 unfold iZ
 have h1:decide (c≤122)=false:=decide_eq_false (by omega)
 have h2:decide (c≤57)=false:=decide_eq_false (by omega)
 have h3:(c==95)=false:=by simp; omega
 have h4:(c==94)=false:=by simp; omega
 have h5:(c==39)=false:=by simp; omega
 rw [h1,h2,h3,h4,h5]; simp
theorem v154 (c:Int):gw 2000 c=some (!iZ c):=by
 unfold gw
 simp only [Hv,Ao,aqE,al]
theorem Wt (s:ByteArray) (i:Nat) (h:128≤(s.get! (i+0)).toNat):128≤(Utf8.decode s i).1:=by
 unfold Utf8.decode
 simp only [Utf8.runeError]
 rw [if_neg (by omega)]
 repeat' split
 all_goals first | (simp only; omega) | (simp only [ge_iff_le,au,decide_eq_true_eq] at *; omega)
theorem Wv (s:ByteArray) (i:Nat) (h:(s.get! (i+0)).toNat < 128):Utf8.decode s i=((s.get! (i+0)).toNat,1):=by
 unfold Utf8.decode
 simp only
 rw [if_pos h]
theorem get_at (pre ys:List UInt8) (y:UInt8):(⟨⟨pre++y::ys⟩⟩:ByteArray).get! (pre.length+0)=y:=by
 show (⟨pre++y::ys⟩:Array UInt8)[pre.length+0]! =y
 simp
theorem acX (f:Int×Unit→Option Bool) (hf:∀ c,f (c,())=some (!iZ c)) {R:Type} (k0:Int→Option R) (k2:(Int×Unit→Option Bool)→Bool→List UInt8→Nat→Bool→Option R) (e:Option R) (hk:∀ a b c d g,k2 a b c d g=e):
  ∀ (ys pre:List UInt8) (m:Nat),ys.length < m→
    ∃ j:Int,0≤j∧rk k0 k2 m f true (pre++ys) pre.length=(if eS ys=true then k0 j else e):=by
 intro ys
 induction ys with
 | nil=>
   intro pre m hm
   cases m with
   | zero=>simp at hm
   | succ m=>
     refine ⟨0,by omega,?_⟩
     have h:decide (pre.length < (pre++([]:List UInt8)).length)=false:=by simp
     unfold rk
     simp only [uB,uC,uD,uE,uF,uG,qF,h,aK,hk,eS,Bk,dM,if_false]
 | cons y ys ih=>
   intro pre m hm
   cases m with
   | zero=>simp at hm
   | succ m=>
     have h:decide (pre.length < (pre++y::ys).length)=true:=by simp
     unfold rk
     simp only [uB,uC,uD,uE,uF,uG,qF,h,aS,hf,al]
     by_cases hy:y.toNat < 128
     ·have hd:Utf8.decode ⟨⟨pre++y::ys⟩⟩ pre.length=(y.toNat,1):=by
       have:=Wv ⟨⟨pre++y::ys⟩⟩ pre.length (by rw [get_at]; exact hy)
       rwa [get_at] at this
      simp only [hd]
      cases hw:iZ (y.toNat:Int) with
      | false=>
        refine ⟨(pre.length:Int),by omega,?_⟩
        have:eS (y::ys)=true:=by unfold eS; rw [sc,hw]; rfl
        simp only [fk,beq_self_eq_true,aS,this,if_true]
      | true=>
        obtain ⟨j,hj,h2⟩:=ih (pre++[y]) m (by simpa using hm)
        refine ⟨j,hj,?_⟩
        have e1:eS (y::ys)=eS ys:=by unfold eS; rw [sc,hw]; rfl
        have e2:((!true)==true)=false:=rfl
        have e3:pre.length+1=(pre++[y]).length:=by simp
        simp only [e2,aK]
        rw [e1,←h2,←ck pre ys y,←e3]
     ·have hd:128≤(Utf8.decode ⟨⟨pre++y::ys⟩⟩ pre.length).1:=Wt _ _ (by rw [get_at]; omega)
      have hw1:iZ ((Utf8.decode ⟨⟨pre++y::ys⟩⟩ pre.length).1:Int)=false:=Vx (by omega)
      have hw2:iZ (y.toNat:Int)=false:=Vx (by omega)
      have:eS (y::ys)=true:=by unfold eS; rw [sc,hw2]; rfl
      refine ⟨(pre.length:Int),by omega,?_⟩
      simp only [hw1,fk,beq_self_eq_true,aS,this,if_true]
theorem aqD (f:Int×Unit→Option Bool) (hf:∀ c,f (c,())=some (!iZ c)) (s:List UInt8) (hs:s.length < 2000):gu 2000 s f=some (eS s):=by
 obtain ⟨j,hj,h⟩:=acX f hf (R:=Int) some (fun _ _ _ _ _=>some (-1)) (some (-1)) (fun _ _ _ _ _=>rfl) s [] 2000 hs
 have h1:gz 2000 s f true=(if eS s=true then some j else some (-1)):=by
  unfold gz
  simp only [uB,uC,uD,uE,uF,uG,qF]
  simpa using h
 have h2:gy 2000 s f=(if eS s=true then some j else some (-1)):=by
  unfold gy
  simp only [Hx,Aq,h1]
  split<;>rfl
 unfold gu
 simp only [Hu,Am,h2]
 cases eS s with
 | true=>
   have:decide (j≥0)=true:=decide_eq_true hj
   simp only [if_true,al,this]
 | false=>
   simp only [dM,if_false,al]
   rfl
def pj (s:cg):Bool:=cond (s.1==1) (decide (s.2.1≥1)&&decide (s.2.1≤3)) (cond (s.1==2) (s.2.1==2) (s.2.1==0))
def nc (s:cg):Int:=cond (decide (s.1 < 1)) 1 (cond (decide (s.1 > 9)) 1 (cond (!pj s) 6 (cond (s.2.2.1==[]) 7 (cond (decide ((s.2.2.1.length:Int) > 8)) 3 (cond (eS s.2.2.1) 2 0)))))
theorem v152 (s:cg):gr 2000 s=some (pj s):=by
 unfold gr pj
 simp only [Ht,Al]
 cases (s.1==1)<;>cases (s.1==2)<;>cases decide (s.2.1≥1)<;>rfl
theorem aqZ (s:cg):c6 2000 s=some (nc s):=by
 unfold c6 nc
 simp only [Hp,Ai,v152,al]
 cases decide (s.1 < 1) with
 | true=>rfl
 | false=>
   simp only [aK,cond_false]
   cases decide (s.1 > 9) with
   | true=>rfl
   | false=>
     simp only [aK,cond_false]
     cases pj s with
     | false=>rfl
     | true=>
       simp only [ef,aK,cond_false]
       cases (s.2.2.1==[]) with
       | true=>rfl
       | false=>
         simp only [aK,cond_false]
         cases hd:decide ((s.2.2.1.length:Int) > 8) with
         | true=>rfl
         | false=>
           simp only [aK,cond_false]
           have hl:s.2.2.1.length≤8:=by
            have:=of_decide_eq_false hd
            omega
           rw [aqD _ (fun c=>by simp only [v154,al,lN]; rfl) s.2.2.1 (by omega)]
           simp only [al]
           cases eS s.2.2.1<;>rfl
theorem aeb {R:Type} (k0:Int→Option R) (k1:cg→Int→Option R) (e:Option R) (hk:∀ a b,k1 a b=e) (a b:Int) (u:Unit):
  ∀ (ys pre:List UInt8) (m:Nat),ys.length < m→(pre++ys).length≤cc→
    ra (c5 2000) k0 k1 m (a,b,(pre++ys),u) (pre.length:Int)=(if eS ys=true then k0 2 else e):=by
 intro ys
 induction ys with
 | nil=>
   intro pre m hm hb
   cases m with
   | zero=>simp at hm
   | succ m=>
     unfold ra
     simp only [tG,tF,tA,tB,tC,tD,tH,qz,fh,aK,hk,eS,Bk,dM,if_false]
 | cons y ys ih=>
   intro pre m hm hb
   cases m with
   | zero=>simp at hm
   | succ m=>
     unfold ra
     simp only [tG,tF,tA,tB,tC,tD,tH,qz,ff,eN,eF,if_true,aS,aqA,al]
     cases hw:iZ (y.toNat:Int) with
     | false=>
       have:eS (y::ys)=true:=by unfold eS; rw [sc,hw]; rfl
       simp only [fk,aS,this,if_true]
     | true=>
       have e1:eS (y::ys)=eS ys:=by unfold eS; rw [sc,hw]; rfl
       simp only [ef,aK,fj pre ys y hb]
       rw [e1,ck pre ys y,ih (pre++[y]) m (by simpa using hm) (by rw [←ck]; exact hb)]
theorem v117 (s:cg):bF 2000 s=some (nc s):=by
 unfold bF nc
 obtain ⟨a,b,t,u⟩:=s
 simp only [tG,tF,tA,tB,tC,tD,tH,qz]
 cases decide (a < 1) with
 | true=>rfl
 | false=>
   simp only [aK,cond_false]
   cases decide (a > 9) with
   | true=>rfl
   | false=>
     simp only [aK,cond_false]
     have hq:∀ (K:Bool→Option Int),ae (a==1) (ae (decide (b≥1)) (ae (a==2) (K (b==2)) (K (decide (b≤3)))) (ae (a==2) (K (b==2)) (K false))) (ae (a==2) (K (b==2)) (K (b==0)))=K (pj (a,b,t,u)):=by
      intro K
      unfold pj
      by_cases h1:a=1
      ·subst h1
       have e:((1:Int)==2)=false:=rfl
       have e':((1:Int)==1)=true:=rfl
       simp only [e,e',aS,aK,cond_true]
       cases decide (b≥1)<;>rfl
      ·have e:(a==1)=false:=by simpa using h1
       simp only [e,aK,cond_false]
       cases (a==2)<;>rfl
     rw [hq fun q=>ae (!q) _ _]
     cases pj (a,b,t,u) with
     | false=>rfl
     | true=>
       simp only [ef,aK,cond_false]
       cases (t==[]) with
       | true=>rfl
       | false=>
         simp only [aK,cond_false]
         cases hd:decide ((t.length:Int) > 8) with
         | true=>rfl
         | false=>
           simp only [aK,cond_false]
           have hl:t.length≤8:=by
            have:=of_decide_eq_false hd
            omega
           have:=aeb (R:=Int) some (fun _ _=>some 0) (some 0) (fun _ _=>rfl) a b u t [] 2000 (by omega) (by unfold cc; simp; omega)
           simp only [dG,ei,Int.natCast_zero] at this
           rw [this]
           cases eS t<;>rfl
def jl:List cg→Int
 | []=>0
 | s::r=>cond (nc s != 0) (nc s) (jl r)
theorem acS {R:Type} (k0:Bool→Option R) (k1:List cg→Int→Option R) (hk:∀ a b,k1 a b=k0 true):
  ∀ (ys pre:List cg) (m:Nat),ys.length < m→(pre++ys).length≤cc→∃ b,rA k0 k1 m (pre++ys) (pre.length:Int)=k0 b:=by
 intro ys
 induction ys with
 | nil=>
   intro pre m hm hb
   cases m with
   | zero=>simp at hm
   | succ m=>
     refine ⟨true,?_⟩
     unfold rA
     simp only [qP,qL,qM,qN,qO,qQ,oF,fh,aK,hk]
 | cons y ys ih=>
   intro pre m hm hb
   cases m with
   | zero=>simp at hm
   | succ m=>
     unfold rA
     simp only [qP,qL,qM,qN,qO,qQ,oF,ff,eN,eF,if_true,aS]
     cases decide ((y.2.2.1.length:Int) > 40) with
     | true=>exact ⟨false,by simp only [aS]⟩
     | false=>
       obtain ⟨b,h⟩:=ih (pre++[y]) m (by simpa using hm) (by rw [←ck]; exact hb)
       refine ⟨b,?_⟩
       simp only [aK,fj pre ys y hb]
       rw [ck pre ys y,h]
abbrev dI:Type:=List UInt8×(List cg×(Int×(Int×Unit)))
abbrev cI:Type:=List UInt8×(List dI×Unit)
abbrev g0:dI:=([],([],((0:Int),((0:Int),()))))
theorem J1:∀ s:List UInt8,Op.bytesLess s s=false
 | []=>rfl
 | b::s=>by
   simp only [Op.bytesLess]
   simp [J1 s]
def lL (a b:cg):Bool:=(a.1==b.1)&&((a.2.1==b.2.1)&&((a.2.2.1==b.2.2.1)&&true))
def eO:List cg→List cg→Bool
 | [],[]=>true
 | x::xs,y::ys=>lL x y&&eO xs ys
 | _,_=>false
theorem ajf {a b:cg} (h:lL a b=true):a=b:=by
 obtain ⟨a1,a2,a3,a4⟩:=a; obtain ⟨b1,b2,b3,b4⟩:=b
 simp only [lL,jn,au,beq_iff_eq] at h
 obtain ⟨h1,h2,h3⟩:=h
 subst h1; subst h2; subst h3; rfl
theorem ajg (a:cg):lL a a=true:=by simp [lL]
theorem wz:∀ {a b:List cg},eO a b=true↔a=b
 | [],[]=>by simp [eO]
 | [],_::_=>by simp [eO]
 | _::_,[]=>by simp [eO]
 | x::xs,y::ys=>by
   simp only [eO,au,fS,wz (a:=xs) (b:=ys)]
   exact ⟨fun h=>⟨ajf h.1,h.2⟩,fun h=>⟨by rw [h.1]; exact ajg y,h.2⟩⟩
theorem ajh (a b:List cg):eO a b=eO b a:=by
 rw [rZ,wz,wz]; exact eq_comm
def AX (a b:Int):Int:=ae (decide (a < b)) (-1) (ae (decide (a > b)) 1 0)
theorem v86 (a b:Int):fY 2000 a b=some (AX a b):=by
 unfold fY AX
 simp only [HT,Az]
 cases decide (a < b)<;>cases decide (a > b)<;>rfl
theorem I4 (a b:Int):(AX a b != 0)=!(a==b):=by
 unfold AX
 by_cases h:a < b
 ·rw [decide_eq_true h]; have:(a==b)=false:=beq_eq_false_iff_ne.2 (by omega)
  rw [this]; rfl
 ·by_cases h2:a > b
  ·rw [decide_eq_false h,decide_eq_true h2]; have:(a==b)=false:=beq_eq_false_iff_ne.2 (by omega)
   rw [this]; rfl
  ·rw [decide_eq_false h,decide_eq_false h2]; have:(a==b)=true:=beq_iff_eq.2 (by omega)
   rw [this]; rfl
theorem v59 (a b:cg):∃ n,c8 2000 a b=some n∧(n != 0)=!lL a b:=by
 unfold c8 lL
 simp only [HN,Ax,v86,al,I4]
 cases h1:a.1==b.1 with
 | false=>exact ⟨_,rfl,by rw [I4,h1]; rfl⟩
 | true=>
   cases h2:a.2.1==b.2.1 with
   | false=>exact ⟨_,rfl,by rw [I4,h2]; rfl⟩
   | true=>
     simp only [ef,aK,gk,jn]
     cases h3:a.2.2.1==b.2.2.1 with
     | true=>
       have h4:a.2.2.1=b.2.2.1:=by simpa using h3
       rw [h4,J1]
       exact ⟨_,rfl,rfl⟩
     | false=>
       cases Op.bytesLess a.2.2.1 b.2.2.1 with
       | true=>exact ⟨_,rfl,rfl⟩
       | false=>exact ⟨_,rfl,rfl⟩
theorem adf {R:Type} (k0:Bool→Option R) (K:Option R):
  ∀ (ys pre zs pre2:List cg) (m:Nat),ys.length < m→(pre++ys).length≤cc→pre.length=pre2.length→ys.length=zs.length→
    rq (c8 2000) k0 (fun _ _ _=>K) m (pre++ys) (pre2++zs) (pre.length:Int)=ae (eO ys zs) K (k0 false):=by
 intro ys
 induction ys with
 | nil=>
   intro pre zs pre2 m hm hb hp hz
   have:zs=[]:=ni.1 hz.symm
   subst this
   cases m with
   | zero=>omega
   | succ m=>
     unfold rq
     simp only [uX,uT,uU,uV,uW,uY,qG,fh,aK,eO,aS]
 | cons y ys ih=>
   intro pre zs pre2 m hm hb hp hz
   obtain ⟨z,zs,rfl⟩:∃ z zs',zs=z::zs':=by
    cases zs with
    | nil=>simp at hz
    | cons z zs=>exact ⟨z,zs,rfl⟩
   cases m with
   | zero=>omega
   | succ m=>
     have hwr:=fj pre ys y hb
     obtain ⟨n,h1,h2⟩:=v59 y z
     have i2:(0≤(pre.length:Int)∧(pre.length:Int) < ((pre2++z::zs).length:Int))=True:=by rw [hp]; exact eN _ _ _
     have a2:(pre2++z::zs).getD (jt (pre.length:Int)) s0=z:=by rw [hp]; exact eF _ _ _ _
     unfold rq
     simp only [uX,uT,uU,uV,uW,uY,qG,ff,eN,eF,if_true,aS,hwr,i2,a2,h1,al,h2,eO]
     cases h:lL y z with
     | false=>simp only [fk,aS,jb,aK]
     | true=>
       simp only [ef,aK,gk]
       rw [ck pre ys y,ck pre2 zs z]
       exact ih (pre++[y]) zs (pre2++[z]) m (by simpa using hm) (by rw [←ck]; exact hb) (by simp [hp]) (by simpa using hz)
theorem Va {a b:List cg} (h:a.length≠b.length):eO a b=false:=by
 cases h2:eO a b with
 | false=>rfl
 | true=>exact absurd (congrArg lQ (wz.1 h2)) h
theorem v28 (a b:List cg) (h:a.length < 2000):bl 2000 a b=some (eO a b):=by
 unfold bl
 simp only [uX,uT,uU,uV,uW,uY,qG]
 by_cases hl:a.length=b.length
 ·have e:((a.length:Int) != (b.length:Int))=false:=by simp [hl]
  have:=adf (R:=Bool) some (some true) a [] b [] 2000 h (by unfold cc; simp; omega) rfl hl
  simp only [dG,ei] at this
  simp only [e,aK]
  refine dN this ?_
  cases eO a b<;>rfl
 ·have e:((a.length:Int) != (b.length:Int))=true:=bne_iff_ne.2 (by omega)
  simp only [e,aS]
  rw [Va hl]
theorem acM {R:Type} (k0:Bool→Option R) (K:Option R):
  ∀ (ys pre zs pre2:List cg) (m:Nat),ys.length < m→(pre++ys).length≤cc→pre.length=pre2.length→ys.length=zs.length→
    rh k0 (fun _ _ _ _=>K) m (pre++ys) (pre2++zs) ((pre++ys).length:Int) (pre.length:Int)=ae (eO ys zs) K (k0 false):=by
 intro ys
 induction ys with
 | nil=>
   intro pre zs pre2 m hm hb hp hz
   have:zs=[]:=ni.1 hz.symm
   subst this
   cases m with
   | zero=>omega
   | succ m=>
     unfold rh
     simp only [tS,tO,tP,tQ,tR,tT,qB,fh,aK,eO,aS]
 | cons y ys ih=>
   intro pre zs pre2 m hm hb hp hz
   obtain ⟨z,zs,rfl⟩:∃ z zs',zs=z::zs':=by
    cases zs with
    | nil=>simp at hz
    | cons z zs=>exact ⟨z,zs,rfl⟩
   cases m with
   | zero=>omega
   | succ m=>
     have hwr:=fj pre ys y hb
     have i2:(0≤(pre.length:Int)∧(pre.length:Int) < ((pre2++z::zs).length:Int))=True:=by rw [hp]; exact eN _ _ _
     have a2:(pre2++z::zs).getD (jt (pre.length:Int)) s0=z:=by rw [hp]; exact eF _ _ _ _
     unfold rh
     simp only [tS,tO,tP,tQ,tR,tT,qB,ff,eN,eF,if_true,aS,hwr,i2,a2,eO]
     have e:(y.1==z.1&&(y.2.1==z.2.1&&(y.2.2.1==z.2.2.1&&true)))=lL y z:=rfl
     rw [e]
     cases h:lL y z with
     | false=>simp only [fk,aS,jb,aK]
     | true=>
       simp only [ef,aK,gk]
       rw [ck pre ys y,ck pre2 zs z]
       exact ih (pre++[y]) zs (pre2++[z]) m (by simpa using hm) (by rw [←ck]; exact hb) (by simp [hp]) (by simpa using hz)
theorem aqz (a b:List cg) (h:a.length < 2000):gp 2000 a b=some (eO a b):=by
 unfold gp
 simp only [tS,tO,tP,tQ,tR,tT,qB]
 by_cases hl:a.length=b.length
 ·have e:((a.length:Int) != (b.length:Int))=false:=by simp [hl]
  have:=acM (R:=Bool) some (some true) a [] b [] 2000 h (by unfold cc; simp; omega) rfl hl
  simp only [dG,ei] at this
  simp only [e,aK]
  refine dN this ?_
  cases eO a b<;>rfl
 ·have e:((a.length:Int) != (b.length:Int))=true:=bne_iff_ne.2 (by omega)
  simp only [e,aS]
  rw [Va hl]
def up (b:UInt8):Bool:=decide ((b.toNat:Int)≥65)&&decide ((b.toNat:Int)≤90)
def j6 (b:UInt8):Bool:=fe (b.toNat:Int)&&!up b
def tE (s:List UInt8):Int:=cond (s==[]) 7 (cond (decide ((s.length:Int) > 4)) 3 (cond (s.all j6) 0 2))
theorem WC (b:UInt8):(fl b=b)↔up b=false:=by
 unfold fl up
 by_cases h:65≤b.toNat∧b.toNat≤90
 ·rw [if_pos h,decide_eq_true (show (b.toNat:Int)≥65 by omega),decide_eq_true (show (b.toNat:Int)≤90 by omega)]
  constructor
  ·intro e
   have e2:=congrArg UInt8.toNat e
   simp only [UInt8.toNat_ofNat'] at e2
   omega
  ·intro e; cases e
 ·rw [if_neg h]
  have:(decide ((b.toNat:Int)≥65)&&decide ((b.toNat:Int)≤90))=false:=by
   rw [Bool.and_eq_false_iff]
   by_cases h1:65≤b.toNat
   ·exact .inr (decide_eq_false (by omega))
   ·exact .inl (decide_eq_false (by omega))
  rw [this]; simp
theorem Py:∀ s:List UInt8,(fold s==s)=s.all fun b=>!up b
 | []=>rfl
 | b::s=>by
   rw [rZ]
   have ih:=Py s
   rw [rZ] at ih
   simp only [fold,gl,eD,au,beq_iff_eq,fS,c9] at ih ⊢
   rw [WC,ih]
theorem aea {R:Type} (k0:Int→Option R) (K:Option R):
  ∀ (ys pre:List UInt8) (m:Nat),ys.length < m→(pre++ys).length≤cc→
    qZ (cV 2000) k0 (fun _ _=>K) m (pre++ys) (pre.length:Int)=cond (ys.all j6) K (k0 2):=by
 intro ys
 induction ys with
 | nil=>
   intro pre m hm hb
   cases m with
   | zero=>omega
   | succ m=>
     unfold qZ
     simp only [tx,tt,tu,tv,tw,tz,qy,fh,aK,mw,cond_true]
 | cons y ys ih=>
   intro pre m hm hb
   cases m with
   | zero=>omega
   | succ m=>
     have hwr:=fj pre ys y hb
     unfold qZ
     simp only [tx,tt,tu,tv,tw,tz,qy,ff,eN,eF,if_true,aS,hwr,(Vw y).2,al,eD,j6,up]
     have hgo:=ih (pre++[y]) m (by simpa using hm) (by rw [←ck]; exact hb)
     rw [←ck] at hgo
     cases fe (y.toNat:Int) with
     | false=>simp only [fk,aS,jb,cond_false]
     | true=>
       simp only [ef,aK,gk]
       cases decide ((y.toNat:Int)≥65) with
       | false=>simp only [aK,jb,fk,gk]; exact hgo
       | true=>
         simp only [aS,gk]
         cases decide ((y.toNat:Int)≤90) with
         | false=>simp only [aK,fk,gk]; exact hgo
         | true=>simp only [aS,ef,jb,cond_false]
theorem aqv (s:List UInt8):eZ 2000 s=some (tE s):=by
 unfold eZ tE
 simp only [tx,tt,tu,tv,tw,tz,qy]
 cases h0:s==[] with
 | true=>rfl
 | false=>
   cases h1:decide ((s.length:Int) > 4) with
   | true=>rfl
   | false=>
     have h2:¬ (s.length:Int) > 4:=of_decide_eq_false h1
     have:=aea (R:=Int) some (some 0) s [] 2000 (by omega) (by unfold cc; simp; omega)
     simp only [dG,ei] at this
     simp only [aK,cond_false]
     refine dN this ?_
     cases s.all j6<;>rfl
def ph (v:Int):Bool:=!decide (v < 32)&&!decide (v > 126)
theorem aec {R:Type} (k0:Int→Option R) (K:Option R):
  ∀ (ys pre:List Int) (m:Nat),ys.length < m→(pre++ys).length≤cc→
    ri k0 (fun _ _ _=>K) m (pre++ys) ((pre++ys).length:Int) (pre.length:Int)=cond (ys.all ph) K (k0 2):=by
 intro ys
 induction ys with
 | nil=>
   intro pre m hm hb
   cases m with
   | zero=>omega
   | succ m=>
     unfold ri
     simp only [ur,ui,uj,uk,uq,uu,qE,fh,aK,mw,cond_true]
 | cons y ys ih=>
   intro pre m hm hb
   cases m with
   | zero=>omega
   | succ m=>
     have hwr:=fj pre ys y hb
     have hl:(jt (pre.length:Int) < (pre++y::ys).length)=True:=IX pre ys y
     unfold ri
     simp only [ur,ui,uj,uk,uq,uu,qE,ff,eN,eF,if_true,aS,hwr,hl,eD,ph]
     have hgo:=ih (pre++[y]) m (by simpa using hm) (by rw [←ck]; exact hb)
     rw [←ck] at hgo
     cases decide (y < 32) with
     | true=>simp only [aS,ef,jb,cond_false]
     | false=>
       cases decide (y > 126) with
       | true=>simp only [aS,aK,ef,fk,gk,jb,cond_false]
       | false=>simp only [aK,fk,gk]; exact hgo
def ch (b:UInt8):Int:=(b.toNat:Int)
theorem aqF (s:List UInt8) (h:s.length≤120):fb 2000 s=some (cond ((s.map ch).all ph) 0 2):=by
 unfold fb
 have h1:decide ((s.length:Int) > 120)=false:=decide_eq_false (by omega)
 simp only [ur,ui,uj,uk,uq,uu,qE,h1,aK]
 have:=aec (R:=Int) some (some 0) (s.map ch) [] 2000 (by simp; omega) (by unfold cc; simp; omega)
 simp only [dG,ei] at this
 refine dN this ?_
 cases (s.map ch).all ph<;>rfl
abbrev lV:Type:=Int×(Int×Unit)
structure Jw (P:List Int) (out:List lV):Prop where
 yes:P.all fe=true→out=if P=[] then [] else [(0,((P.length:Nat):Int),())]
 no:P.all fe=false→out.length≠1∨∃ a b,out=[(a,b,())]∧b - a < (P.length:Int)
 bd:∀ x∈out,0≤x.1∧x.1≤(P.length:Int)∧0≤x.2.1∧x.2.1≤(P.length:Int)
 len:out.length≤P.length
theorem su (P:List Int) (y:Int):(P++[y]).all fe=(P.all fe&&fe y):=by simp
theorem Jw.skip {P:List Int} {out:List lV} {y:Int} (h:Jw P out) (hy:fe y=false):Jw (P++[y]) out:=by
 have ha:(P++[y]).all fe=false:=by rw [su,hy,Bh]
 refine ⟨fun e=>by rw [ha] at e; (cases e),fun _=>?_,fun x hx=>?_,by have:=h.len; simp; omega⟩
 ·cases hp:P.all fe with
  | true=>
    rw [h.yes hp]
    split
    ·exact .inl (by simp)
    ·exact .inr ⟨_,_,rfl,by simp; omega⟩
  | false=>
    rcases h.no hp with h1 | ⟨a,b,h1,h2⟩
    ·exact .inl h1
    ·exact .inr ⟨a,b,h1,by simp; omega⟩
 ·have:=h.bd x hx
  simp only [cF,nj]; omega
theorem Jw.ext {P:List Int} {o:List lV} {a:Int} {y:Int} (h:Jw P (o++[(a,((P.length:Nat):Int),())])) (hy:fe y=true):Jw (P++[y]) (o++[(a,((P.length:Nat):Int)+1,())]):=by
 refine ⟨fun e=>?_,fun e=>?_,fun x hx=>?_,by have:=h.len; simp at this ⊢; omega⟩
 ·rw [su,hy,jn] at e
  have h1:=h.yes e
  split at h1
  ·simp at h1
  ·have h2:o=[]:=by
    have:=congrArg lQ h1
    simp at this; exact ni.1 (by simpa using this)
   subst h2
   simp only [dG,fS,ej,and_true] at h1
   rw [if_neg (by simp),h1]
   simp
 ·rw [su,hy,jn] at e
  rcases h.no e with h1 | ⟨a',b',h1,h2⟩
  ·exact .inl (by simpa using h1)
  ·have h3:o=[]:=by
    have:=congrArg lQ h1
    simp at this; exact ni.1 (by simpa using this)
   subst h3
   simp only [dG,fS,ej,and_true] at h1
   exact .inr ⟨a,_,rfl,by simp; omega⟩
 ·simp only [cF,nj]
  rcases dn.1 hx with h1 | h1
  ·have:=h.bd x (List.mem_append_left _ h1); omega
  ·have h2:=h.bd (a,((P.length:Nat):Int),()) (by simp)
   simp only [kg] at h1
   subst h1
   simp only at h2 ⊢; omega
theorem Jw.new {P:List Int} {out:List lV} {y:Int} (h:Jw P out) (hy:fe y=true) (hn:∀ o a,out≠o++[(a,((P.length:Nat):Int),())]):Jw (P++[y]) (out++[(((P.length:Nat):Int),((P.length:Nat):Int)+1,())]):=by
 refine ⟨fun e=>?_,fun e=>?_,fun x hx=>?_,by have:=h.len; simp; omega⟩
 ·rw [su,hy,jn] at e
  have h1:=h.yes e
  split at h1
  ·rename_i hp; subst hp; subst h1; simp
  ·exact absurd h1 (hn [] 0)
 ·rw [su,hy,jn] at e
  cases out with
  | nil=>
    refine .inr ⟨_,_,rfl,?_⟩
    cases P with
    | nil=>cases e
    | cons p P=>simp; omega
  | cons x o=>exact .inl (by simp)
 ·simp only [cF,nj]
  rcases dn.1 hx with h1 | h1
  ·have:=h.bd x h1; omega
  ·simp only [kg] at h1
   subst h1
   simp only; omega
theorem aed {R:Type} (K:List lV→Option R):
  ∀ (ys pre:List Int) (m:Nat) (out:List lV),ys.length < m→(pre++ys).length≤120→(∀ v∈ys,b8 2000 v=some (fe v))→Jw pre out→
    ∃ o,Jw (pre++ys) o∧oX (b8 2000) (fun o _ _ _=>K o) m out (pre++ys) ((pre++ys).length:Int) (pre.length:Int)=K o:=by
 intro ys
 induction ys with
 | nil=>
   intro pre m out hm hb hs hJ
   cases m with
   | zero=>omega
   | succ m=>
     refine ⟨out,by simpa using hJ,?_⟩
     unfold oX
     simp only [ug,uc,ud,ue,uf,uh,qD,fh,aK]
 | cons y ys ih=>
   intro pre m out hm hb hs hJ
   cases m with
   | zero=>omega
   | succ m=>
     have hwr:=fj pre ys y (by unfold cc; omega)
     have hl:(jt (pre.length:Int) < (pre++y::ys).length)=True:=IX pre ys y
     have hy:=hs y (by simp)
     have hbp:pre.length < 120:=by simp at hb; omega
     have hgo:∀ o,Jw (pre++[y]) o→∃ o',Jw (pre++y::ys) o'∧oX (b8 2000) (fun o _ _ _=>K o) m o (pre++y::ys) ((pre++y::ys).length:Int) ((pre++[y]).length:Int)=K o':=by
      intro o ho
      have:=ih (pre++[y]) m o (by simpa using hm) (by rw [←ck]; exact hb) (fun v hv=>hs v (jQ _ hv)) ho
      rwa [←ck] at this
     unfold oX
     simp only [ug,uc,ud,ue,uf,uh,qD,ff,eN,eF,if_true,aS,hl,hwr,hy,al]
     cases hly:fe y with
     | false=>
       simp only [fk,aS]
       exact hgo out (hJ.skip hly)
     | true=>
       simp only [ef,aK]
       have h3:(((pre++[y]).length:Nat):Int)=(pre.length:Int)+1:=by simp
       rcases List.eq_nil_or_concat out with h0 | ⟨o,x,h0⟩
       ·subst h0
        have d:decide ((([]:List lV).length:Int) > 0)=false:=rfl
        have hl2:(([]:List lV).length+[((pre.length:Int),(((pre++[y]).length:Nat):Int),())].length≤8796093022208)=True:=by simp
        have hn:=hJ.new hly (by intro o a; simp)
        rw [←h3] at hn
        simp only [d,aK,hl2,if_true]
        exact hgo _ hn
       ·rw [List.concat_eq_append] at h0
        subst h0
        have hol:(o++[x]).length≤pre.length:=hJ.len
        have hol':o.length < 120:=by simp at hol; omega
        have d:decide ((((o++[x]).length:Nat):Int) > 0)=true:=decide_eq_true (by simp only [cF,nj]; omega)
        have w2:IntKind.i64.wrap ((((o++[x]).length:Nat):Int) - 1)=(o.length:Int):=by
         have:(((o++[x]).length:Nat):Int) - 1=(o.length:Int):=by simp
         rw [this]; exact jm (by omega)
        have i1:(0≤(o.length:Int)∧(o.length:Int) < (((o++[x]).length:Nat):Int))=True:=by rw [eq_iff_iff,iff_true]; simp only [cF,nj]; omega
        have i2:(jt (o.length:Int) < (o++[x]).length)=True:=by simp
        have g1:(o++[x]).getD (jt (o.length:Int)) ((0:Int),((0:Int),()))=x:=by simp
        have s1:∀ z,(o++[x]).set (jt (o.length:Int)) z=o++[z]:=by intro z; simp
        simp only [d,aS,w2,i1,i2,if_true,g1,s1]
        cases hx:x.2.1==(pre.length:Int) with
        | true=>
          have hx':x.2.1=(pre.length:Int):=by simpa using hx
          obtain ⟨a,b,u⟩:=x
          simp only at hx'
          subst hx'
          have hn:=hJ.ext hly
          rw [←h3] at hn
          simp only [aS,hwr]
          exact hgo _ hn
        | false=>
          have hx':x.2.1≠(pre.length:Int):=by simpa using hx
          have hl2:((o++[x]).length+[((pre.length:Int),(((pre++[y]).length:Nat):Int),())].length≤8796093022208)=True:=by
           simp only [cF,nj,eq_iff_iff,iff_true]; omega
          have hn:=hJ.new hly (by
           intro o' a e
           have:=(List.append_inj' e rfl).2
           simp only [fS,and_true] at this
           rw [this] at hx'
           exact hx' rfl)
          rw [←h3] at hn
          simp only [aK,hl2,if_true]
          exact hgo _ hn
theorem acO:((List.range 256).all fun n=>!fe (n:Int) || ph (n:Int))=true:=by kernel_rfl
theorem acP (b:UInt8) (h:fe (b.toNat:Int)=true):ph (b.toNat:Int)=true:=by
 have:=fm.1 acO b.toNat (Bv.2 b.toNat_lt)
 rw [h] at this
 simpa using this
theorem aqB (s:List UInt8):fa 2000 s=some (tE s):=by
 unfold fa tE
 simp only [Ho,Ah]
 cases h0:s==[] with
 | true=>rfl
 | false=>
   have h0':s≠[]:=by simpa using h0
   cases h1:decide ((s.length:Int) > 4) with
   | true=>rfl
   | false=>
     have h2:¬ (s.length:Int) > 4:=of_decide_eq_false h1
     simp only [aK,cond_false,v72 s (by omega),al]
     have hne:(fold s != s)=!(fold s==s):=rfl
     rw [hne,Py]
     cases hu:s.all fun b=>!up b with
     | false=>
       have:s.all j6=false:=by
        rw [Ju] at hu ⊢
        obtain ⟨b,hb,h3⟩:=hu
        exact ⟨b,hb,by unfold j6; simp only [Bool.not_eq_true] at h3 ⊢; rw [h3,Bh]⟩
       rw [this]; rfl
     | true=>
       have hlk:s.all j6=(s.map ch).all fe:=by
        rw [rZ]
        simp only [fm,dA,forall_exists_index,and_imp,forall_apply_eq_imp_iff₂] at hu ⊢
        exact ⟨fun h b hb=>by have:=h b hb; unfold j6 at this; simp only [au] at this; exact this.1,fun h b hb=>by unfold j6; rw [hu b hb,jn]; exact h b hb⟩
       simp only [ef,aK]
       unfold hM
       simp only [ug,uc,ud,ue,uf,uh,qD,aqF s (by omega),al]
       cases hv:(s.map ch).all ph with
       | false=>
         have:s.all j6=false:=by
          rw [hlk,Ju]
          rw [Ju] at hv
          obtain ⟨v,hvm,h3⟩:=hv
          refine ⟨v,hvm,fun h4=>h3 ?_⟩
          obtain ⟨b,_,rfl⟩:=dA.1 hvm
          exact acP b h4
         rw [this]; rfl
       | true=>
         have e0:((cond true (0:Int) 2) != 0)=false:=rfl
         simp only [e0,aK]
         obtain ⟨o,hJ,ho⟩:=aed (R:=List lV×Int) (fun o=>some (o,0)) (s.map ch) [] 2000 [] (by simp; omega) (by simp; omega) (by
          intro v hv
          obtain ⟨b,_,rfl⟩:=dA.1 hv
          exact (Vw b).1) ⟨fun _=>rfl,(fun e=>by cases e),(fun x hx=>by simp at hx),by simp⟩
         simp only [dG,ei] at ho hJ
         have hch:(s.map fun b=>(b.toNat:Int))=s.map ch:=rfl
         rw [hch]
         have ho':=ho
         rw [show ((0:Nat):Int)=0 from rfl] at ho'
         simp only [ho']
         have e1:((0:Int) != 0)=false:=rfl
         simp only [al,e1,aK]
         cases ha:(s.map ch).all fe with
         | true=>
           have h5:=hJ.yes ha
           rw [if_neg (by simpa using h0')] at h5
           subst h5
           have w:IntKind.i64.wrap (s.length:Int)=(s.length:Int):=jm (by omega)
           have hk:s.all j6=true:=by rw [hlk,ha]
           rw [hk]
           simp [w,ae]
         | false=>
           rw [hlk,ha]
           rcases hJ.no ha with h5 | ⟨a,b,h5,h6⟩
           ·have:((o.length:Int) != 1)=true:=bne_iff_ne.2 (by omega)
            rw [this]; rfl
           ·subst h5
            have hbd:=hJ.bd (a,b,()) (by simp)
            simp only [pC] at hbd h6
            have w:IntKind.i64.wrap (b - a)=b - a:=jm (by omega)
            have:(b - a != (s.length:Int))=true:=bne_iff_ne.2 (by omega)
            simp [w,this,ae]
theorem arh (n:Int):(n != 0)=!(n==0):=rfl
def BL (x:dI):Bool:=decide (x.2.2.1 < 0) || (decide (x.2.2.1 > 99) || (decide (x.2.2.2.1 < 0) || decide (x.2.2.2.1 > 4)))
def gE (x:dI):Int:=cond (tE x.1 != 0) (tE x.1) (cond ((x.2.1.length:Int)==0) 7 (cond (decide ((x.2.1.length:Int) > 2)) 3 (cond (jl x.2.1 != 0) (jl x.2.1) (cond (BL x) 6 0))))
theorem acB {R:Type} (k0:Int→Option R) (K:dI→Option R) (x:dI):
  ∀ (ys pre:List cg) (m:Nat),ys.length < m→(pre++ys).length≤cc→
    rb (c6 2000) k0 (fun y0 _ _ _=>K y0) m x (pre++ys) ((pre++ys).length:Int) (pre.length:Int)=cond (jl ys != 0) (k0 (jl ys)) (K x):=by
 intro ys
 induction ys with
 | nil=>
   intro pre m hm hb
   cases m with
   | zero=>omega
   | succ m=>
     unfold rb
     simp only [tM,tI,tJ,tK,tL,tN,qA,fh,aK,jl]
     rfl
 | cons y ys ih=>
   intro pre m hm hb
   cases m with
   | zero=>omega
   | succ m=>
     have hwr:=fj pre ys y hb
     have hgo:=ih (pre++[y]) m (by simpa using hm) (by rw [←ck]; exact hb)
     rw [←ck] at hgo
     unfold rb
     simp only [tM,tI,tJ,tK,tL,tN,qA,ff,eN,eF,if_true,aS,hwr,aqZ,al,jl]
     cases h:nc y != 0 with
     | true=>simp only [aS,cond_true,h]
     | false=>simp only [aK,cond_false]; exact hgo
theorem adg {R:Type} (k0:Int→Option R) (K:dI→Option R) (t:List UInt8) (r:Int×(Int×Unit)):
  ∀ (ys pre:List cg) (m:Nat),ys.length < m→(pre++ys).length≤cc→
    rC (bF 2000) k0 (fun y0 _=>K y0) m (t,(pre++ys,r)) (pre.length:Int)=cond (jl ys != 0) (k0 (jl ys)) (K (t,(pre++ys,r))):=by
 intro ys
 induction ys with
 | nil=>
   intro pre m hm hb
   cases m with
   | zero=>omega
   | succ m=>
     unfold rC
     simp only [vL,vH,vI,vJ,vK,vM,qT,fh,aK,jl]
     rfl
 | cons y ys ih=>
   intro pre m hm hb
   cases m with
   | zero=>omega
   | succ m=>
     have hwr:=fj pre ys y hb
     have hgo:=ih (pre++[y]) m (by simpa using hm) (by rw [←ck]; exact hb)
     rw [←ck] at hgo
     unfold rC
     simp only [vL,vH,vI,vJ,vK,vM,qT,ff,eN,eF,if_true,aS,hwr,v117,al,jl]
     cases h:nc y != 0 with
     | true=>simp only [aS,cond_true,h]
     | false=>simp only [aK,cond_false]; exact hgo
theorem aqx (x:dI):cW 2000 x=some (gE x):=by
 unfold cW gE
 simp only [tM,tI,tJ,tK,tL,tN,qA,aqB,al]
 cases tE x.1 != 0 with
 | true=>rfl
 | false=>
   cases (x.2.1.length:Int)==0 with
   | true=>rfl
   | false=>
     cases h:decide ((x.2.1.length:Int) > 2) with
     | true=>rfl
     | false=>
       have h2:¬ (x.2.1.length:Int) > 2:=of_decide_eq_false h
       have:=acB (R:=Int) some (fun x0=>ae (decide (x0.2.2.1 < (0:Int))) (some 6) (ae (decide (x0.2.2.1 > (99:Int))) (some 6) (ae (decide (x0.2.2.2.1 < (0:Int))) (some 6) (ae (decide (x0.2.2.2.1 > (4:Int))) (some 6) (some 0))))) x x.2.1 [] 2000 (by omega) (by unfold cc; simp; omega)
       simp only [dG,ei] at this
       simp only [aK,aS,cond_false]
       refine dN this ?_
       unfold BL
       cases jl x.2.1 != 0<;>cases decide (x.2.2.1 < 0)<;>cases decide (x.2.2.1 > 99)<;>cases decide (x.2.2.2.1 < 0)<;>cases decide (x.2.2.2.1 > 4)<;>rfl
theorem v91 (x:dI):cz 2000 x=some (gE x):=by
 obtain ⟨t,l,r⟩:=x
 unfold cz gE
 simp only [vL,vH,vI,vJ,vK,vM,qT,aqv,al]
 cases tE t != 0 with
 | true=>rfl
 | false=>
   cases (l.length:Int)==0 with
   | true=>rfl
   | false=>
     cases h:decide ((l.length:Int) > 2) with
     | true=>rfl
     | false=>
       have h2:¬ (l.length:Int) > 2:=of_decide_eq_false h
       have:=adg (R:=Int) some (fun x0=>ae (decide (x0.2.2.1 < (0:Int))) (some 6) (ae (decide (x0.2.2.1 > (99:Int))) (some 6) (ae (decide (x0.2.2.2.1 < (0:Int))) (some 6) (ae (decide (x0.2.2.2.1 > (4:Int))) (some 6) (some 0))))) t r l [] 2000 (by omega) (by unfold cc; simp; omega)
       simp only [dG,ei] at this
       simp only [aK,aS,cond_false]
       refine dN this ?_
       unfold BL
       cases jl l != 0<;>cases decide (r.1 < 0)<;>cases decide (r.1 > 99)<;>cases decide (r.2.1 < 0)<;>cases decide (r.2.1 > 4)<;>rfl
theorem mj {x:dI} (h:gE x=0):x.2.1.length≤2∧x.2.1≠[]∧x.1≠[]∧x.1.length≤4:=by
 unfold gE at h
 cases h1:tE x.1 != 0 with
 | true=>rw [h1,cond_true] at h; rw [h] at h1; cases h1
 | false=>
   rw [h1,cond_false] at h
   have ht:x.1≠[]∧x.1.length≤4:=by
    unfold tE at h1
    cases h3:x.1==[] with
    | true=>rw [h3] at h1; cases h1
    | false=>
      rw [h3] at h1
      cases h4:decide ((x.1.length:Int) > 4) with
      | true=>rw [h4] at h1; cases h1
      | false=>exact ⟨by simpa using h3,by have:=of_decide_eq_false h4; omega⟩
   cases h2:(x.2.1.length:Int)==0 with
   | true=>rw [h2,cond_true] at h; cases h
   | false=>
     rw [h2,cond_false] at h
     cases h3:decide ((x.2.1.length:Int) > 2) with
     | true=>rw [h3,cond_true] at h; cases h
     | false=>
       have:=of_decide_eq_false h3
       refine ⟨by omega,fun e=>?_,ht.1,ht.2⟩
       rw [e] at h2; cases h2
def wq (t y:dI):Bool:=(t.1==y.1)&&((t.2.2.2.1==y.2.2.2.1)&&eO t.2.1 y.2.1)
def kq (y:dI) (pre:List dI):Bool:=pre.any fun t=>wq t y
def gS:List dI→List dI→Int
 | _,[]=>0
 | pre,y::ys=>cond (gE y != 0) (gE y) (cond (kq y pre) 5 (gS (pre++[y]) ys))
def mV (s:List UInt8):Bool:=match eL 2000 s with | some b=>b | none=>false
theorem Ui (s:List UInt8):eQ 2000 s=some (mV s)∧eL 2000 s=some (mV s):=by
 obtain ⟨b,h1,h2⟩:=aqw s
 have:mV s=b:=by unfold mV; rw [h2]
 rw [this]; exact ⟨h1,h2⟩
def oE (o:cI):Int:=cond (!mV o.1) 2 (cond ((o.2.1.length:Int)==0) 7 (cond (decide ((o.2.1.length:Int) > 120)) 3 (gS [] o.2.1)))
theorem acT {R:Type} (k0:Int→Option R) (K:Option R) (f:dI×Unit→Option Bool) (p:dI→Bool):
  ∀ (ys pre:List dI) (m:Nat),(∀ t∈ys,f (t,())=some (p t))→ys.length < m→(pre++ys).length≤cc→
    (ys.any p=false→oW k0 (fun _ _ _ _=>K) m (pre++ys) f ((pre++ys).length:Int) (pre.length:Int)=K)∧
    (ys.any p=true→∃ i:Nat,oW k0 (fun _ _ _ _=>K) m (pre++ys) f ((pre++ys).length:Int) (pre.length:Int)=k0 (i:Int)):=by
 intro ys
 induction ys with
 | nil=>
   intro pre m hf hm hb
   cases m with
   | zero=>omega
   | succ m=>
     unfold oW
     simp only [tV,tW,tX,tY,tZ,ua,qC,fh,aK,Bk]
     exact ⟨fun _=>trivial,fun h=>by cases h⟩
 | cons y ys ih=>
   intro pre m hf hm hb
   cases m with
   | zero=>omega
   | succ m=>
     have hwr:=fj pre ys y hb
     have hgo:=ih (pre++[y]) m (fun t ht=>hf t (jQ _ ht)) (by simpa using hm) (by rw [←ck]; exact hb)
     rw [←ck] at hgo
     unfold oW
     simp only [tV,tW,tX,tY,tZ,ua,qC,ff,eN,eF,if_true,aS,hwr,hf y (by simp),al,sc]
     cases h:p y with
     | true=>simp only [aS,Bi]; exact ⟨(fun h=>by cases h),fun _=>⟨pre.length,rfl⟩⟩
     | false=>simp only [aK,r6]; exact hgo
theorem aqy (xs:List dI) (hx:xs.length < 2000) (f:dI×Unit→Option Bool) (p:dI→Bool) (hf:∀ t∈xs,f (t,())=some (p t)):cT 2000 xs f=some (xs.any p):=by
 unfold cT
 simp only [Hd,z6]
 unfold gZ
 simp only [tV,tW,tX,tY,tZ,ua,qC]
 have h:=acT (R:=Int) some (some (-1)) f p xs [] 2000 hf hx (by unfold cc; simp; omega)
 simp only [dG,ei] at h
 have z:((0:Nat):Int)=0:=rfl
 rw [z] at h
 cases ha:xs.any p with
 | false=>rw [h.1 ha]; rfl
 | true=>
   obtain ⟨i,h1⟩:=h.2 ha
   rw [h1]
   simp only [al]
   have:decide ((i:Int)≥0)=true:=decide_eq_true (by omega)
   rw [this]
theorem acG {R:Type} (k0:Int→Int→Option R) (K:Option R) (nm:List UInt8):
  ∀ (ys pre:List dI) (m:Nat),ys.length < m→(pre++ys).length≤120→(∀ t∈pre,t.2.1.length≤2)→
    (gS pre ys=0→o6 (cW 2000) (cT 2000) (cX 2000) k0 (fun _ _ _ _=>K) m (nm,(pre++ys,())) (pre++ys) ((pre++ys).length:Int) (pre.length:Int)=K)∧
    (gS pre ys≠0→∃ i,o6 (cW 2000) (cT 2000) (cX 2000) k0 (fun _ _ _ _=>K) m (nm,(pre++ys,())) (pre++ys) ((pre++ys).length:Int) (pre.length:Int)=k0 i (gS pre ys)):=by
 intro ys
 induction ys with
 | nil=>
   intro pre m hm hb hp
   cases m with
   | zero=>omega
   | succ m=>
     unfold o6
     simp only [vR,vN,vO,vP,vQ,vS,qU,fh,aK,gS]
     exact ⟨fun _=>trivial,fun h=>absurd rfl h⟩
 | cons y ys ih=>
   intro pre m hm hb hp
   cases m with
   | zero=>omega
   | succ m=>
     have hwr:=fj pre ys y (by unfold cc; omega)
     unfold o6
     simp only [vR,vN,vO,vP,vQ,vS,qU,ff,eN,eF,if_true,aS,hwr,aqx,al,gS]
     cases h:gE y != 0 with
     | true=>
       have h':gE y≠0:=by simpa using h
       simp only [aS,cond_true]
       exact ⟨fun e=>absurd e h',fun _=>⟨_,rfl⟩⟩
     | false=>
       have h':gE y=0:=by simpa using h
       have hy:=mj h'
       have hbp:pre.length < 120:=by simp at hb; omega
       have hc:(0≤(0:Int)∧(0:Int)≤(pre.length:Int)∧(pre.length:Int)≤((pre++y::ys).length:Int)∧((pre++y::ys).length:Int)≤((pre++y::ys).length:Int))=True:=by
        rw [eq_iff_iff,iff_true]; simp only [cF,eX]; omega
       have ht:((pre++y::ys).drop (0:Int).toNat).take ((pre.length:Int).toNat - (0:Int).toNat)=pre:=by simp
       have hd:cT 2000 pre (fun (x0:dI×Unit)=>((cX 2000 x0.1 y).bind fun b=>some [.v .bool b]).bind (lN .bool))=some (kq y pre):=
        aqy pre (by omega) _ (fun t=>wq t y) (fun t ht=>by
         unfold cX wq
         have:=hp t ht
         simp only [He,z7,aqz t.2.1 y.2.1 (by omega),al]
         cases t.1==y.1<;>cases t.2.2.2.1==y.2.2.2.1<;>cases eO t.2.1 y.2.1<;>rfl)
       simp only [aK,cond_false,hc,if_true,ht,hd,al]
       cases h2:kq y pre with
       | true=>
         simp only [aS,cond_true]
         exact ⟨(fun e=>by cases e),fun _=>⟨_,rfl⟩⟩
       | false=>
         simp only [aK,cond_false]
         have hgo:=ih (pre++[y]) m (by simpa using hm) (by rw [←ck]; exact hb) (by
          intro t ht
          rcases dn.1 ht with h | h
          ·exact hp t h
          ·rw [kg.1 h]; exact hy.1)
         rw [←ck] at hgo
         exact hgo
theorem v70 (o:cI):dU 2000 o=some (oE o):=by
 obtain ⟨nm,l,u⟩:=o
 unfold dU
 simp only [HP,Ay]
 unfold hR oE
 simp only [vR,vN,vO,vP,vQ,vS,qU,(Ui nm).1,al]
 cases mV nm with
 | false=>rfl
 | true=>
   cases (l.length:Int)==0 with
   | true=>rfl
   | false=>
     cases h:decide ((l.length:Int) > 120) with
     | true=>rfl
     | false=>
       have h2:¬ (l.length:Int) > 120:=of_decide_eq_false h
       have hk:=acG (R:=Int×Int) (fun a b=>some (a,b)) (some (-1,0)) nm l [] 2000 (by omega) (by simp; omega) (by simp)
       simp only [dG,ei] at hk
       have z:((0:Nat):Int)=0:=rfl
       rw [z] at hk
       simp only [ef,aK,cond_false]
       by_cases he:gS [] l=0
       ·rw [hk.1 he,he]; rfl
       ·obtain ⟨i,h3⟩:=hk.2 he
        rw [h3]; rfl
theorem acV {R:Type} (k0:Int→Int→Option R) (K:cI→Int→Option R) (o:cI) (y:dI) (L:List dI) (hL:o.2.1=L) (i:Nat) (hi:i < L.length) (hy:L.getD i g0=y):
  ∀ (ys pre zs:List dI) (m:Nat),L=pre++ys++zs→(pre++ys).length=i→ys.length < m→L.length≤120→(∀ t∈ys,t.2.1.length≤2)→y.2.1.length≤2→
    (kq y ys=false→o5 (bl 2000) k0 (fun a b _=>K a b) m o (i:Int) (pre.length:Int)=K o (i:Int))∧
    (kq y ys=true→o5 (bl 2000) k0 (fun a b _=>K a b) m o (i:Int) (pre.length:Int)=k0 (i:Int) 5):=by
 intro ys
 induction ys with
 | nil=>
   intro pre zs m hl hlen hm hb hp hy2
   cases m with
   | zero=>omega
   | succ m=>
     have d:decide ((pre.length:Int) < (i:Int))=false:=decide_eq_false (by simp at hlen; omega)
     unfold o5
     simp only [oJ,oG,oO,oM,oH,oL,oN,oP,oQ,oI,oK,mP,d,aK,kq,Bk]
     exact ⟨fun _=>trivial,fun h=>by cases h⟩
 | cons x ys ih=>
   intro pre zs m hl hlen hm hb hp hy2
   cases m with
   | zero=>omega
   | succ m=>
     have hpi:pre.length < i:=by simp at hlen; omega
     have d:decide ((pre.length:Int) < (i:Int))=true:=decide_eq_true (by omega)
     have c1:(0≤(i:Int)∧(i:Int) < (L.length:Int))=True:=by rw [eq_iff_iff,iff_true]; omega
     have c2:(0≤(pre.length:Int)∧(pre.length:Int) < (L.length:Int))=True:=by rw [eq_iff_iff,iff_true]; omega
     have g1:L.getD (jt (i:Int)) g0=y:=hy
     have g2:L.getD (jt (pre.length:Int)) g0=x:=by rw [hl,bE]; exact eF _ _ _ _
     have hw:IntKind.i64.wrap ((pre.length:Int)+1)=((pre++[x]).length:Int):=by
      rw [jm (by omega)]; simp
     have hgo:=ih (pre++[x]) zs m (by rw [hl]; simp) (by rw [←ck]; exact hlen) (by simpa using hm) hb (fun t ht=>hp t (jQ _ ht)) hy2
     have hs:bl 2000 y.2.1 x.2.1=some (eO x.2.1 y.2.1):=by
      rw [v28 y.2.1 x.2.1 (by omega),ajh]
     have hx:kq y (x::ys)=(wq x y || kq y ys):=rfl
     have e1:(y.1==x.1)=(x.1==y.1):=by rw [rZ]; simp only [beq_iff_eq]; exact eq_comm
     have e2:(y.2.2.2.1==x.2.2.2.1)=(x.2.2.2.1==y.2.2.2.1):=by rw [rZ]; simp only [beq_iff_eq]; exact eq_comm
     unfold o5
     simp only [oJ,oG,oO,oM,oH,oL,oN,oP,oQ,oI,oK,mP,d,aS,hL,c1,c2,if_true,g1,g2,e1,e2,hs,al,hw,hx,wq]
     cases x.1==y.1 with
     | false=>simp only [aK,jb,r6]; exact hgo
     | true=>
       cases x.2.2.2.1==y.2.2.2.1 with
       | false=>simp only [aK,aS,gk,jb,r6]; exact hgo
       | true=>
         cases eO x.2.1 y.2.1 with
         | false=>simp only [aK,aS,gk,r6]; exact hgo
         | true=>
           simp only [aS,gk,Bi]
           exact ⟨(fun h=>by cases h),fun _=>trivial⟩
theorem acU {R:Type} (k0:Int→Int→Option R) (K:Option R) (nm:List UInt8):
  ∀ (ys pre:List dI) (m:Nat),ys.length < m→(pre++ys).length≤120→(∀ t∈pre,t.2.1.length≤2)→
    (gS pre ys=0→mQ 2000 (bl 2000) (cz 2000) k0 (fun _ _=>K) m (nm,(pre++ys,())) (pre.length:Int)=K)∧
    (gS pre ys≠0→∃ i,mQ 2000 (bl 2000) (cz 2000) k0 (fun _ _=>K) m (nm,(pre++ys,())) (pre.length:Int)=k0 i (gS pre ys)):=by
 intro ys
 induction ys with
 | nil=>
   intro pre m hm hb hp
   cases m with
   | zero=>omega
   | succ m=>
     unfold mQ
     simp only [oJ,oG,oO,oM,oH,oL,oN,oP,oQ,oI,oK,mP,fh,aK,gS]
     exact ⟨fun _=>trivial,fun h=>absurd rfl h⟩
 | cons y ys ih=>
   intro pre m hm hb hp
   cases m with
   | zero=>omega
   | succ m=>
     have hwr:=fj pre ys y (by unfold cc; omega)
     unfold mQ
     simp only [oJ,oG,oO,oM,oH,oL,oN,oP,oQ,oI,oK,mP,ff,eN,eF,if_true,aS,v91,al,gS]
     cases h:gE y != 0 with
     | true=>
       have h':gE y≠0:=by simpa using h
       simp only [aS,cond_true]
       exact ⟨fun e=>absurd e h',fun _=>⟨_,rfl⟩⟩
     | false=>
       have h':gE y=0:=by simpa using h
       have hy:=mj h'
       have hbp:pre.length < 120:=by simp at hb; omega
       have hin:=acV k0 (fun x0 x1=>mQ 2000 (bl 2000) (cz 2000) k0 (fun _ _=>K) m x0 (IntKind.i64.wrap (x1+(1:Int)))) (nm,(pre++y::ys,())) y (pre++y::ys) rfl pre.length (by simp) (by simp) pre [] (y::ys) 2000 (by simp) (by simp) (by omega) hb hp hy.1
       simp only [ei] at hin
       have z:((0:Nat):Int)=0:=rfl
       rw [z] at hin
       simp only [aK,cond_false]
       cases h2:kq y pre with
       | true=>
         rw [hin.2 h2]
         simp only [cond_true]
         exact ⟨(fun e=>by cases e),fun _=>⟨_,rfl⟩⟩
       | false=>
         rw [hin.1 h2,hwr]
         simp only [cond_false]
         have hgo:=ih (pre++[y]) m (by simpa using hm) (by rw [←ck]; exact hb) (by
          intro t ht
          rcases dn.1 ht with h | h
          ·exact hp t h
          ·rw [kg.1 h]; exact hy.1)
         rw [←ck] at hgo
         exact hgo
theorem v35 (o:cI):gH 2000 o=some (oE o):=by
 obtain ⟨nm,l,u⟩:=o
 unfold gH
 simp only [HA,Au]
 unfold dd oE
 simp only [oJ,oG,oO,oM,oH,oL,oN,oP,oQ,oI,oK,mP,(Ui nm).2,al]
 cases mV nm with
 | false=>rfl
 | true=>
   cases (l.length:Int)==0 with
   | true=>rfl
   | false=>
     cases h:decide ((l.length:Int) > 120) with
     | true=>rfl
     | false=>
       have h2:¬ (l.length:Int) > 120:=of_decide_eq_false h
       have hk:=acU (R:=Int×Int) (fun a b=>some (a,b)) (some (-1,0)) nm l [] 2000 (by omega) (by simp; omega) (by simp)
       simp only [dG,ei] at hk
       have z:((0:Nat):Int)=0:=rfl
       rw [z] at hk
       simp only [ef,aK,cond_false]
       by_cases he:gS [] l=0
       ·rw [hk.1 he,he]; rfl
       ·obtain ⟨i,h3⟩:=hk.2 he
        rw [h3]; rfl
theorem aqL (l:List cg):∃ b,cZ 2000 l 6=some b:=by
 unfold cZ
 cases e:decide ((l.length:Int) > 6) with
 | true=>exact ⟨false,by simp only [qP,qL,qM,qN,qO,qQ,oF,e,aS]⟩
 | false=>
   have hl:l.length≤6:=by
    have:=of_decide_eq_false e
    omega
   obtain ⟨b,h⟩:=acS (R:=Bool) some (fun _ _=>some true) (fun _ _=>rfl) l [] 2000 (by omega) (by unfold cc; simp; omega)
   refine ⟨b,?_⟩
   simp only [qP,qL,qM,qN,qO,qQ,oF,e,aK]
   simpa using h
theorem acR {R:Type} (k0:Bool→Option R) (K:Int→Option R) (nm:List UInt8):
  ∀ (ys pre:List dI) (m:Nat) (n:Int),ys.length < m→(pre++ys).length≤cc→
    (∃ q,o4 (cZ 2000) k0 (fun _ n _=>K n) m (nm,(pre++ys,())) n (pre.length:Int)=K q)∨o4 (cZ 2000) k0 (fun _ n _=>K n) m (nm,(pre++ys,())) n (pre.length:Int)=k0 false:=by
 intro ys
 induction ys with
 | nil=>
   intro pre m n hm hb
   cases m with
   | zero=>omega
   | succ m=>
     left; refine ⟨n,?_⟩
     unfold o4
     simp only [va,uZ,u0,u6,u7,vb,qH,fh,aK]
 | cons y ys ih=>
   intro pre m n hm hb
   cases m with
   | zero=>omega
   | succ m=>
     have hwr:=fj pre ys y hb
     obtain ⟨b,h⟩:=aqL y.2.1
     have hgo:=ih (pre++[y]) m (IntKind.i64.wrap (n+(y.1.length:Int))) (by simpa using hm) (by rw [←ck]; exact hb)
     rw [←ck] at hgo
     unfold o4
     simp only [va,uZ,u0,u6,u7,vb,qH,ff,eN,eF,if_true,aS,hwr,h,al]
     cases b with
     | false=>right; simp only [fk,aS]
     | true=>simp only [ef,aK]; exact hgo
theorem v12 (o:cI) (w:List UInt8) (l:List Int):∃ b,gn 2000 o w l=some b∧(b=true→w.length≤40∧l.length≤40):=by
 have hf:∃ b,gG 2000 o=some b:=by
  obtain ⟨nm,s,u⟩:=o
  unfold gG
  simp only [va,uZ,u0,u6,u7,vb,qH]
  cases decide ((nm.length:Int) > 60) with
  | true=>exact ⟨false,rfl⟩
  | false=>
    cases h:decide ((s.length:Int) > 130) with
    | true=>exact ⟨false,rfl⟩
    | false=>
      have h2:=of_decide_eq_false h
      have:=acR (R:=Bool) some (fun n=>some (decide (n≤(1500:Int)))) nm s [] 2000 0 (by omega) (by unfold cc; simp; omega)
      simp only [dG,ei] at this
      simp only [aK]
      rcases this with ⟨q,h⟩ | h
      ·exact ⟨_,h⟩
      ·exact ⟨_,h⟩
 obtain ⟨b,hb⟩:=hf
 unfold gn
 simp only [Hh,g12,hb,al]
 cases b with
 | false=>exact ⟨false,rfl,fun h=>by cases h⟩
 | true=>
   cases h1:decide ((w.length:Int)≤40) with
   | false=>exact ⟨false,rfl,fun h=>by cases h⟩
   | true=>
     refine ⟨decide ((l.length:Int)≤40),rfl,fun h=>?_⟩
     have:=of_decide_eq_true h; have:=of_decide_eq_true h1
     omega
theorem US:∀ (ys pre:List dI),gS pre ys=0→∀ y∈ys,gE y=0
 | [],_,_,y,hy=>absurd hy (by simp)
 | x::xs,pre,h,y,hy=>by
   unfold gS at h
   cases h1:gE x != 0 with
   | true=>
     rw [h1,cond_true] at h; rw [h] at h1; cases h1
   | false=>
     rw [h1,cond_false] at h
     have hx:gE x=0:=by simpa using h1
     cases h2:kq x pre with
     | true=>rw [h2,cond_true] at h; cases h
     | false=>
       rw [h2,cond_false] at h
       rcases List.mem_cons.1 hy with rfl | hy
       ·exact hx
       ·exact US xs _ h y hy
theorem aen {o:cI} (h:oE o=0):(∀ y∈o.2.1,gE y=0)∧o.2.1.length≤120∧o.2.1≠[]:=by
 unfold oE at h
 cases h1:mV o.1 with
 | false=>rw [h1] at h; cases h
 | true=>
   rw [h1] at h
   cases h2:(o.2.1.length:Int)==0 with
   | true=>rw [h2] at h; cases h
   | false=>
     rw [h2] at h
     cases h3:decide ((o.2.1.length:Int) > 120) with
     | true=>rw [h3] at h; cases h
     | false=>
       rw [h3] at h
       have:=of_decide_eq_false h3
       refine ⟨US _ _ h,by omega,fun e=>?_⟩
       rw [e] at h2; cases h2
def sg (o:cI) (i:Int):dI:=o.2.1.getD i.toNat g0
theorem pt {o:cI} (h:oE o=0) {i:Int} (hi:0≤i∧i < (o.2.1.length:Int)):gE (sg o i)=0:=by
 refine (aen h).1 _ ?_
 unfold sg
 rw [List.getD_eq_getElem?_getD,List.getElem?_eq_getElem (by omega)]
 exact List.getElem_mem _
def eG (o:cI) (i:Int):Bool:=!decide (i < 0)&&!decide (i≥(o.2.1.length:Int))
theorem oT {o:cI} {i:Int}:eG o i=true↔0≤i∧i < (o.2.1.length:Int):=by
 unfold eG
 simp only [au,c9,decide_eq_false_iff_not]; omega
def iY (o:cI):List Int→List UInt8
 | []=> []
 | i::r=>(sg o i).1++iY o r
def ij (o:cI):List Int→List cg
 | []=> []
 | i::r=>(sg o i).2.1++ij o r
def iS (o:cI):Int→List Int→List Int
 | _,[]=> []
 | at_,i::r=>iv (sg o i).2.1.length at_++iS o (at_+((sg o i).1.length:Int)) r
theorem aqt {o:cI} (h:oE o=0):∀ {l:List Int},l.all (eG o)=true→(iY o l).length≤4 * l.length
 | [],_=>by simp [iY]
 | i::r,hl=>by
   simp only [eD,au] at hl
   have h1:=(mj (pt h (oT.1 hl.1))).2.2.2
   have h2:=aqt h hl.2
   simp only [iY,cF,eX]; omega
theorem Vb {o:cI} (h:oE o=0):∀ {l:List Int},l.all (eG o)=true→(ij o l).length≤2 * l.length
 | [],_=>by simp [ij]
 | i::r,hl=>by
   simp only [eD,au] at hl
   have h1:=(mj (pt h (oT.1 hl.1))).1
   have h2:=Vb h hl.2
   simp only [ij,cF,eX]; omega
theorem ac0 {R:Type} (k0:List UInt8→Bool→Option R) (K:List UInt8→Option R) (o:cI) (ho:oE o=0):
  ∀ (ys pre:List Int) (m:Nat) (acc:List UInt8),ys.length < m→(pre++ys).length≤1000→acc.length+4 * ys.length≤100000→
    ru (ct 2000) k0 (fun _ a _ _ _=>K a) m o acc (pre++ys) ((pre++ys).length:Int) (pre.length:Int)=cond (ys.all (eG o)) (K (acc++iY o ys)) (k0 [] false):=by
 intro ys
 induction ys with
 | nil=>
   intro pre m acc hm hb ha
   cases m with
   | zero=>omega
   | succ m=>
     unfold ru
     simp only [vh,vd,ve,vf,vg,vi,qI,fh,aK,mw,cond_true,iY,iq acc]
 | cons y ys ih=>
   intro pre m acc hm hb ha
   cases m with
   | zero=>omega
   | succ m=>
     have hwr:=fj pre ys y (by unfold cc; omega)
     unfold ru
     simp only [vh,vd,ve,vf,vg,vi,qI,ff,eN,eF,if_true,aS,hwr,eD]
     cases h1:decide (y < 0) with
     | true=>simp only [aS,eG,h1,ef,jb,cond_false]
     | false=>
       cases h2:decide (y≥(o.2.1.length:Int)) with
       | true=>simp only [aS,aK,eG,h1,h2,ef,fk,Bh,jb,cond_false]
       | false=>
         have hix:eG o y=true:=by unfold eG; rw [h1,h2]; rfl
         have hy:=oT.1 hix
         have hg:=mj (pt ho hy)
         have hin:(0≤y∧y < (o.2.1.length:Int))=True:=by rw [eq_iff_iff,iff_true]; exact hy
         have hs:o.2.1.getD y.toNat g0=sg o y:=rfl
         have hw:ct 2000 acc (sg o y).1=some (acc++(sg o y).1):=by
          unfold ct
          rw [if_pos (by simp only [eX] at ha; omega)]
         simp only [aK,hin,if_true,hs,hw,al,hix,gk,iY]
         have:=ih (pre++[y]) m (acc++(sg o y).1) (by simpa using hm) (by rw [←ck]; exact hb) (by simp only [cF,eX] at ha ⊢; omega)
         rw [←ck,bE] at this
         exact this
theorem Vt (o:cI) (l:List Int) (ho:oE o=0) (hl:l.length≤1000):dT 2000 o l=some (cond (l.all (eG o)) (iY o l,true) ([],false)):=by
 unfold dT
 have:=ac0 (R:=List UInt8×Bool) (fun a b=>some (a,b)) (fun x=>(dH 2000 x).bind fun r=>some (r,true)) o ho l [] 2000 [] (by omega) (by simpa using hl) (by simp; omega)
 simp only [dG,ei] at this
 simp only [vh,vd,ve,vf,vg,vi,qI]
 refine dN this ?_
 cases l.all (eG o)<;>rfl
theorem adh {R:Type} (k0:Int→Option R) (K:Option R) (o:cI):
  ∀ (ys pre:List Int) (m:Nat),ys.length < m→(pre++ys).length≤cc→
    rz k0 (fun _ _ _=>K) m (pre++ys) o (pre.length:Int)=cond (ys.all (eG o)) K (k0 6):=by
 intro ys
 induction ys with
 | nil=>
   intro pre m hm hb
   cases m with
   | zero=>omega
   | succ m=>
     unfold rz
     simp only [vq,vr,vt,vu,vw,vx,qK,fh,aK,mw,cond_true]
 | cons y ys ih=>
   intro pre m hm hb
   cases m with
   | zero=>omega
   | succ m=>
     have hwr:=fj pre ys y hb
     have hgo:=ih (pre++[y]) m (by simpa using hm) (by rw [←ck]; exact hb)
     rw [←ck] at hgo
     unfold rz
     simp only [vq,vr,vt,vu,vw,vx,qK,ff,eN,eF,if_true,aS,hwr,eD,eG]
     cases h1:decide (y < 0) with
     | true=>simp only [aS,ef,jb,cond_false]
     | false=>
       cases h2:decide (y≥(o.2.1.length:Int)) with
       | true=>simp only [aS,aK,ef,fk,Bh,jb,cond_false]
       | false=>simp only [aK,fk,gk]; exact hgo
theorem v61 (o:cI) (l:List Int) (hl:l.length < 2000):gK 2000 o l=some (cond (l.all (eG o)) 0 6):=by
 unfold gK
 have:=adh (R:=Int) some (some 0) o l [] 2000 hl (by unfold cc; simp; omega)
 simp only [dG,ei] at this
 simp only [vq,vr,vt,vu,vw,vx,qK]
 refine dN this ?_
 cases l.all (eG o)<;>rfl
def lE (o:cI) (l:List Int):Int:=cond (oE o != 0) (oE o) (cond (decide ((l.length:Int) > 16)) 3 (cond (l.all (eG o)) 0 6))
theorem v55 (o:cI) (l:List Int) (hl:l.length≤40):bP 2000 o l=some (lE o l):=by
 unfold bP lE
 simp only [HL,Av,v70,al]
 cases h:oE o != 0 with
 | true=>rfl
 | false=>
   have ho:oE o=0:=by simpa using h
   cases decide ((l.length:Int) > 16) with
   | true=>rfl
   | false=>
     simp only [aK,cond_false,Vt o l ho (by omega),al]
     cases l.all (eG o)<;>rfl
theorem Jk (o:cI) (l:List Int) (hl:l.length≤40):bQ 2000 o l=some (lE o l):=by
 unfold bQ lE
 simp only [HM,Aw,v35,al]
 cases h:oE o != 0 with
 | true=>rfl
 | false=>
   cases decide ((l.length:Int) > 16) with
   | true=>rfl
   | false=>
     simp only [aK,cond_false,v61 o l (by omega),al]
theorem o7 {o:cI} {l:List Int} (h:lE o l=0):oE o=0∧l.length≤16∧l.all (eG o)=true:=by
 unfold lE at h
 cases h1:oE o != 0 with
 | true=>rw [h1,cond_true] at h; rw [h] at h1; cases h1
 | false=>
   have ho:oE o=0:=by simpa using h1
   rw [h1,cond_false] at h
   cases h2:decide ((l.length:Int) > 16) with
   | true=>rw [h2,cond_true] at h; cases h
   | false=>
     rw [h2,cond_false] at h
     have:=of_decide_eq_false h2
     cases h3:l.all (eG o) with
     | false=>rw [h3] at h; cases h
     | true=>exact ⟨ho,by omega,rfl⟩
theorem acZ {R:Type} (K:List UInt8→Option R) (o:cI) (ho:oE o=0):
  ∀ (ys pre:List Int) (m:Nat) (acc:List UInt8),ys.all (eG o)=true→ys.length < m→(pre++ys).length≤1000→acc.length+4 * ys.length≤100000→
    ry (fun _ _ a _=>K a) m (pre++ys) o acc (pre.length:Int)=K (acc++iY o ys):=by
 intro ys
 induction ys with
 | nil=>
   intro pre m acc hi hm hb ha
   cases m with
   | zero=>omega
   | succ m=>
     unfold ry
     simp only [vn,vj,vk,vl,vm,vo,qJ,fh,aK,iY,iq acc]
 | cons y ys ih=>
   intro pre m acc hi hm hb ha
   cases m with
   | zero=>omega
   | succ m=>
     have hwr:=fj pre ys y (by unfold cc; omega)
     simp only [eD,au] at hi
     have hy:=oT.1 hi.1
     have hg:=mj (pt ho hy)
     have hin:(0≤y∧y < (o.2.1.length:Int))=True:=by rw [eq_iff_iff,iff_true]; exact hy
     have hs:o.2.1.getD y.toNat g0=sg o y:=rfl
     have hl:(acc.length+(sg o y).1.length≤140737488355328)=True:=by rw [eq_iff_iff,iff_true]; simp only [eX] at ha; omega
     unfold ry
     simp only [vn,vj,vk,vl,vm,vo,qJ,ff,eN,eF,if_true,aS,hwr,hin,hs,hl,iY]
     have:=ih (pre++[y]) m (acc++(sg o y).1) hi.2 (by simpa using hm) (by rw [←ck]; exact hb) (by simp only [cF,eX] at ha ⊢; omega)
     rw [←ck,bE] at this
     exact this
theorem v58 (o:cI) (l:List Int) (ho:oE o=0) (hl:l.length≤1000) (hi:l.all (eG o)=true):gJ 2000 o l=some (iY o l):=by
 unfold gJ
 have:=acZ (R:=List UInt8) some o ho l [] 2000 [] hi (by omega) (by simpa using hl) (by simp; omega)
 simp only [dG,ei] at this
 simp only [vn,vj,vk,vl,vm,vo,qJ]
 exact this
theorem Uc {R:Type} (K:List cg→Option R) (o:cI) (ho:oE o=0):
  ∀ (ys pre:List Int) (m:Nat) (acc:List cg),ys.all (eG o)=true→ys.length < m→(pre++ys).length≤1000→acc.length+4 * ys.length≤100000→
    rl (fun _ a _ _ _=>K a) m o acc (pre++ys) ((pre++ys).length:Int) (pre.length:Int)=K (acc++ij o ys)∧
    rm (fun _ _ a _=>K a) m (pre++ys) o acc (pre.length:Int)=K (acc++ij o ys):=by
 intro ys
 induction ys with
 | nil=>
   intro pre m acc hi hm hb ha
   cases m with
   | zero=>omega
   | succ m=>
     unfold rl rm
     simp only [uL,uH,uI,uJ,uK,uM,g22,uR,uN,uO,uP,uQ,uS,g23,fh,aK,ij,iq acc]
     exact ⟨trivial,trivial⟩
 | cons y ys ih=>
   intro pre m acc hi hm hb ha
   cases m with
   | zero=>omega
   | succ m=>
     have hwr:=fj pre ys y (by unfold cc; omega)
     simp only [eD,au] at hi
     have hy:=oT.1 hi.1
     have hg:=mj (pt ho hy)
     have hin:(0≤y∧y < (o.2.1.length:Int))=True:=by rw [eq_iff_iff,iff_true]; exact hy
     have hs:o.2.1.getD y.toNat g0=sg o y:=rfl
     have hl:(acc.length+(sg o y).2.1.length≤4398046511104)=True:=by rw [eq_iff_iff,iff_true]; simp only [eX] at ha; omega
     unfold rl rm
     simp only [uL,uH,uI,uJ,uK,uM,g22,uR,uN,uO,uP,uQ,uS,g23,ff,eN,eF,if_true,aS,hwr,hin,hs,hl,ij]
     have:=ih (pre++[y]) m (acc++(sg o y).2.1) hi.2 (by simpa using hm) (by rw [←ck]; exact hb) (by simp only [cF,eX] at ha ⊢; omega)
     rw [←ck,bE] at this
     exact this
theorem v22 (o:cI) (l:List Int) (hl:l.length≤40):gA 2000 o l=some (cond (lE o l != 0) ([],lE o l) (ij o l,0)):=by
 unfold gA
 simp only [uL,uH,uI,uJ,uK,uM,g22,v55 o l hl,al]
 cases h:lE o l != 0 with
 | true=>rfl
 | false=>
   obtain ⟨ho,h16,hi⟩:=o7 (by simpa using h)
   have:=(Uc (R:=List cg×Int) (fun a=>some (a,0)) o ho l [] 2000 [] hi (by omega) (by simp; omega) (by simp; omega)).1
   simp only [dG,ei] at this
   exact this
theorem v23 (o:cI) (l:List Int) (hl:l.length≤40):gB 2000 o l=some (cond (lE o l != 0) ([],lE o l) (ij o l,0)):=by
 unfold gB
 simp only [uR,uN,uO,uP,uQ,uS,g23,Jk o l hl,al]
 cases h:lE o l != 0 with
 | true=>rfl
 | false=>
   obtain ⟨ho,h16,hi⟩:=o7 (by simpa using h)
   have:=(Uc (R:=List cg×Int) (fun a=>some (a,0)) o ho l [] 2000 [] hi (by omega) (by simp; omega) (by simp; omega)).2
   simp only [dG,ei] at this
   exact this
theorem ac3 {R:Type} (K:cI→List Int→Int→Int→List Int→Int→Int→Option R) (o:cI) (a:Int) (i:Int) (L:List Int) (n j:Int):
  ∀ (c d m:Nat) (acc:List Int),c < m→c+d≤1000→acc.length+c≤100000→
    rn (fun y0 y1 y2 y3 y4 y5 y6 _ _=>K y0 y1 y2 y3 y4 y5 y6) m o acc a i L n j ((d+c:Nat):Int) (d:Int)=K o (acc++iv c a) a i L n j:=by
 intro c
 induction c with
 | zero=>
   intro d m acc hm hb ha
   cases m with
   | zero=>omega
   | succ m=>
     have e:decide ((d:Int) < ((d+0:Nat):Int))=false:=decide_eq_false (by omega)
     unfold rn
     simp only [n8,nV,nY,nW,oc,od,oe,oi,nX,nZ,n0,n7,n9,g24,e,aK,List.replicate_zero,iq]
 | succ c ih=>
   intro d m acc hm hb ha
   cases m with
   | zero=>omega
   | succ m=>
     have e:decide ((d:Int) < ((d+(c+1):Nat):Int))=true:=decide_eq_true (by omega)
     have hl:(acc.length+[a].length≤17592186044416)=True:=by rw [eq_iff_iff,iff_true]; simp only [nj]; omega
     have hw:IntKind.i64.wrap ((d:Int)+1)=((d+1:Nat):Int):=by rw [jm (by omega)]; simp
     unfold rn
     simp only [n8,nV,nY,nW,oc,od,oe,oi,nX,nZ,n0,n7,n9,g24,e,aS,hl,if_true,hw]
     have:=ih (d+1) m (acc++[a]) (by omega) (by omega) (by simp; omega)
     rw [show d+1+c=d+(c+1) by omega,bE] at this
     rw [this]
     rfl
theorem ac4 {R:Type} (K:List Int→cI→List Int→Int→Int→dI→Option R) (o:cI) (a:Int) (L:List Int) (j:Int) (t:List UInt8) (r:Int×(Int×Unit)):
  ∀ (ys pre:List cg) (m:Nat) (acc:List Int),ys.length < m→(pre++ys).length≤1000→acc.length+ys.length≤100000→
    rp (fun y0 y1 y2 y3 y4 y5 _=>K y0 y1 y2 y3 y4 y5) m L o acc a j (t,(pre++ys,r)) (pre.length:Int)=K L o (acc++iv ys.length a) a j (t,(pre++ys,r)):=by
 intro ys
 induction ys with
 | nil=>
   intro pre m acc hm hb ha
   cases m with
   | zero=>omega
   | succ m=>
     unfold rp
     simp only [oy,oj,ou,om,oA,oB,oC,oD,ot,ov,ow,ox,oz,mO,fh,aK,ei,List.replicate_zero,iq acc]
 | cons y ys ih=>
   intro pre m acc hm hb ha
   cases m with
   | zero=>omega
   | succ m=>
     have hwr:=fj pre ys y (by unfold cc; omega)
     have hl:(acc.length+[a].length≤17592186044416)=True:=by rw [eq_iff_iff,iff_true]; simp only [nj]; omega
     unfold rp
     simp only [oy,oj,ou,om,oA,oB,oC,oD,ot,ov,ow,ox,oz,mO,ff,aS,hl,if_true,hwr]
     have:=ih (pre++[y]) m (acc++[a]) (by simpa using hm) (by rw [←ck]; exact hb) (by simp only [cF,eX,ei] at ha ⊢; omega)
     rw [←ck,bE] at this
     rw [this]
     rfl
theorem ac5 {R:Type} (K:List Int→Option R) (o:cI) (ho:oE o=0):
  ∀ (ys pre:List Int) (m:Nat) (acc:List Int) (a:Int),ys.all (eG o)=true→ys.length < m→(pre++ys).length≤1000→acc.length+4 * ys.length≤100000→0≤a→a+4 * ys.length≤100000→
    oY 2000 (fun _ a _ _ _ _=>K a) m o acc a (pre++ys) ((pre++ys).length:Int) (pre.length:Int)=K (acc++iS o a ys):=by
 intro ys
 induction ys with
 | nil=>
   intro pre m acc a hi hm hb ha h0 h1
   cases m with
   | zero=>omega
   | succ m=>
     unfold oY
     simp only [n8,nV,nY,nW,oc,od,oe,oi,nX,nZ,n0,n7,n9,g24,fh,aK,iS,iq acc]
 | cons y ys ih=>
   intro pre m acc a hi hm hb ha h0 h1
   cases m with
   | zero=>omega
   | succ m=>
     have hwr:=fj pre ys y (by unfold cc; omega)
     simp only [eD,au] at hi
     have hy:=oT.1 hi.1
     have hg:=mj (pt ho hy)
     have hin:(0≤y∧y < (o.2.1.length:Int))=True:=by rw [eq_iff_iff,iff_true]; exact hy
     have hs:o.2.1.getD y.toNat g0=sg o y:=rfl
     simp only [eX] at ha h1
     have hw:IntKind.i64.wrap (a+((sg o y).1.length:Int))=a+((sg o y).1.length:Int):=jm (by omega)
     have hI:=ac3 (R:=R) (fun y0 y1 y2 y3 y4 y5 y6=>if 0≤y3∧y3 < (y0.2.1.length:Int) then oY 2000 (fun _ a _ _ _ _=>K a) m y0 y1 (IntKind.i64.wrap (y2+(((y0.2.1.getD y3.toNat g0).1).length:Int))) y4 y5 (IntKind.i64.wrap (y6+(1:Int))) else none) o a y (pre++y::ys) ((pre++y::ys).length:Int) (pre.length:Int) (sg o y).2.1.length 0 2000 acc (by omega) (by omega) (by omega)
     simp only [Nat.zero_add] at hI
     have z:((0:Nat):Int)=0:=rfl
     rw [z] at hI
     unfold oY
     simp only [n8,nV,nY,nW,oc,od,oe,oi,nX,nZ,n0,n7,n9,g24,ff,eN,eF,if_true,aS,hin,hs]
     refine dN hI ?_
     simp only [hin,if_true,hs,hw,hwr,iS]
     have:=ih (pre++[y]) m (acc++iv (sg o y).2.1.length a) (a+((sg o y).1.length:Int)) hi.2 (by simpa using hm) (by rw [←ck]; exact hb) (by simp only [cF,Bs]; omega) (by omega) (by omega)
     rw [←ck,bE] at this
     exact this
theorem ac6 {R:Type} (K:List Int→Option R) (o:cI) (ho:oE o=0):
  ∀ (ys pre:List Int) (m:Nat) (acc:List Int) (a:Int),ys.all (eG o)=true→ys.length < m→(pre++ys).length≤1000→acc.length+4 * ys.length≤100000→0≤a→a+4 * ys.length≤100000→
    oZ 2000 (fun _ _ a _ _=>K a) m (pre++ys) o acc a (pre.length:Int)=K (acc++iS o a ys):=by
 intro ys
 induction ys with
 | nil=>
   intro pre m acc a hi hm hb ha h0 h1
   cases m with
   | zero=>omega
   | succ m=>
     unfold oZ
     simp only [oy,oj,ou,om,oA,oB,oC,oD,ot,ov,ow,ox,oz,mO,fh,aK,iS,iq acc]
 | cons y ys ih=>
   intro pre m acc a hi hm hb ha h0 h1
   cases m with
   | zero=>omega
   | succ m=>
     have hwr:=fj pre ys y (by unfold cc; omega)
     simp only [eD,au] at hi
     have hy:=oT.1 hi.1
     have hg:=mj (pt ho hy)
     have hin:(0≤y∧y < (o.2.1.length:Int))=True:=by rw [eq_iff_iff,iff_true]; exact hy
     have hs:o.2.1.getD y.toNat g0=sg o y:=rfl
     simp only [eX] at ha h1
     have hw:IntKind.i64.wrap (a+((sg o y).1.length:Int))=a+((sg o y).1.length:Int):=jm (by omega)
     have hI:=ac4 (R:=R) (fun y0 y1 y2 y3 y4 y5=>oZ 2000 (fun _ _ a _ _=>K a) m y0 y1 y2 (IntKind.i64.wrap (y3+(y5.1.length:Int))) (IntKind.i64.wrap (y4+(1:Int)))) o a (pre++y::ys) (pre.length:Int) (sg o y).1 (sg o y).2.2 (sg o y).2.1 [] 2000 acc (by omega) (by simp; omega) (by omega)
     simp only [dG,ei] at hI
     have z:((0:Nat):Int)=0:=rfl
     rw [z] at hI
     unfold oZ
     simp only [oy,oj,ou,om,oA,oB,oC,oD,ot,ov,ow,ox,oz,mO,ff,eN,eF,if_true,aS,hin,hs]
     refine dN hI ?_
     simp only [hw,hwr,iS]
     have:=ih (pre++[y]) m (acc++iv (sg o y).2.1.length a) (a+((sg o y).1.length:Int)) hi.2 (by simpa using hm) (by rw [←ck]; exact hb) (by simp only [cF,Bs]; omega) (by omega) (by omega)
     rw [←ck,bE] at this
     exact this
theorem v24 (o:cI) (l:List Int) (hl:l.length≤40):dQ 2000 o l=some (cond (lE o l != 0) ([],lE o l) (iS o 0 l,0)):=by
 unfold dQ
 simp only [n8,nV,nY,nW,oc,od,oe,oi,nX,nZ,n0,n7,n9,g24,v55 o l hl,al]
 cases h:lE o l != 0 with
 | true=>rfl
 | false=>
   obtain ⟨ho,h16,hi⟩:=o7 (by simpa using h)
   have:=ac5 (R:=List Int×Int) (fun a=>some (a,0)) o ho l [] 2000 [] 0 hi (by omega) (by simp; omega) (by simp; omega) (by omega) (by omega)
   simp only [dG,ei] at this
   exact this
theorem v25 (o:cI) (l:List Int) (hl:l.length≤40):gC 2000 o l=some (cond (lE o l != 0) ([],lE o l) (iS o 0 l,0)):=by
 unfold gC
 simp only [oy,oj,ou,om,oA,oB,oC,oD,ot,ov,ow,ox,oz,mO,Jk o l hl,al]
 cases h:lE o l != 0 with
 | true=>rfl
 | false=>
   obtain ⟨ho,h16,hi⟩:=o7 (by simpa using h)
   have:=ac6 (R:=List Int×Int) (fun a=>some (a,0)) o ho l [] 2000 [] 0 hi (by omega) (by simp; omega) (by simp; omega) (by omega) (by omega)
   simp only [dG,ei] at this
   exact this
theorem v26 (o:cI) (l:List Int) (hl:l.length≤40):gD 2000 o l=some (cond (lE o l != 0) ([],lE o l) (iY o l,0)):=by
 unfold gD
 simp only [Hy,Ar,v55 o l hl,al]
 cases h:lE o l != 0 with
 | true=>rfl
 | false=>
   obtain ⟨ho,h16,hi⟩:=o7 (by simpa using h)
   simp only [aK,Vt o l ho (by omega),al,hi,cond_true,cond_false]
theorem Bf (o:cI) (l:List Int) (hl:l.length≤40):gF 2000 o l=some (cond (lE o l != 0) ([],lE o l) (iY o l,0)):=by
 unfold gF
 simp only [Hz,As,Jk o l hl,al]
 cases h:lE o l != 0 with
 | true=>rfl
 | false=>
   obtain ⟨ho,h16,hi⟩:=o7 (by simpa using h)
   simp only [aK,v58 o l ho (by omega) hi,al,cond_false]
theorem acN {R:Type} (k0:Bool→Option R) (K:Option R):
  ∀ (ys pre zs pre2:List Int) (m:Nat),ys.length < m→(pre++ys).length≤cc→pre.length=pre2.length→ys.length=zs.length→
    rj k0 (fun _ _ _ _=>K) m (pre++ys) (pre2++zs) ((pre++ys).length:Int) (pre.length:Int)=ae (ys==zs) K (k0 false):=by
 intro ys
 induction ys with
 | nil=>
   intro pre zs pre2 m hm hb hp hz
   have:zs=[]:=ni.1 hz.symm
   subst this
   cases m with
   | zero=>omega
   | succ m=>
     unfold rj
     simp only [uz,uv,uw,ux,uy,uA,g15,fh,aK]
     rfl
 | cons y ys ih=>
   intro pre zs pre2 m hm hb hp hz
   obtain ⟨z,zs,rfl⟩:∃ z zs',zs=z::zs':=by
    cases zs with
    | nil=>simp at hz
    | cons z zs=>exact ⟨z,zs,rfl⟩
   cases m with
   | zero=>omega
   | succ m=>
     have hwr:=fj pre ys y hb
     have i2:(0≤(pre.length:Int)∧(pre.length:Int) < ((pre2++z::zs).length:Int))=True:=by rw [hp]; exact eN _ _ _
     have a2:(pre2++z::zs).getD (jt (pre.length:Int)) (0:Int)=z:=by rw [hp]; exact eF _ _ _ _
     have e:((y::ys)==(z::zs))=(y==z&&ys==zs):=rfl
     unfold rj
     simp only [uz,uv,uw,ux,uy,uA,g15,ff,eN,eF,if_true,aS,hwr,i2,a2,e]
     cases h:y==z with
     | false=>
       have:(y != z)=true:=by unfold bne; rw [h]; rfl
       simp only [this,aS,jb,aK]
     | true=>
       have:(y != z)=false:=by unfold bne; rw [h]; rfl
       simp only [this,aK,gk]
       rw [ck pre ys y,ck pre2 zs z]
       exact ih (pre++[y]) zs (pre2++[z]) m (by simpa using hm) (by rw [←ck]; exact hb) (by simp [hp]) (by simpa using hz)
theorem Vs (a b:List Int) (h:a.length < 2000):dO 2000 a b=some (a==b):=by
 unfold dO
 simp only [uz,uv,uw,ux,uy,uA,g15]
 by_cases hl:a.length=b.length
 ·have e:((a.length:Int) != (b.length:Int))=false:=by simp [hl]
  have:=acN (R:=Bool) some (some true) a [] b [] 2000 h (by unfold cc; simp; omega) rfl hl
  simp only [dG,ei] at this
  simp only [e,aK]
  refine dN this ?_
  cases a==b<;>rfl
 ·have e:((a.length:Int) != (b.length:Int))=true:=bne_iff_ne.2 (by omega)
  simp only [e,aS]
  have:(a==b)=false:=beq_eq_false_iff_ne.2 fun e=>hl (congrArg lQ e)
  rw [this]
theorem Ul {o:cI} (h:oE o=0):∀ {l:List Int} {a:Int},l.all (eG o)=true→(iS o a l).length=(ij o l).length
 | [],_,_=>rfl
 | i::r,a,hl=>by
   simp only [eD,au] at hl
   simp only [iS,ij,cF,Bs,Ul h hl.2]
def rI:List UInt8×(List (List UInt8×(List (Int×(Int×(List UInt8×Unit)))×(Int×(Int×Unit))))×Unit):=([108,97,116,105,110],([([97],([(1,(3,([97],())))],(1,(0,())))),([101],([(1,(3,([101],())))],(1,(0,())))),([105],([(1,(3,([105],())))],(1,(0,())))),([111],([(1,(3,([111],())))],(1,(0,())))),([117],([(1,(3,([117],())))],(1,(0,())))),([121],([(1,(3,([121],())))],(1,(0,())))),([97,95],([(1,(2,([97,95],())))],(1,(0,())))),([101,95],([(1,(2,([101,95],())))],(1,(0,())))),([105,95],([(1,(2,([105,95],())))],(1,(0,())))),([111,95],([(1,(2,([111,95],())))],(1,(0,())))),([117,95],([(1,(2,([117,95],())))],(1,(0,())))),([121,95],([(1,(2,([121,95],())))],(1,(0,())))),([97,94],([(1,(1,([97,94],())))],(1,(0,())))),([101,94],([(1,(1,([101,94],())))],(1,(0,())))),([105,94],([(1,(1,([105,94],())))],(1,(0,())))),([111,94],([(1,(1,([111,94],())))],(1,(0,())))),([117,94],([(1,(1,([117,94],())))],(1,(0,())))),([121,94],([(1,(1,([121,94],())))],(1,(0,())))),([97,101],([(2,(2,([97,101],())))],(1,(0,())))),([97,117],([(2,(2,([97,117],())))],(1,(0,())))),([111,101],([(2,(2,([111,101],())))],(1,(0,())))),([101,117],([(2,(2,([101,117],())))],(3,(0,())))),([105],([(8,(0,([105],())))],(0,(2,())))),([105],([(8,(0,([105],()))),(8,(0,([105],())))],(0,(3,())))),([117],([(8,(0,([117],())))],(0,(2,())))),([117],([(8,(0,([117],())))],(0,(3,())))),([106],([(8,(0,([106],())))],(0,(0,())))),([118],([(8,(0,([118],())))],(0,(0,())))),([113,117],([(3,(0,([113,117],())))],(0,(1,())))),([103,117],([(3,(0,([103,117],())))],(2,(1,())))),([115,117],([(6,(0,([115],()))),(8,(0,([117],())))],(3,(1,())))),([98],([(3,(0,([98],())))],(0,(0,())))),([99],([(3,(0,([99],())))],(0,(0,())))),([100],([(3,(0,([100],())))],(0,(0,())))),([102],([(3,(0,([102],())))],(0,(0,())))),([103],([(3,(0,([103],())))],(0,(0,())))),([107],([(3,(0,([107],())))],(0,(0,())))),([112],([(3,(0,([112],())))],(0,(0,())))),([116],([(3,(0,([116],())))],(0,(0,())))),([108],([(4,(0,([108],())))],(0,(0,())))),([114],([(4,(0,([114],())))],(0,(0,())))),([109],([(5,(0,([109],())))],(0,(0,())))),([110],([(5,(0,([110],())))],(0,(0,())))),([115],([(6,(0,([115],())))],(0,(0,())))),([120],([(7,(0,([120],())))],(0,(0,())))),([122],([(7,(0,([122],())))],(0,(0,())))),([104],([(9,(0,([104],())))],(0,(0,()))))],()))
theorem acC:gI 2000=some rI:=by kernel_rfl
theorem VP:dP 2000 rI [97,114,109,97]=some ([[0,40,41,0]],0):=by kernel_rfl
theorem VQ:dP 2000 rI [116,114,111,105,97,101]=some ([[38,40,3,23,18],[38,40,3,2,18],[38,40,3,23,0,1],[38,40,3,2,0,1]],0):=by kernel_rfl
theorem VR:gY 2000 rI [105,97,109]=some ([22,0,41],1,0):=by kernel_rfl
theorem VS:dQ 2000 rI [38,40,3,23,18]=some ([0,1,2,3,3,4],0):=by kernel_rfl
theorem VT:hP 2000 rI [97,114,109,113]=some (3,0):=by kernel_rfl
theorem v11:fL 2000=some true:=by
 unfold fL
 simp only [Ha,g11,acC,al]
 rw [VP,VQ,VR,VS,VT]
 kernel_rfl
theorem aef (o:cI) (l:List Int):S7 2000 o l=some true:=by
 unfold S7
 obtain ⟨b,hb,hs⟩:=v12 o [] l
 simp only [HS,g7,v11,hb,al,ef,aK]
 cases b with
 | false=>simp only [fk,aS]
 | true=>
   have hl:=(hs rfl).2
   simp only [ef,aK,v22 o l hl,v23 o l hl,v24 o l hl,v25 o l hl,v26 o l hl,Bf o l hl,al]
   cases h:lE o l != 0 with
   | true=>
     simp only [cond_true,beq_self_eq_true,aS]
     rw [v28 [] [] (by simp)]
     simp only [al]
     rw [Vs [] [] (by simp)]
     rfl
   | false=>
     obtain ⟨ho,h16,hi⟩:=o7 (by simpa using h)
     have h1:=Vb ho hi
     have h2:(iS o 0 l).length=(ij o l).length:=Ul ho hi
     simp only [cond_false,beq_self_eq_true,aS,v28 (ij o l) (ij o l) (by omega),Vs (iS o 0 l) (iS o 0 l) (by omega),al,wz.2]
end Go.Fw.L19
