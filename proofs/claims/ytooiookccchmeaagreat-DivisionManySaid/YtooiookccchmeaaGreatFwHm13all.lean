/- Own work. -/
import Derived.Test.YtooiookccchmeaaGreatFwMm13
import Derived.Test.YtooiookccchmeaaGreatFwB6
import Derived.Test.YtooiookccchmeaaGreatFwB7
set_option linter.unusedVariables false
set_option linter.unusedSimpArgs false
open Bool renaming not_true → eU, not_false → gr, and_eq_true → aq, true_or → sB, false_or → lT, or_eq_true → mE, false_eq_true → dN, and_true → ib, eq_iff_iff → sA, true_and → fr, false_and → jB, not_eq_true' → dc, and_false → Jd
open Eq renaming trans → dO
open Int renaming toNat → gF, lt_trichotomy → Jf
open List renaming length_pos_iff → BL, range → sJ, all_eq_true → eK, mem_range → sH, map_cons → fQ, append_assoc → bI, length_append → b5, length_cons → eD, length_map → mG, length_nil → ep, nil_append → dP, any_nil → xg, any_cons → nJ, length_eq_zero_iff → lU, length → kr, all_cons → dy, all_nil → mF, length_singleton → iO, mem_append → dn, mem_singleton → fS, mem_cons_of_mem → eL, eq_nil_or_concat → Jl, concat_eq_append → Jj, all_eq_false → Ji, mem_map → c4, mem_cons → cD, replicate → gG, append_nil → jn, length_replicate → Jo, length_drop → nK, flatMap_cons → xj, mem_flatMap → BN, pairwise_cons → sI, mem_cons_self → nM, drop_drop → xi, drop_left → BD
open List.cons renaming injEq → gg
open Nat renaming zero_add → kA
open Option renaming bind_some → ar
open Prod.mk renaming injEq → er
open UInt8 renaming ofNat → l6
namespace Go.Fw.L19
open Go Go.Fw
set_option maxRecDepth 100000
abbrev Ts:Type:=Int×(Int×(List (List UInt8)×Unit))
abbrev Lic:Type:=List UInt8×(List Ts×Unit)
def sm (c:Int):Bool:=decide (c≥97)&&decide (c≤122)
def dg (c:Int):Bool:=decide (c≥48)&&decide (c≤57)
theorem Tc (c:Int):cF 2000 c=some (sm c):=by
 unfold cF sm
 simp only [Hd,Ay]
 cases decide (c≥97)<;>rfl
theorem I1 (c:Int):cw 2000 c=some (sm c):=by
 unfold cw sm
 simp only [G3,Am]
 cases decide (c≥97)<;>rfl
theorem am2 (c:Int):c9 2000 c=some (dg c):=by
 unfold c9 dg
 simp only [He,Az]
 cases decide (c≥48)<;>rfl
theorem Tb (c:Int):bt 2000 c=some (dg c):=by
 unfold bt dg
 simp only [G4,Ao]
 cases decide (c≥48)<;>rfl
theorem aaF (s:List UInt8) (hs:s.length≤bV) {R:Type} (k:Int→Option R):
  ∀ (m:Nat) (i:Int),0≤i→i≤s.length+1→wD (cF 2000) (c9 2000) k (fun _ i=>k i) m s i=oZ (cw 2000) (bt 2000) (fun _ i=>k i) m s i:=by
 intro m
 induction m with
 | zero=>intro i _ _; rfl
 | succ m ih=>
   intro i h0 h1
   unfold wD oZ
   simp only [Au,Aq,Ar,As,Av,uB,tM,tJ,tK,tL,tN,qA,Tc,am2,I1,Tb,ar]
   by_cases hi:i < (s.length:Int)
   ·have d:decide (i < (s.length:Int))=true:=decide_eq_true hi
    have hb:0≤i∧i < (s.length:Int):=⟨h0,hi⟩
    have w1:IntKind.i64.wrap (i+1)=i+1:=gd (by unfold bV at hs; omega)
    have w2:IntKind.i64.wrap (i+2)=i+2:=gd (by unfold bV at hs; omega)
    simp only [d,aR,if_pos hb,w1,w2]
    generalize hc:((s.getD i.toNat 0).toNat:Int)=c
    cases h3:sm c with
    | true=>simp only [aR]; exact ih (i+1) (by omega) (by omega)
    | false=>
      simp only [aH]
      cases h4:dg c with
      | true=>simp only [aR]; exact ih (i+1) (by omega) (by omega)
      | false=>
        simp only [aH]
        by_cases h5:c=45
        ·have e1:(c==(45:Int))=true:=by simpa using h5
         have e2:(c != (45:Int))=false:=by simp [h5]
         simp only [e1,e2,aR,aH]
         by_cases h6:i+1 < (s.length:Int)
         ·have e3:decide (i+1 < (s.length:Int))=true:=decide_eq_true h6
          have e4:((i+1)==(s.length:Int))=false:=by
           simp only [beq_eq_false_iff_ne,ne_eq]; omega
          have hb2:0≤i+1∧i+1 < (s.length:Int):=by omega
          simp only [e3,e4,aR,aH,if_pos hb2]
          generalize ((s.getD (i+1).toNat 0).toNat:Int)=c2
          cases h7:sm c2 with
          | true=>simp only [aR,eU,aH]; exact ih (i+2) (by omega) (by omega)
          | false=>
            simp only [aH,gr,aR]
            cases h8:dg c2 with
            | true=>simp only [aR,eU,aH]; exact ih (i+2) (by omega) (by omega)
            | false=>simp only [aH,gr,aR]
         ·have e3:decide (i+1 < (s.length:Int))=false:=decide_eq_false h6
          have e4:((i+1)==(s.length:Int))=true:=by
           simp only [beq_iff_eq]; omega
          simp only [e3,e4,aR,aH]
        ·have e1:(c==(45:Int))=false:=by simpa using h5
         have e2:(c != (45:Int))=true:=by simpa using h5
         simp only [e1,e2,aR,aH]
   ·have d:decide (i < (s.length:Int))=false:=decide_eq_false hi
    simp only [d,aH]
theorem aaG (s:List UInt8) (hs:s.length≤bV):
  ∀ (m:Nat) (i:Int),0≤i→i≤s.length+1→(s.length:Int)+1 - i < m→∃ n,oZ (cw 2000) (bt 2000) (fun _ i=>some i) m s i=some n:=by
 intro m
 induction m with
 | zero=>intro i h0 h1 h2; omega
 | succ m ih=>
   intro i h0 h1 h2
   unfold oZ
   simp only [tM,tJ,tK,tL,tN,qA,I1,Tb,ar]
   by_cases hi:i < (s.length:Int)
   ·have d:decide (i < (s.length:Int))=true:=decide_eq_true hi
    have hb:0≤i∧i < (s.length:Int):=⟨h0,hi⟩
    have w1:IntKind.i64.wrap (i+1)=i+1:=gd (by unfold bV at hs; omega)
    have w2:IntKind.i64.wrap (i+2)=i+2:=gd (by unfold bV at hs; omega)
    simp only [d,aR,if_pos hb,w1,w2]
    generalize hc:((s.getD i.toNat 0).toNat:Int)=c
    cases h3:sm c with
    | true=>simp only [aR]; exact ih (i+1) (by omega) (by omega) (by omega)
    | false=>
      simp only [aH]
      cases h4:dg c with
      | true=>simp only [aR]; exact ih (i+1) (by omega) (by omega) (by omega)
      | false=>
        simp only [aH]
        cases e2:(c != (45:Int)) with
        | true=>exact ⟨i,by simp only [aR]⟩
        | false=>
          simp only [aH]
          by_cases h6:i+1 < (s.length:Int)
          ·have e4:((i+1)==(s.length:Int))=false:=by
            simp only [beq_eq_false_iff_ne,ne_eq]; omega
           have hb2:0≤i+1∧i+1 < (s.length:Int):=by omega
           simp only [e4,aH,if_pos hb2]
           generalize ((s.getD (i+1).toNat 0).toNat:Int)=c2
           cases h7:sm c2 with
           | true=>simp only [eU,aH]; exact ih (i+2) (by omega) (by omega) (by omega)
           | false=>
             simp only [gr,aR]
             cases h8:dg c2 with
             | true=>simp only [eU,aH]; exact ih (i+2) (by omega) (by omega) (by omega)
             | false=>exact ⟨i,by simp only [gr,aR]⟩
          ·have e4:((i+1)==(s.length:Int))=true:=by
            simp only [beq_iff_eq]; omega
           exact ⟨i,by simp only [e4,aR]⟩
   ·have d:decide (i < (s.length:Int))=false:=decide_eq_false hi
    exact ⟨i,by simp only [d,aH]⟩
theorem v141 (s:List UInt8) (hs:s.length < 1900):∃ n,gJ 2000 s=some n∧gH 2000 s=some n:=by
 have hb:s.length≤bV:=by unfold bV; omega
 have e1:=aaF s hb (R:=Int) some 2000 1 (by omega) (by omega)
 obtain ⟨n,e2⟩:=aaG s hb 2000 1 (by omega) (by omega) (by omega)
 unfold gJ gH
 simp only [Au,Aq,Ar,As,Av,uB,tM,tJ,tK,tL,tN,qA,Tc,I1,ar]
 cases h0:(s==([]:List UInt8)) with
 | true=>exact ⟨0,by simp only [aR],by simp only [aR]⟩
 | false=>
   have hne:s≠[]:=by simpa using h0
   have hp:0 < s.length:=BL.2 hne
   have hb0:(0:Int)≤0∧(0:Int) < (s.length:Int):=by omega
   simp only [aH,if_pos hb0]
   cases sm ((s.getD (0:Int).toNat 0).toNat:Int) with
   | false=>exact ⟨0,by simp only [gr,aR],by simp only [gr,aR]⟩
   | true=>
     refine ⟨n,?_,?_⟩
     ·simp only [eU,aH]
      rw [e2] at e1; exact e1
     ·simp only [eU,aH]
      exact e2
theorem amV (s:List UInt8):∃ b,eW 2000 s=some b∧eR 2000 s=some b:=by
 unfold eW eR
 simp only [GW,Aj,HH,AP]
 cases h0:(s != ([]:List UInt8)) with
 | false=>exact ⟨false,by simp only [aH],by simp only [aH]⟩
 | true=>
   simp only [aR]
   by_cases h1:(s.length:Int)≤20
   ·obtain ⟨n,e1,e2⟩:=v141 s (by omega)
    have d:decide ((s.length:Int)≤20)=true:=decide_eq_true h1
    exact ⟨n==(s.length:Int),by simp only [d,aR,e1,ar],by simp only [d,aR,e2,ar]⟩
   ·have d:decide ((s.length:Int)≤20)=false:=decide_eq_false h1
    exact ⟨false,by simp only [d,aH],by simp only [d,aH]⟩
def dh (c:Int):Bool:=match c5 2000 c with | some b=>b | none=>false
theorem aaw:((sJ 256).all fun n=>bT 2000 (n:Int)==some (dh (n:Int))&&c5 2000 (n:Int)==some (dh (n:Int)))=true:=by kernel_rfl
theorem I3 (b:UInt8):bT 2000 (b.toNat:Int)=some (dh (b.toNat:Int))∧c5 2000 (b.toNat:Int)=some (dh (b.toNat:Int)):=by
 have:=eK.1 aaw b.toNat (sH.2 b.toNat_lt)
 simp only [aq,beq_iff_eq] at this
 exact this
def fl (b:UInt8):UInt8:=if 65≤b.toNat∧b.toNat≤90 then l6 (b.toNat+32) else b
def fold (s:List UInt8):List UInt8:=s.map fl
theorem Uw (b:UInt8) (h:65≤b.toNat∧b.toNat≤90):IntKind.u8.wrap (IntKind.u8.wrap ((b.toNat:Int) - 65)+97)=((fl b).toNat:Int):=by
 have e:(fl b).toNat=b.toNat+32:=by
  unfold fl; rw [if_pos h]
  simp [UInt8.toNat_ofNat]
  omega
 rw [e]
 have w:∀ n:Int,0≤n→n≤255→IntKind.u8.wrap n=n:=by
  intro n h0 h1
  simp only [IntKind.wrap,IntKind.signed,IntKind.bits]
  simp
  omega
 rw [w ((b.toNat:Int) - 65) (by omega) (by omega),w ((b.toNat:Int) - 65+97) (by omega) (by omega)]
 omega
theorem TX (s:List UInt8):(s.map fun b=>(b.toNat:Int)).map (fun n=>l6 n.toNat)=s:=by
 rw [List.map_map]
 conv=>rhs; rw [←List.map_id s]
 apply List.map_congr_left
 intro b _
 simp
theorem agr {α:Type} (pre ys:List α) (y z:α):(pre++y::ys).set (gF (pre.length:Int)) z=pre++z::ys:=by simp
theorem r6 {α:Type} (pre ys:List α) (y:α):(gF (pre.length:Int) < (pre++y::ys).length)=True:=by simp
theorem aaA {R:Type} (k0:List Int→Int→Int→Option R):
  ∀ (ys:List UInt8) (pre:List Int) (m:Nat),ys.length < m→(pre++ys.map fun b=>(b.toNat:Int)).length≤bV→
    rU k0 m (pre++ys.map fun b=>(b.toNat:Int)) ((pre++ys.map fun b=>(b.toNat:Int)).length:Int) (pre.length:Int)=k0 (pre++(fold ys).map fun b=>(b.toNat:Int)) ((pre++ys.map fun b=>(b.toNat:Int)).length:Int) ((pre++ys.map fun b=>(b.toNat:Int)).length:Int):=by
 intro ys
 induction ys with
 | nil=>
   intro pre m hm hb
   cases m with
   | zero=>simp at hm
   | succ m=>
     unfold rU
     simp only [vT,vP,vQ,vR,vS,vU,rq,List.map_nil,fo,aH]
     simp [fold]
 | cons y ys ih=>
   intro pre m hm hb
   cases m with
   | zero=>simp at hm
   | succ m=>
     rw [fQ] at hb ⊢
     unfold rU
     simp only [vT,vP,vQ,vR,vS,vU,rq,fb,eu,dY,if_true,aR,r6,agr,fq pre _ _ hb]
     by_cases h1:65≤y.toNat∧y.toNat≤90
     ·have d1:decide ((y.toNat:Int)≥65)=true:=decide_eq_true (by omega)
      have d2:decide ((y.toNat:Int)≤90)=true:=decide_eq_true (by omega)
      simp only [d1,d2,aR,Uw y h1]
      have:=ih (pre++[((fl y).toNat:Int)]) m (by simpa using hm) (by simpa using hb)
      simp only [bI,List.singleton_append,b5,eD,mG,ep] at this ⊢
      simp only [fold,fQ] at this ⊢
      exact this
     ·have hf:fl y=y:=by unfold fl; rw [if_neg h1]
      have step:=ih (pre++[(y.toNat:Int)]) m (by simpa using hm) (by simpa using hb)
      simp only [bI,List.singleton_append,b5,eD,mG,ep] at step ⊢
      simp only [fold,fQ,hf] at step ⊢
      by_cases h2:65≤y.toNat
      ·have d1:decide ((y.toNat:Int)≥65)=true:=decide_eq_true (by omega)
       have d2:decide ((y.toNat:Int)≤90)=false:=decide_eq_false (by omega)
       simp only [d1,d2,aR,aH]
       exact step
      ·have d1:decide ((y.toNat:Int)≥65)=false:=decide_eq_false (by omega)
       simp only [d1,aH]
       exact step
theorem v72 (s:List UInt8) (hs:s.length < 2000):dX 2000 s=some (fold s):=by
 unfold dX
 have:=aaA (R:=List UInt8) (fun x _ _=>some (x.map fun n=>l6 n.toNat)) s [] 2000 hs (by unfold bV; simp; omega)
 simp only [vT,vP,vQ,vR,vS,vU,rq]
 simp only [dP,ep,TX] at this
 exact this
abbrev bQ:Type:=Int×(Int×(List UInt8×Unit))
abbrev s0:bQ:=((0:Int),((0:Int),([],())))
def gn (s:bQ):Bool:=s.1==1 || s.1==2
theorem v87 (s:bQ):cQ 2000 s=some (gn s):=by
 unfold cQ
 simp only [HG,rz,gn]
 cases h:(s.1==(1:Int))<;>simp only [aR,aH,sB,lT]
theorem aog (s:bQ):fe 2000 s=some (gn s):=by
 unfold fe
 simp only [GQ,Ai,gn]
 cases h:(s.1==(1:Int))<;>simp only [aR,aH,sB,lT]
def anW (l:List bQ):Int:=
 if 0 < l.length∧gn (l.getD (l.length - 1) s0)=true then 1
 else if 1 < l.length∧gn (l.getD (l.length - 2) s0)=true∧(l.getD (l.length - 1) s0).1=5∧(l.getD (l.length - 1) s0).2.2.1=[109] then 2
 else 0
theorem aoi {n k:Nat} (h:k≤n) (hb:n≤bV):IntKind.i64.wrap ((n:Int) - (k:Int))=((n - k:Nat):Int):=by
 rw [gd]
 ·omega
 ·unfold bV at hb; omega
def nb (s:bQ):Bool:=s.1 != 9
def ja (p:bQ→Bool):List bQ→Nat→Int
 | [],_=> -1
 | y::ys,i=>if p y then (i:Int) else ja p ys (i+1)
def an3 (l:List bQ):Int:=if ja nb l 0 < 0 then (l.length:Int) else ja nb l 0
def sU:List bQ→Nat→Int
 | [],_=> -1
 | y::ys,i=>if gn y then (i:Int) else if nb y then -1 else sU ys (i+1)
def anI (l:List bQ):Bool:=decide (0≤sU l 0)
theorem OD (p:bQ→Bool):∀ (l:List bQ) (i:Nat),ja p l i= -1∨((i:Int)≤ja p l i∧ja p l i < (i:Int)+l.length)
 | [],i=>.inl rfl
 | y::ys,i=>by
   simp only [ja]
   split
   ·right; simp; omega
   ·rcases OD p ys (i+1) with h | h
    ·exact .inl h
    ·right; simp only [eD]; omega
theorem abU {s:bQ} (h:gn s=true):nb s=true:=by
 unfold gn at h; unfold nb
 simp only [mE,beq_iff_eq] at h
 simp only [bne_iff_ne,ne_eq]
 omega
theorem T5:∀ (l:List bQ) (i:Nat),(sU l i=if 0≤ja nb l i∧gn (l.getD (ja nb l i - i).toNat s0)=true then ja nb l i else -1)
 | [],i=>by simp [sU,ja]
 | y::ys,i=>by
   simp only [sU,ja]
   by_cases h1:gn y=true
   ·simp only [h1,abU h1,if_true]
    have:(0:Int)≤(i:Int):=by omega
    simp [this,h1]
   ·have h1:gn y=false:=by simpa using h1
    simp only [h1,dN,if_false]
    by_cases h2:nb y=true
    ·simp only [h2,if_true]
     simp [h1]
    ·have h2:nb y=false:=by simpa using h2
     simp only [h2,dN,if_false]
     rw [T5 ys (i+1)]
     rcases OD nb ys (i+1) with h | h
     ·rw [h]; simp
     ·have e:(ja nb ys (i+1) - (i:Int)).toNat=(ja nb ys (i+1) - ((i+1:Nat):Int)).toNat+1:=by omega
      rw [e]
      simp only [List.getD_cons_succ]
def jl (c:Int):Bool:=(decide (c≥97)&&decide (c≤122)) || ((decide (c≥48)&&decide (c≤57)) || ((c==95) || ((c==94) || (c==39))))
def eY (s:List UInt8):Bool:=s.any fun b=>!jl (b.toNat:Int)
theorem am4 (c:Int):gN 2000 c=some (jl c):=by
 unfold gN jl
 simp only [Hi,AE]
 cases decide (c≥97)<;>cases decide (c≤122)<;>cases decide (c≥48)<;>cases decide (c≤57)<;>cases (c==95)<;>cases (c==94)<;>rfl
theorem am0 (c:Int):dd 2000 c=some (jl c):=by
 unfold dd jl
 simp only [G5,Ap]
 cases decide (c≥97)<;>cases decide (c≤122)<;>cases decide (c≥48)<;>cases decide (c≤57)<;>cases (c==95)<;>cases (c==94)<;>rfl
theorem Tk {c:Int} (h:128≤c):jl c=false:=by
 unfold jl
 have h1:decide (c≤122)=false:=decide_eq_false (by omega)
 have h2:decide (c≤57)=false:=decide_eq_false (by omega)
 have h3:(c==95)=false:=by simp; omega
 have h4:(c==94)=false:=by simp; omega
 have h5:(c==39)=false:=by simp; omega
 rw [h1,h2,h3,h4,h5]; simp
theorem v154 (c:Int):gM 2000 c=some (!jl c):=by
 unfold gM
 simp only [Hh,AD,am4,ar]
theorem Um (s:ByteArray) (i:Nat) (h:128≤(s.get! (i+0)).toNat):128≤(Utf8.decode s i).1:=by
 unfold Utf8.decode
 simp only [Utf8.runeError]
 rw [if_neg (by omega)]
 repeat' split
 all_goals first | (simp only; omega) | (simp only [ge_iff_le,aq,decide_eq_true_eq] at *; omega)
theorem Uo (s:ByteArray) (i:Nat) (h:(s.get! (i+0)).toNat < 128):Utf8.decode s i=((s.get! (i+0)).toNat,1):=by
 unfold Utf8.decode
 simp only
 rw [if_pos h]
theorem get_at (pre ys:List UInt8) (y:UInt8):(⟨⟨pre++y::ys⟩⟩:ByteArray).get! (pre.length+0)=y:=by
 show (⟨pre++y::ys⟩:Array UInt8)[pre.length+0]! =y
 simp
theorem aaB (f:Int×Unit→Option Bool) (hf:∀ c,f (c,())=some (!jl c)) {R:Type} (k0:Int→Option R) (k2:(Int×Unit→Option Bool)→Bool→List UInt8→Nat→Bool→Option R) (e:Option R) (hk:∀ a b c d g,k2 a b c d g=e):
  ∀ (ys pre:List UInt8) (m:Nat),ys.length < m→
    ∃ j:Int,0≤j∧rM k0 k2 m f true (pre++ys) pre.length=(if eY ys=true then k0 j else e):=by
 intro ys
 induction ys with
 | nil=>
   intro pre m hm
   cases m with
   | zero=>simp at hm
   | succ m=>
     refine ⟨0,by omega,?_⟩
     have h:decide (pre.length < (pre++([]:List UInt8)).length)=false:=by simp
     unfold rM
     simp only [u0,u6,u7,va,vb,vc,qJ,h,aH,hk,eY,xg,dN,if_false]
 | cons y ys ih=>
   intro pre m hm
   cases m with
   | zero=>simp at hm
   | succ m=>
     have h:decide (pre.length < (pre++y::ys).length)=true:=by simp
     unfold rM
     simp only [u0,u6,u7,va,vb,vc,qJ,h,aR,hf,ar]
     by_cases hy:y.toNat < 128
     ·have hd:Utf8.decode ⟨⟨pre++y::ys⟩⟩ pre.length=(y.toNat,1):=by
       have:=Uo ⟨⟨pre++y::ys⟩⟩ pre.length (by rw [get_at]; exact hy)
       rwa [get_at] at this
      simp only [hd]
      cases hw:jl (y.toNat:Int) with
      | false=>
        refine ⟨(pre.length:Int),by omega,?_⟩
        have:eY (y::ys)=true:=by unfold eY; rw [nJ,hw]; rfl
        simp only [gr,beq_self_eq_true,aR,this,if_true]
      | true=>
        obtain ⟨j,hj,h2⟩:=ih (pre++[y]) m (by simpa using hm)
        refine ⟨j,hj,?_⟩
        have e1:eY (y::ys)=eY ys:=by unfold eY; rw [nJ,hw]; rfl
        have e2:((!true)==true)=false:=rfl
        have e3:pre.length+1=(pre++[y]).length:=by simp
        simp only [e2,aH]
        rw [e1,←h2,←bM pre ys y,←e3]
     ·have hd:128≤(Utf8.decode ⟨⟨pre++y::ys⟩⟩ pre.length).1:=Um _ _ (by rw [get_at]; omega)
      have hw1:jl ((Utf8.decode ⟨⟨pre++y::ys⟩⟩ pre.length).1:Int)=false:=Tk (by omega)
      have hw2:jl (y.toNat:Int)=false:=Tk (by omega)
      have:eY (y::ys)=true:=by unfold eY; rw [nJ,hw2]; rfl
      refine ⟨(pre.length:Int),by omega,?_⟩
      simp only [hw1,gr,beq_self_eq_true,aR,this,if_true]
theorem am3 (f:Int×Unit→Option Bool) (hf:∀ c,f (c,())=some (!jl c)) (s:List UInt8) (hs:s.length < 2000):gL 2000 s f=some (eY s):=by
 obtain ⟨j,hj,h⟩:=aaB f hf (R:=Int) some (fun _ _ _ _ _=>some (-1)) (some (-1)) (fun _ _ _ _ _=>rfl) s [] 2000 hs
 have h1:gP 2000 s f true=(if eY s=true then some j else some (-1)):=by
  unfold gP
  simp only [u0,u6,u7,va,vb,vc,qJ]
  simpa using h
 have h2:gO 2000 s f=(if eY s=true then some j else some (-1)):=by
  unfold gO
  simp only [Hj,AF,h1]
  split<;>rfl
 unfold gL
 simp only [Hg,AB,h2]
 cases eY s with
 | true=>
   have:decide (j≥0)=true:=decide_eq_true hj
   simp only [if_true,ar,this]
 | false=>
   simp only [dN,if_false,ar]
   rfl
def pw (s:bQ):Bool:=cond (s.1==1) (decide (s.2.1≥1)&&decide (s.2.1≤3)) (cond (s.1==2) (s.2.1==2) (s.2.1==0))
def nF (s:bQ):Int:=cond (decide (s.1 < 1)) 1 (cond (decide (s.1 > 9)) 1 (cond (!pw s) 6 (cond (s.2.2.1==[]) 7 (cond (decide ((s.2.2.1.length:Int) > 8)) 3 (cond (eY s.2.2.1) 2 0)))))
theorem v152 (s:bQ):gK 2000 s=some (pw s):=by
 unfold gK pw
 simp only [Hf,AA]
 cases (s.1==1)<;>cases (s.1==2)<;>cases decide (s.2.1≥1)<;>rfl
theorem ans (s:bQ):de 2000 s=some (nF s):=by
 unfold de nF
 simp only [Hb,Ax,v152,ar]
 cases decide (s.1 < 1) with
 | true=>rfl
 | false=>
   simp only [aH,cond_false]
   cases decide (s.1 > 9) with
   | true=>rfl
   | false=>
     simp only [aH,cond_false]
     cases pw s with
     | false=>rfl
     | true=>
       simp only [eU,aH,cond_false]
       cases (s.2.2.1==[]) with
       | true=>rfl
       | false=>
         simp only [aH,cond_false]
         cases hd:decide ((s.2.2.1.length:Int) > 8) with
         | true=>rfl
         | false=>
           simp only [aH,cond_false]
           have hl:s.2.2.1.length≤8:=by
            have:=of_decide_eq_false hd
            omega
           rw [am3 _ (fun c=>by simp only [v154,ar,jA]; rfl) s.2.2.1 (by omega)]
           simp only [ar]
           cases eY s.2.2.1<;>rfl
theorem abI {R:Type} (k0:Int→Option R) (k1:bQ→Int→Option R) (e:Option R) (hk:∀ a b,k1 a b=e) (a b:Int) (u:Unit):
  ∀ (ys pre:List UInt8) (m:Nat),ys.length < m→(pre++ys).length≤bV→
    rH (dd 2000) k0 k1 m (a,b,(pre++ys),u) (pre.length:Int)=(if eY ys=true then k0 2 else e):=by
 intro ys
 induction ys with
 | nil=>
   intro pre m hm hb
   cases m with
   | zero=>simp at hm
   | succ m=>
     unfold rH
     simp only [tZ,tY,tU,tV,tW,tX,ua,qC,fo,aH,hk,eY,xg,dN,if_false]
 | cons y ys ih=>
   intro pre m hm hb
   cases m with
   | zero=>simp at hm
   | succ m=>
     unfold rH
     simp only [tZ,tY,tU,tV,tW,tX,ua,qC,fb,eu,dY,if_true,aR,am0,ar]
     cases hw:jl (y.toNat:Int) with
     | false=>
       have:eY (y::ys)=true:=by unfold eY; rw [nJ,hw]; rfl
       simp only [gr,aR,this,if_true]
     | true=>
       have e1:eY (y::ys)=eY ys:=by unfold eY; rw [nJ,hw]; rfl
       simp only [eU,aH,fq pre ys y hb]
       rw [e1,bM pre ys y,ih (pre++[y]) m (by simpa using hm) (by rw [←bM]; exact hb)]
theorem v117 (s:bQ):bH 2000 s=some (nF s):=by
 unfold bH nF
 obtain ⟨a,b,t,u⟩:=s
 simp only [tZ,tY,tU,tV,tW,tX,ua,qC]
 cases decide (a < 1) with
 | true=>rfl
 | false=>
   simp only [aH,cond_false]
   cases decide (a > 9) with
   | true=>rfl
   | false=>
     simp only [aH,cond_false]
     have hq:∀ (K:Bool→Option Int),ad (a==1) (ad (decide (b≥1)) (ad (a==2) (K (b==2)) (K (decide (b≤3)))) (ad (a==2) (K (b==2)) (K false))) (ad (a==2) (K (b==2)) (K (b==0)))=K (pw (a,b,t,u)):=by
      intro K
      unfold pw
      by_cases h1:a=1
      ·subst h1
       have e:((1:Int)==2)=false:=rfl
       have e':((1:Int)==1)=true:=rfl
       simp only [e,e',aR,aH,cond_true]
       cases decide (b≥1)<;>rfl
      ·have e:(a==1)=false:=by simpa using h1
       simp only [e,aH,cond_false]
       cases (a==2)<;>rfl
     rw [hq fun q=>ad (!q) _ _]
     cases pw (a,b,t,u) with
     | false=>rfl
     | true=>
       simp only [eU,aH,cond_false]
       cases (t==[]) with
       | true=>rfl
       | false=>
         simp only [aH,cond_false]
         cases hd:decide ((t.length:Int) > 8) with
         | true=>rfl
         | false=>
           simp only [aH,cond_false]
           have hl:t.length≤8:=by
            have:=of_decide_eq_false hd
            omega
           have:=abI (R:=Int) some (fun _ _=>some 0) (some 0) (fun _ _=>rfl) a b u t [] 2000 (by omega) (by unfold bV; simp; omega)
           simp only [dP,ep,Int.natCast_zero] at this
           rw [this]
           cases eY t<;>rfl
def jk:List bQ→Int
 | []=>0
 | s::r=>cond (nF s != 0) (nF s) (jk r)
abbrev db:Type:=List UInt8×(List bQ×(Int×(Int×Unit)))
abbrev aS:Type:=List UInt8×(List db×Unit)
abbrev g0:db:=([],([],((0:Int),((0:Int),()))))
theorem JR:∀ s:List UInt8,Op.bytesLess s s=false
 | []=>rfl
 | b::s=>by
   simp only [Op.bytesLess]
   simp [JR s]
def lP (a b:bQ):Bool:=(a.1==b.1)&&((a.2.1==b.2.1)&&((a.2.2.1==b.2.2.1)&&true))
def eT:List bQ→List bQ→Bool
 | [],[]=>true
 | x::xs,y::ys=>lP x y&&eT xs ys
 | _,_=>false
theorem agu {a b:bQ} (h:lP a b=true):a=b:=by
 obtain ⟨a1,a2,a3,a4⟩:=a; obtain ⟨b1,b2,b3,b4⟩:=b
 simp only [lP,ib,aq,beq_iff_eq] at h
 obtain ⟨h1,h2,h3⟩:=h
 subst h1; subst h2; subst h3; rfl
theorem agv (a:bQ):lP a a=true:=by simp [lP]
theorem Bt:∀ {a b:List bQ},eT a b=true↔a=b
 | [],[]=>by simp [eT]
 | [],_::_=>by simp [eT]
 | _::_,[]=>by simp [eT]
 | x::xs,y::ys=>by
   simp only [eT,aq,gg,Bt (a:=xs) (b:=ys)]
   exact ⟨fun h=>⟨agu h.1,h.2⟩,fun h=>⟨by rw [h.1]; exact agv y,h.2⟩⟩
theorem agw (a b:List bQ):eT a b=eT b a:=by
 rw [sA,Bt,Bt]; exact eq_comm
def Be (a b:Int):Int:=ad (decide (a < b)) (-1) (ad (decide (a > b)) 1 0)
theorem v86 (a b:Int):gy 2000 a b=some (Be a b):=by
 unfold gy Be
 simp only [HF,AO]
 cases decide (a < b)<;>cases decide (a > b)<;>rfl
theorem IM (a b:Int):(Be a b != 0)=!(a==b):=by
 unfold Be
 by_cases h:a < b
 ·rw [decide_eq_true h]; have:(a==b)=false:=beq_eq_false_iff_ne.2 (by omega)
  rw [this]; rfl
 ·by_cases h2:a > b
  ·rw [decide_eq_false h,decide_eq_true h2]; have:(a==b)=false:=beq_eq_false_iff_ne.2 (by omega)
   rw [this]; rfl
  ·rw [decide_eq_false h,decide_eq_false h2]; have:(a==b)=true:=beq_iff_eq.2 (by omega)
   rw [this]; rfl
theorem v59 (a b:bQ):∃ n,df 2000 a b=some n∧(n != 0)=!lP a b:=by
 unfold df lP
 simp only [Ht,AL,v86,ar,IM]
 cases h1:a.1==b.1 with
 | false=>exact ⟨_,rfl,by rw [IM,h1]; rfl⟩
 | true=>
   cases h2:a.2.1==b.2.1 with
   | false=>exact ⟨_,rfl,by rw [IM,h2]; rfl⟩
   | true=>
     simp only [eU,aH,fr,ib]
     cases h3:a.2.2.1==b.2.2.1 with
     | true=>
       have h4:a.2.2.1=b.2.2.1:=by simpa using h3
       rw [h4,JR]
       exact ⟨_,rfl,rfl⟩
     | false=>
       cases Op.bytesLess a.2.2.1 b.2.2.1 with
       | true=>exact ⟨_,rfl,rfl⟩
       | false=>exact ⟨_,rfl,rfl⟩
theorem aaS {R:Type} (k0:Bool→Option R) (K:Option R):
  ∀ (ys pre zs pre2:List bQ) (m:Nat),ys.length < m→(pre++ys).length≤bV→pre.length=pre2.length→ys.length=zs.length→
    rO (df 2000) k0 (fun _ _ _=>K) m (pre++ys) (pre2++zs) (pre.length:Int)=ad (eT ys zs) K (k0 false):=by
 intro ys
 induction ys with
 | nil=>
   intro pre zs pre2 m hm hb hp hz
   have:zs=[]:=lU.1 hz.symm
   subst this
   cases m with
   | zero=>omega
   | succ m=>
     unfold rO
     simp only [vh,vd,ve,vf,vg,vi,qK,fo,aH,eT,aR]
 | cons y ys ih=>
   intro pre zs pre2 m hm hb hp hz
   obtain ⟨z,zs,rfl⟩:∃ z zs',zs=z::zs':=by
    cases zs with
    | nil=>simp at hz
    | cons z zs=>exact ⟨z,zs,rfl⟩
   cases m with
   | zero=>omega
   | succ m=>
     have hwr:=fq pre ys y hb
     obtain ⟨n,h1,h2⟩:=v59 y z
     have i2:(0≤(pre.length:Int)∧(pre.length:Int) < ((pre2++z::zs).length:Int))=True:=by rw [hp]; exact eu _ _ _
     have a2:(pre2++z::zs).getD (gF (pre.length:Int)) s0=z:=by rw [hp]; exact dY _ _ _ _
     unfold rO
     simp only [vh,vd,ve,vf,vg,vi,qK,fb,eu,dY,if_true,aR,hwr,i2,a2,h1,ar,h2,eT]
     cases h:lP y z with
     | false=>simp only [gr,aR,jB,aH]
     | true=>
       simp only [eU,aH,fr]
       rw [bM pre ys y,bM pre2 zs z]
       exact ih (pre++[y]) zs (pre2++[z]) m (by simpa using hm) (by rw [←bM]; exact hb) (by simp [hp]) (by simpa using hz)
theorem SQ {a b:List bQ} (h:a.length≠b.length):eT a b=false:=by
 cases h2:eT a b with
 | false=>rfl
 | true=>exact absurd (congrArg kr (Bt.1 h2)) h
theorem v28 (a b:List bQ) (h:a.length < 2000):bF 2000 a b=some (eT a b):=by
 unfold bF
 simp only [vh,vd,ve,vf,vg,vi,qK]
 by_cases hl:a.length=b.length
 ·have e:((a.length:Int) != (b.length:Int))=false:=by simp [hl]
  have:=aaS (R:=Bool) some (some true) a [] b [] 2000 h (by unfold bV; simp; omega) rfl hl
  simp only [dP,ep] at this
  simp only [e,aH]
  refine dO this ?_
  cases eT a b<;>rfl
 ·have e:((a.length:Int) != (b.length:Int))=true:=bne_iff_ne.2 (by omega)
  simp only [e,aR]
  rw [SQ hl]
theorem aas {R:Type} (k0:Bool→Option R) (K:Option R):
  ∀ (ys pre zs pre2:List bQ) (m:Nat),ys.length < m→(pre++ys).length≤bV→pre.length=pre2.length→ys.length=zs.length→
    rJ k0 (fun _ _ _ _=>K) m (pre++ys) (pre2++zs) ((pre++ys).length:Int) (pre.length:Int)=ad (eT ys zs) K (k0 false):=by
 intro ys
 induction ys with
 | nil=>
   intro pre zs pre2 m hm hb hp hz
   have:zs=[]:=lU.1 hz.symm
   subst this
   cases m with
   | zero=>omega
   | succ m=>
     unfold rJ
     simp only [ur,ui,uj,uk,uq,uu,qE,fo,aH,eT,aR]
 | cons y ys ih=>
   intro pre zs pre2 m hm hb hp hz
   obtain ⟨z,zs,rfl⟩:∃ z zs',zs=z::zs':=by
    cases zs with
    | nil=>simp at hz
    | cons z zs=>exact ⟨z,zs,rfl⟩
   cases m with
   | zero=>omega
   | succ m=>
     have hwr:=fq pre ys y hb
     have i2:(0≤(pre.length:Int)∧(pre.length:Int) < ((pre2++z::zs).length:Int))=True:=by rw [hp]; exact eu _ _ _
     have a2:(pre2++z::zs).getD (gF (pre.length:Int)) s0=z:=by rw [hp]; exact dY _ _ _ _
     unfold rJ
     simp only [ur,ui,uj,uk,uq,uu,qE,fb,eu,dY,if_true,aR,hwr,i2,a2,eT]
     have e:(y.1==z.1&&(y.2.1==z.2.1&&(y.2.2.1==z.2.2.1&&true)))=lP y z:=rfl
     rw [e]
     cases h:lP y z with
     | false=>simp only [gr,aR,jB,aH]
     | true=>
       simp only [eU,aH,fr]
       rw [bM pre ys y,bM pre2 zs z]
       exact ih (pre++[y]) zs (pre2++[z]) m (by simpa using hm) (by rw [←bM]; exact hb) (by simp [hp]) (by simpa using hz)
theorem amY (a b:List bQ) (h:a.length < 2000):gI 2000 a b=some (eT a b):=by
 unfold gI
 simp only [ur,ui,uj,uk,uq,uu,qE]
 by_cases hl:a.length=b.length
 ·have e:((a.length:Int) != (b.length:Int))=false:=by simp [hl]
  have:=aas (R:=Bool) some (some true) a [] b [] 2000 h (by unfold bV; simp; omega) rfl hl
  simp only [dP,ep] at this
  simp only [e,aH]
  refine dO this ?_
  cases eT a b<;>rfl
 ·have e:((a.length:Int) != (b.length:Int))=true:=bne_iff_ne.2 (by omega)
  simp only [e,aR]
  rw [SQ hl]
def up (b:UInt8):Bool:=decide ((b.toNat:Int)≥65)&&decide ((b.toNat:Int)≤90)
def jd (b:UInt8):Bool:=dh (b.toNat:Int)&&!up b
def tE (s:List UInt8):Int:=cond (s==[]) 7 (cond (decide ((s.length:Int) > 4)) 3 (cond (s.all jd) 0 2))
theorem Ux (b:UInt8):(fl b=b)↔up b=false:=by
 unfold fl up
 by_cases h:65≤b.toNat∧b.toNat≤90
 ·rw [if_pos h,decide_eq_true (show (b.toNat:Int)≥65 by omega),decide_eq_true (show (b.toNat:Int)≤90 by omega)]
  constructor
  ·intro e
   have e2:=congrArg UInt8.toNat e
   simp only [UInt8.toNat_ofNat'] at e2
   omega
  ·intro e; cases e
 ·rw [if_neg h]
  have:(decide ((b.toNat:Int)≥65)&&decide ((b.toNat:Int)≤90))=false:=by
   rw [Bool.and_eq_false_iff]
   by_cases h1:65≤b.toNat
   ·exact .inr (decide_eq_false (by omega))
   ·exact .inl (decide_eq_false (by omega))
  rw [this]; simp
theorem GM:∀ s:List UInt8,(fold s==s)=s.all fun b=>!up b
 | []=>rfl
 | b::s=>by
   rw [sA]
   have ih:=GM s
   rw [sA] at ih
   simp only [fold,fQ,dy,aq,beq_iff_eq,gg,dc] at ih ⊢
   rw [Ux,ih]
theorem abH {R:Type} (k0:Int→Option R) (K:Option R):
  ∀ (ys pre:List UInt8) (m:Nat),ys.length < m→(pre++ys).length≤bV→
    rG (c5 2000) k0 (fun _ _=>K) m (pre++ys) (pre.length:Int)=cond (ys.all jd) K (k0 2):=by
 intro ys
 induction ys with
 | nil=>
   intro pre m hm hb
   cases m with
   | zero=>omega
   | succ m=>
     unfold rG
     simp only [tS,tO,tP,tQ,tR,tT,qB,fo,aH,mF,cond_true]
 | cons y ys ih=>
   intro pre m hm hb
   cases m with
   | zero=>omega
   | succ m=>
     have hwr:=fq pre ys y hb
     unfold rG
     simp only [tS,tO,tP,tQ,tR,tT,qB,fb,eu,dY,if_true,aR,hwr,(I3 y).2,ar,dy,jd,up]
     have hgo:=ih (pre++[y]) m (by simpa using hm) (by rw [←bM]; exact hb)
     rw [←bM] at hgo
     cases dh (y.toNat:Int) with
     | false=>simp only [gr,aR,jB,cond_false]
     | true=>
       simp only [eU,aH,fr]
       cases decide ((y.toNat:Int)≥65) with
       | false=>simp only [aH,jB,gr,fr]; exact hgo
       | true=>
         simp only [aR,fr]
         cases decide ((y.toNat:Int)≤90) with
         | false=>simp only [aH,gr,fr]; exact hgo
         | true=>simp only [aR,eU,jB,cond_false]
theorem amU (s:List UInt8):ff 2000 s=some (tE s):=by
 unfold ff tE
 simp only [tS,tO,tP,tQ,tR,tT,qB]
 cases h0:s==[] with
 | true=>rfl
 | false=>
   cases h1:decide ((s.length:Int) > 4) with
   | true=>rfl
   | false=>
     have h2:¬ (s.length:Int) > 4:=of_decide_eq_false h1
     have:=abH (R:=Int) some (some 0) s [] 2000 (by omega) (by unfold bV; simp; omega)
     simp only [dP,ep] at this
     simp only [aH,cond_false]
     refine dO this ?_
     cases s.all jd<;>rfl
def pv (v:Int):Bool:=!decide (v < 32)&&!decide (v > 126)
theorem abJ {R:Type} (k0:Int→Option R) (K:Option R):
  ∀ (ys pre:List Int) (m:Nat),ys.length < m→(pre++ys).length≤bV→
    rK k0 (fun _ _ _=>K) m (pre++ys) ((pre++ys).length:Int) (pre.length:Int)=cond (ys.all pv) K (k0 2):=by
 intro ys
 induction ys with
 | nil=>
   intro pre m hm hb
   cases m with
   | zero=>omega
   | succ m=>
     unfold rK
     simp only [uS,uO,uP,uQ,uR,uT,qI,fo,aH,mF,cond_true]
 | cons y ys ih=>
   intro pre m hm hb
   cases m with
   | zero=>omega
   | succ m=>
     have hwr:=fq pre ys y hb
     have hl:(gF (pre.length:Int) < (pre++y::ys).length)=True:=r6 pre ys y
     unfold rK
     simp only [uS,uO,uP,uQ,uR,uT,qI,fb,eu,dY,if_true,aR,hwr,hl,dy,pv]
     have hgo:=ih (pre++[y]) m (by simpa using hm) (by rw [←bM]; exact hb)
     rw [←bM] at hgo
     cases decide (y < 32) with
     | true=>simp only [aR,eU,jB,cond_false]
     | false=>
       cases decide (y > 126) with
       | true=>simp only [aR,aH,eU,gr,fr,jB,cond_false]
       | false=>simp only [aH,gr,fr]; exact hgo
def ch (b:UInt8):Int:=(b.toNat:Int)
theorem am5 (s:List UInt8) (h:s.length≤120):fi 2000 s=some (cond ((s.map ch).all pv) 0 2):=by
 unfold fi
 have h1:decide ((s.length:Int) > 120)=false:=decide_eq_false (by omega)
 simp only [uS,uO,uP,uQ,uR,uT,qI,h1,aH]
 have:=abJ (R:=Int) some (some 0) (s.map ch) [] 2000 (by simp; omega) (by unfold bV; simp; omega)
 simp only [dP,ep] at this
 refine dO this ?_
 cases (s.map ch).all pv<;>rfl
abbrev lX:Type:=Int×(Int×Unit)
structure Jw (P:List Int) (out:List lX):Prop where
 yes:P.all dh=true→out=if P=[] then [] else [(0,((P.length:Nat):Int),())]
 no:P.all dh=false→out.length≠1∨∃ a b,out=[(a,b,())]∧b - a < (P.length:Int)
 bd:∀ x∈out,0≤x.1∧x.1≤(P.length:Int)∧0≤x.2.1∧x.2.1≤(P.length:Int)
 len:out.length≤P.length
theorem sQ (P:List Int) (y:Int):(P++[y]).all dh=(P.all dh&&dh y):=by simp
theorem Jw.skip {P:List Int} {out:List lX} {y:Int} (h:Jw P out) (hy:dh y=false):Jw (P++[y]) out:=by
 have ha:(P++[y]).all dh=false:=by rw [sQ,hy,Jd]
 refine ⟨fun e=>by rw [ha] at e; (cases e),fun _=>?_,fun x hx=>?_,by have:=h.len; simp; omega⟩
 ·cases hp:P.all dh with
  | true=>
    rw [h.yes hp]
    split
    ·exact .inl (by simp)
    ·exact .inr ⟨_,_,rfl,by simp; omega⟩
  | false=>
    rcases h.no hp with h1 | ⟨a,b,h1,h2⟩
    ·exact .inl h1
    ·exact .inr ⟨a,b,h1,by simp; omega⟩
 ·have:=h.bd x hx
  simp only [b5,iO]; omega
theorem Jw.ext {P:List Int} {o:List lX} {a:Int} {y:Int} (h:Jw P (o++[(a,((P.length:Nat):Int),())])) (hy:dh y=true):Jw (P++[y]) (o++[(a,((P.length:Nat):Int)+1,())]):=by
 refine ⟨fun e=>?_,fun e=>?_,fun x hx=>?_,by have:=h.len; simp at this ⊢; omega⟩
 ·rw [sQ,hy,ib] at e
  have h1:=h.yes e
  split at h1
  ·simp at h1
  ·have h2:o=[]:=by
    have:=congrArg kr h1
    simp at this; exact lU.1 (by simpa using this)
   subst h2
   simp only [dP,gg,er,and_true] at h1
   rw [if_neg (by simp),h1]
   simp
 ·rw [sQ,hy,ib] at e
  rcases h.no e with h1 | ⟨a',b',h1,h2⟩
  ·exact .inl (by simpa using h1)
  ·have h3:o=[]:=by
    have:=congrArg kr h1
    simp at this; exact lU.1 (by simpa using this)
   subst h3
   simp only [dP,gg,er,and_true] at h1
   exact .inr ⟨a,_,rfl,by simp; omega⟩
 ·simp only [b5,iO]
  rcases dn.1 hx with h1 | h1
  ·have:=h.bd x (List.mem_append_left _ h1); omega
  ·have h2:=h.bd (a,((P.length:Nat):Int),()) (by simp)
   simp only [fS] at h1
   subst h1
   simp only at h2 ⊢; omega
theorem Jw.new {P:List Int} {out:List lX} {y:Int} (h:Jw P out) (hy:dh y=true) (hn:∀ o a,out≠o++[(a,((P.length:Nat):Int),())]):Jw (P++[y]) (out++[(((P.length:Nat):Int),((P.length:Nat):Int)+1,())]):=by
 refine ⟨fun e=>?_,fun e=>?_,fun x hx=>?_,by have:=h.len; simp; omega⟩
 ·rw [sQ,hy,ib] at e
  have h1:=h.yes e
  split at h1
  ·rename_i hp; subst hp; subst h1; simp
  ·exact absurd h1 (hn [] 0)
 ·rw [sQ,hy,ib] at e
  cases out with
  | nil=>
    refine .inr ⟨_,_,rfl,?_⟩
    cases P with
    | nil=>cases e
    | cons p P=>simp; omega
  | cons x o=>exact .inl (by simp)
 ·simp only [b5,iO]
  rcases dn.1 hx with h1 | h1
  ·have:=h.bd x h1; omega
  ·simp only [fS] at h1
   subst h1
   simp only; omega
theorem abK {R:Type} (K:List lX→Option R):
  ∀ (ys pre:List Int) (m:Nat) (out:List lX),ys.length < m→(pre++ys).length≤120→(∀ v∈ys,bT 2000 v=some (dh v))→Jw pre out→
    ∃ o,Jw (pre++ys) o∧o6 (bT 2000) (fun o _ _ _=>K o) m out (pre++ys) ((pre++ys).length:Int) (pre.length:Int)=K o:=by
 intro ys
 induction ys with
 | nil=>
   intro pre m out hm hb hs hJ
   cases m with
   | zero=>omega
   | succ m=>
     refine ⟨out,by simpa using hJ,?_⟩
     unfold o6
     simp only [uM,uI,uJ,uK,uL,uN,qH,fo,aH]
 | cons y ys ih=>
   intro pre m out hm hb hs hJ
   cases m with
   | zero=>omega
   | succ m=>
     have hwr:=fq pre ys y (by unfold bV; omega)
     have hl:(gF (pre.length:Int) < (pre++y::ys).length)=True:=r6 pre ys y
     have hy:=hs y (by simp)
     have hbp:pre.length < 120:=by simp at hb; omega
     have hgo:∀ o,Jw (pre++[y]) o→∃ o',Jw (pre++y::ys) o'∧o6 (bT 2000) (fun o _ _ _=>K o) m o (pre++y::ys) ((pre++y::ys).length:Int) ((pre++[y]).length:Int)=K o':=by
      intro o ho
      have:=ih (pre++[y]) m o (by simpa using hm) (by rw [←bM]; exact hb) (fun v hv=>hs v (eL _ hv)) ho
      rwa [←bM] at this
     unfold o6
     simp only [uM,uI,uJ,uK,uL,uN,qH,fb,eu,dY,if_true,aR,hl,hwr,hy,ar]
     cases hly:dh y with
     | false=>
       simp only [gr,aR]
       exact hgo out (hJ.skip hly)
     | true=>
       simp only [eU,aH]
       have h3:(((pre++[y]).length:Nat):Int)=(pre.length:Int)+1:=by simp
       rcases Jl out with h0 | ⟨o,x,h0⟩
       ·subst h0
        have d:decide ((([]:List lX).length:Int) > 0)=false:=rfl
        have hl2:(([]:List lX).length+[((pre.length:Int),(((pre++[y]).length:Nat):Int),())].length≤8796093022208)=True:=by simp
        have hn:=hJ.new hly (by intro o a; simp)
        rw [←h3] at hn
        simp only [d,aH,hl2,if_true]
        exact hgo _ hn
       ·rw [Jj] at h0
        subst h0
        have hol:(o++[x]).length≤pre.length:=hJ.len
        have hol':o.length < 120:=by simp at hol; omega
        have d:decide ((((o++[x]).length:Nat):Int) > 0)=true:=decide_eq_true (by simp only [b5,iO]; omega)
        have w2:IntKind.i64.wrap ((((o++[x]).length:Nat):Int) - 1)=(o.length:Int):=by
         have:(((o++[x]).length:Nat):Int) - 1=(o.length:Int):=by simp
         rw [this]; exact gd (by omega)
        have i1:(0≤(o.length:Int)∧(o.length:Int) < (((o++[x]).length:Nat):Int))=True:=by rw [eq_iff_iff,iff_true]; simp only [b5,iO]; omega
        have i2:(gF (o.length:Int) < (o++[x]).length)=True:=by simp
        have g1:(o++[x]).getD (gF (o.length:Int)) ((0:Int),((0:Int),()))=x:=by simp
        have s1:∀ z,(o++[x]).set (gF (o.length:Int)) z=o++[z]:=by intro z; simp
        simp only [d,aR,w2,i1,i2,if_true,g1,s1]
        cases hx:x.2.1==(pre.length:Int) with
        | true=>
          have hx':x.2.1=(pre.length:Int):=by simpa using hx
          obtain ⟨a,b,u⟩:=x
          simp only at hx'
          subst hx'
          have hn:=hJ.ext hly
          rw [←h3] at hn
          simp only [aR,hwr]
          exact hgo _ hn
        | false=>
          have hx':x.2.1≠(pre.length:Int):=by simpa using hx
          have hl2:((o++[x]).length+[((pre.length:Int),(((pre++[y]).length:Nat):Int),())].length≤8796093022208)=True:=by
           simp only [b5,iO,eq_iff_iff,iff_true]; omega
          have hn:=hJ.new hly (by
           intro o' a e
           have:=(List.append_inj' e rfl).2
           simp only [gg,and_true] at this
           rw [this] at hx'
           exact hx' rfl)
          rw [←h3] at hn
          simp only [aH,hl2,if_true]
          exact hgo _ hn
theorem aau:((sJ 256).all fun n=>!dh (n:Int) || pv (n:Int))=true:=by kernel_rfl
theorem aav (b:UInt8) (h:dh (b.toNat:Int)=true):pv (b.toNat:Int)=true:=by
 have:=eK.1 aau b.toNat (sH.2 b.toNat_lt)
 rw [h] at this
 simpa using this
theorem am1 (s:List UInt8):fh 2000 s=some (tE s):=by
 unfold fh tE
 simp only [Ha,Aw]
 cases h0:s==[] with
 | true=>rfl
 | false=>
   have h0':s≠[]:=by simpa using h0
   cases h1:decide ((s.length:Int) > 4) with
   | true=>rfl
   | false=>
     have h2:¬ (s.length:Int) > 4:=of_decide_eq_false h1
     simp only [aH,cond_false,v72 s (by omega),ar]
     have hne:(fold s != s)=!(fold s==s):=rfl
     rw [hne,GM]
     cases hu:s.all fun b=>!up b with
     | false=>
       have:s.all jd=false:=by
        rw [Ji] at hu ⊢
        obtain ⟨b,hb,h3⟩:=hu
        exact ⟨b,hb,by unfold jd; simp only [Bool.not_eq_true] at h3 ⊢; rw [h3,Jd]⟩
       rw [this]; rfl
     | true=>
       have hlk:s.all jd=(s.map ch).all dh:=by
        rw [sA]
        simp only [eK,c4,forall_exists_index,and_imp,forall_apply_eq_imp_iff₂] at hu ⊢
        exact ⟨fun h b hb=>by have:=h b hb; unfold jd at this; simp only [aq] at this; exact this.1,fun h b hb=>by unfold jd; rw [hu b hb,ib]; exact h b hb⟩
       simp only [eU,aH]
       unfold iq
       simp only [uM,uI,uJ,uK,uL,uN,qH,am5 s (by omega),ar]
       cases hv:(s.map ch).all pv with
       | false=>
         have:s.all jd=false:=by
          rw [hlk,Ji]
          rw [Ji] at hv
          obtain ⟨v,hvm,h3⟩:=hv
          refine ⟨v,hvm,fun h4=>h3 ?_⟩
          obtain ⟨b,_,rfl⟩:=c4.1 hvm
          exact aav b h4
         rw [this]; rfl
       | true=>
         have e0:((cond true (0:Int) 2) != 0)=false:=rfl
         simp only [e0,aH]
         obtain ⟨o,hJ,ho⟩:=abK (R:=List lX×Int) (fun o=>some (o,0)) (s.map ch) [] 2000 [] (by simp; omega) (by simp; omega) (by
          intro v hv
          obtain ⟨b,_,rfl⟩:=c4.1 hv
          exact (I3 b).1) ⟨fun _=>rfl,(fun e=>by cases e),(fun x hx=>by simp at hx),by simp⟩
         simp only [dP,ep] at ho hJ
         have hch:(s.map fun b=>(b.toNat:Int))=s.map ch:=rfl
         rw [hch]
         have ho':=ho
         rw [show ((0:Nat):Int)=0 from rfl] at ho'
         simp only [ho']
         have e1:((0:Int) != 0)=false:=rfl
         simp only [ar,e1,aH]
         cases ha:(s.map ch).all dh with
         | true=>
           have h5:=hJ.yes ha
           rw [if_neg (by simpa using h0')] at h5
           subst h5
           have w:IntKind.i64.wrap (s.length:Int)=(s.length:Int):=gd (by omega)
           have hk:s.all jd=true:=by rw [hlk,ha]
           rw [hk]
           simp [w,ad]
         | false=>
           rw [hlk,ha]
           rcases hJ.no ha with h5 | ⟨a,b,h5,h6⟩
           ·have:((o.length:Int) != 1)=true:=bne_iff_ne.2 (by omega)
            rw [this]; rfl
           ·subst h5
            have hbd:=hJ.bd (a,b,()) (by simp)
            simp only [mG] at hbd h6
            have w:IntKind.i64.wrap (b - a)=b - a:=gd (by omega)
            have:(b - a != (s.length:Int))=true:=bne_iff_ne.2 (by omega)
            simp [w,this,ad]
theorem anO (n:Int):(n != 0)=!(n==0):=rfl
def sT (x:db):Bool:=decide (x.2.2.1 < 0) || (decide (x.2.2.1 > 99) || (decide (x.2.2.2.1 < 0) || decide (x.2.2.2.1 > 4)))
def gE (x:db):Int:=cond (tE x.1 != 0) (tE x.1) (cond ((x.2.1.length:Int)==0) 7 (cond (decide ((x.2.1.length:Int) > 2)) 3 (cond (jk x.2.1 != 0) (jk x.2.1) (cond (sT x) 6 0))))
theorem aaf {R:Type} (k0:Int→Option R) (K:db→Option R) (x:db):
  ∀ (ys pre:List bQ) (m:Nat),ys.length < m→(pre++ys).length≤bV→
    rI (de 2000) k0 (fun y0 _ _ _=>K y0) m x (pre++ys) ((pre++ys).length:Int) (pre.length:Int)=cond (jk ys != 0) (k0 (jk ys)) (K x):=by
 intro ys
 induction ys with
 | nil=>
   intro pre m hm hb
   cases m with
   | zero=>omega
   | succ m=>
     unfold rI
     simp only [ug,uc,ud,ue,uf,uh,qD,fo,aH,jk]
     rfl
 | cons y ys ih=>
   intro pre m hm hb
   cases m with
   | zero=>omega
   | succ m=>
     have hwr:=fq pre ys y hb
     have hgo:=ih (pre++[y]) m (by simpa using hm) (by rw [←bM]; exact hb)
     rw [←bM] at hgo
     unfold rI
     simp only [ug,uc,ud,ue,uf,uh,qD,fb,eu,dY,if_true,aR,hwr,ans,ar,jk]
     cases h:nF y != 0 with
     | true=>simp only [aR,cond_true,h]
     | false=>simp only [aH,cond_false]; exact hgo
theorem aaT {R:Type} (k0:Int→Option R) (K:db→Option R) (t:List UInt8) (r:Int×(Int×Unit)):
  ∀ (ys pre:List bQ) (m:Nat),ys.length < m→(pre++ys).length≤bV→
    rV (bH 2000) k0 (fun y0 _=>K y0) m (t,(pre++ys,r)) (pre.length:Int)=cond (jk ys != 0) (k0 (jk ys)) (K (t,(pre++ys,r))):=by
 intro ys
 induction ys with
 | nil=>
   intro pre m hm hb
   cases m with
   | zero=>omega
   | succ m=>
     unfold rV
     simp only [we,v8,wa,wb,wc,wg,rA,fo,aH,jk]
     rfl
 | cons y ys ih=>
   intro pre m hm hb
   cases m with
   | zero=>omega
   | succ m=>
     have hwr:=fq pre ys y hb
     have hgo:=ih (pre++[y]) m (by simpa using hm) (by rw [←bM]; exact hb)
     rw [←bM] at hgo
     unfold rV
     simp only [we,v8,wa,wb,wc,wg,rA,fb,eu,dY,if_true,aR,hwr,v117,ar,jk]
     cases h:nF y != 0 with
     | true=>simp only [aR,cond_true,h]
     | false=>simp only [aH,cond_false]; exact hgo
theorem amW (x:db):c7 2000 x=some (gE x):=by
 unfold c7 gE
 simp only [ug,uc,ud,ue,uf,uh,qD,am1,ar]
 cases tE x.1 != 0 with
 | true=>rfl
 | false=>
   cases (x.2.1.length:Int)==0 with
   | true=>rfl
   | false=>
     cases h:decide ((x.2.1.length:Int) > 2) with
     | true=>rfl
     | false=>
       have h2:¬ (x.2.1.length:Int) > 2:=of_decide_eq_false h
       have:=aaf (R:=Int) some (fun x0=>ad (decide (x0.2.2.1 < (0:Int))) (some 6) (ad (decide (x0.2.2.1 > (99:Int))) (some 6) (ad (decide (x0.2.2.2.1 < (0:Int))) (some 6) (ad (decide (x0.2.2.2.1 > (4:Int))) (some 6) (some 0))))) x x.2.1 [] 2000 (by omega) (by unfold bV; simp; omega)
       simp only [dP,ep] at this
       simp only [aH,aR,cond_false]
       refine dO this ?_
       unfold sT
       cases jk x.2.1 != 0<;>cases decide (x.2.2.1 < 0)<;>cases decide (x.2.2.1 > 99)<;>cases decide (x.2.2.2.1 < 0)<;>cases decide (x.2.2.2.1 > 4)<;>rfl
theorem v91 (x:db):cG 2000 x=some (gE x):=by
 obtain ⟨t,l,r⟩:=x
 unfold cG gE
 simp only [we,v8,wa,wb,wc,wg,rA,amU,ar]
 cases tE t != 0 with
 | true=>rfl
 | false=>
   cases (l.length:Int)==0 with
   | true=>rfl
   | false=>
     cases h:decide ((l.length:Int) > 2) with
     | true=>rfl
     | false=>
       have h2:¬ (l.length:Int) > 2:=of_decide_eq_false h
       have:=aaT (R:=Int) some (fun x0=>ad (decide (x0.2.2.1 < (0:Int))) (some 6) (ad (decide (x0.2.2.1 > (99:Int))) (some 6) (ad (decide (x0.2.2.2.1 < (0:Int))) (some 6) (ad (decide (x0.2.2.2.1 > (4:Int))) (some 6) (some 0))))) t r l [] 2000 (by omega) (by unfold bV; simp; omega)
       simp only [dP,ep] at this
       simp only [aH,aR,cond_false]
       refine dO this ?_
       unfold sT
       cases jk l != 0<;>cases decide (r.1 < 0)<;>cases decide (r.1 > 99)<;>cases decide (r.2.1 < 0)<;>cases decide (r.2.1 > 4)<;>rfl
theorem ke {x:db} (h:gE x=0):x.2.1.length≤2∧x.2.1≠[]∧x.1≠[]∧x.1.length≤4:=by
 unfold gE at h
 cases h1:tE x.1 != 0 with
 | true=>rw [h1,cond_true] at h; rw [h] at h1; cases h1
 | false=>
   rw [h1,cond_false] at h
   have ht:x.1≠[]∧x.1.length≤4:=by
    unfold tE at h1
    cases h3:x.1==[] with
    | true=>rw [h3] at h1; cases h1
    | false=>
      rw [h3] at h1
      cases h4:decide ((x.1.length:Int) > 4) with
      | true=>rw [h4] at h1; cases h1
      | false=>exact ⟨by simpa using h3,by have:=of_decide_eq_false h4; omega⟩
   cases h2:(x.2.1.length:Int)==0 with
   | true=>rw [h2,cond_true] at h; cases h
   | false=>
     rw [h2,cond_false] at h
     cases h3:decide ((x.2.1.length:Int) > 2) with
     | true=>rw [h3,cond_true] at h; cases h
     | false=>
       have:=of_decide_eq_false h3
       refine ⟨by omega,fun e=>?_,ht.1,ht.2⟩
       rw [e] at h2; cases h2
def wO (t y:db):Bool:=(t.1==y.1)&&((t.2.2.2.1==y.2.2.2.1)&&eT t.2.1 y.2.1)
def kG (y:db) (pre:List db):Bool:=pre.any fun t=>wO t y
def iH:List db→List db→Int
 | _,[]=>0
 | pre,y::ys=>cond (gE y != 0) (gE y) (cond (kG y pre) 5 (iH (pre++[y]) ys))
def ph (s:List UInt8):Bool:=match eR 2000 s with | some b=>b | none=>false
theorem abS (s:List UInt8):eW 2000 s=some (ph s)∧eR 2000 s=some (ph s):=by
 obtain ⟨b,h1,h2⟩:=amV s
 have:ph s=b:=by unfold ph; rw [h2]
 rw [this]; exact ⟨h1,h2⟩
def oE (o:aS):Int:=cond (!ph o.1) 2 (cond ((o.2.1.length:Int)==0) 7 (cond (decide ((o.2.1.length:Int) > 120)) 3 (iH [] o.2.1)))
theorem aay {R:Type} (k0:Int→Option R) (K:Option R) (f:db×Unit→Option Bool) (p:db→Bool):
  ∀ (ys pre:List db) (m:Nat),(∀ t∈ys,f (t,())=some (p t))→ys.length < m→(pre++ys).length≤bV→
    (ys.any p=false→o5 k0 (fun _ _ _ _=>K) m (pre++ys) f ((pre++ys).length:Int) (pre.length:Int)=K)∧
    (ys.any p=true→∃ i:Nat,o5 k0 (fun _ _ _ _=>K) m (pre++ys) f ((pre++ys).length:Int) (pre.length:Int)=k0 (i:Int)):=by
 intro ys
 induction ys with
 | nil=>
   intro pre m hf hm hb
   cases m with
   | zero=>omega
   | succ m=>
     unfold o5
     simp only [uC,uD,uE,uF,uG,uH,qG,fo,aH,xg]
     exact ⟨fun _=>trivial,fun h=>by cases h⟩
 | cons y ys ih=>
   intro pre m hf hm hb
   cases m with
   | zero=>omega
   | succ m=>
     have hwr:=fq pre ys y hb
     have hgo:=ih (pre++[y]) m (fun t ht=>hf t (eL _ ht)) (by simpa using hm) (by rw [←bM]; exact hb)
     rw [←bM] at hgo
     unfold o5
     simp only [uC,uD,uE,uF,uG,uH,qG,fb,eu,dY,if_true,aR,hwr,hf y (by simp),ar,nJ]
     cases h:p y with
     | true=>simp only [aR,sB]; exact ⟨(fun h=>by cases h),fun _=>⟨pre.length,rfl⟩⟩
     | false=>simp only [aH,lT]; exact hgo
theorem amX (xs:List db) (hx:xs.length < 2000) (f:db×Unit→Option Bool) (p:db→Bool) (hf:∀ t∈xs,f (t,())=some (p t)):cX 2000 xs f=some (xs.any p):=by
 unfold cX
 simp only [GX,Ak]
 unfold im
 simp only [uC,uD,uE,uF,uG,uH,qG]
 have h:=aay (R:=Int) some (some (-1)) f p xs [] 2000 hf hx (by unfold bV; simp; omega)
 simp only [dP,ep] at h
 have z:((0:Nat):Int)=0:=rfl
 rw [z] at h
 cases ha:xs.any p with
 | false=>rw [h.1 ha]; rfl
 | true=>
   obtain ⟨i,h1⟩:=h.2 ha
   rw [h1]
   simp only [ar]
   have:decide ((i:Int)≥0)=true:=decide_eq_true (by omega)
   rw [this]
theorem aak {R:Type} (k0:Int→Int→Option R) (K:Option R) (nm:List UInt8):
  ∀ (ys pre:List db) (m:Nat),ys.length < m→(pre++ys).length≤120→(∀ t∈pre,t.2.1.length≤2)→
    (iH pre ys=0→pb (c7 2000) (cX 2000) (c8 2000) k0 (fun _ _ _ _=>K) m (nm,(pre++ys,())) (pre++ys) ((pre++ys).length:Int) (pre.length:Int)=K)∧
    (iH pre ys≠0→∃ i,pb (c7 2000) (cX 2000) (c8 2000) k0 (fun _ _ _ _=>K) m (nm,(pre++ys,())) (pre++ys) ((pre++ys).length:Int) (pre.length:Int)=k0 i (iH pre ys)):=by
 intro ys
 induction ys with
 | nil=>
   intro pre m hm hb hp
   cases m with
   | zero=>omega
   | succ m=>
     unfold pb
     simp only [wm,wh,wi,wj,wk,wo,rB,fo,aH,iH]
     exact ⟨fun _=>trivial,fun h=>absurd rfl h⟩
 | cons y ys ih=>
   intro pre m hm hb hp
   cases m with
   | zero=>omega
   | succ m=>
     have hwr:=fq pre ys y (by unfold bV; omega)
     unfold pb
     simp only [wm,wh,wi,wj,wk,wo,rB,fb,eu,dY,if_true,aR,hwr,amW,ar,iH]
     cases h:gE y != 0 with
     | true=>
       have h':gE y≠0:=by simpa using h
       simp only [aR,cond_true]
       exact ⟨fun e=>absurd e h',fun _=>⟨_,rfl⟩⟩
     | false=>
       have h':gE y=0:=by simpa using h
       have hy:=ke h'
       have hbp:pre.length < 120:=by simp at hb; omega
       have hc:(0≤(0:Int)∧(0:Int)≤(pre.length:Int)∧(pre.length:Int)≤((pre++y::ys).length:Int)∧((pre++y::ys).length:Int)≤((pre++y::ys).length:Int))=True:=by
        rw [eq_iff_iff,iff_true]; simp only [b5,eD]; omega
       have ht:((pre++y::ys).drop (0:Int).toNat).take ((pre.length:Int).toNat - (0:Int).toNat)=pre:=by simp
       have hd:cX 2000 pre (fun (x0:db×Unit)=>((c8 2000 x0.1 y).bind fun b=>some [.v .bool b]).bind (jA .bool))=some (kG y pre):=
        amX pre (by omega) _ (fun t=>wO t y) (fun t ht=>by
         unfold c8 wO
         have:=hp t ht
         simp only [GY,Al,amY t.2.1 y.2.1 (by omega),ar]
         cases t.1==y.1<;>cases t.2.2.2.1==y.2.2.2.1<;>cases eT t.2.1 y.2.1<;>rfl)
       simp only [aH,cond_false,hc,if_true,ht,hd,ar]
       cases h2:kG y pre with
       | true=>
         simp only [aR,cond_true]
         exact ⟨(fun e=>by cases e),fun _=>⟨_,rfl⟩⟩
       | false=>
         simp only [aH,cond_false]
         have hgo:=ih (pre++[y]) m (by simpa using hm) (by rw [←bM]; exact hb) (by
          intro t ht
          rcases dn.1 ht with h | h
          ·exact hp t h
          ·rw [fS.1 h]; exact hy.1)
         rw [←bM] at hgo
         exact hgo
theorem v70 (o:aS):dW 2000 o=some (oE o):=by
 obtain ⟨nm,l,u⟩:=o
 unfold dW
 simp only [HB,AM]
 unfold iv oE
 simp only [wm,wh,wi,wj,wk,wo,rB,(abS nm).1,ar]
 cases ph nm with
 | false=>rfl
 | true=>
   cases (l.length:Int)==0 with
   | true=>rfl
   | false=>
     cases h:decide ((l.length:Int) > 120) with
     | true=>rfl
     | false=>
       have h2:¬ (l.length:Int) > 120:=of_decide_eq_false h
       have hk:=aak (R:=Int×Int) (fun a b=>some (a,b)) (some (-1,0)) nm l [] 2000 (by omega) (by simp; omega) (by simp)
       simp only [dP,ep] at hk
       have z:((0:Nat):Int)=0:=rfl
       rw [z] at hk
       simp only [eU,aH,cond_false]
       by_cases he:iH [] l=0
       ·rw [hk.1 he,he]; rfl
       ·obtain ⟨i,h3⟩:=hk.2 he
        rw [h3]; rfl
theorem aaz {R:Type} (k0:Int→Int→Option R) (K:aS→Int→Option R) (o:aS) (y:db) (L:List db) (hL:o.2.1=L) (i:Nat) (hi:i < L.length) (hy:L.getD i g0=y):
  ∀ (ys pre zs:List db) (m:Nat),L=pre++ys++zs→(pre++ys).length=i→ys.length < m→L.length≤120→(∀ t∈ys,t.2.1.length≤2)→y.2.1.length≤2→
    (kG y ys=false→o8 (bF 2000) k0 (fun a b _=>K a b) m o (i:Int) (pre.length:Int)=K o (i:Int))∧
    (kG y ys=true→o8 (bF 2000) k0 (fun a b _=>K a b) m o (i:Int) (pre.length:Int)=k0 (i:Int) 5):=by
 intro ys
 induction ys with
 | nil=>
   intro pre zs m hl hlen hm hb hp hy2
   cases m with
   | zero=>omega
   | succ m=>
     have d:decide ((pre.length:Int) < (i:Int))=false:=decide_eq_false (by simp at hlen; omega)
     unfold o8
     simp only [ra,qX,rk,ri,qY,rh,rj,rl,rn,qZ,rb,oU,d,aH,kG,xg]
     exact ⟨fun _=>trivial,fun h=>by cases h⟩
 | cons x ys ih=>
   intro pre zs m hl hlen hm hb hp hy2
   cases m with
   | zero=>omega
   | succ m=>
     have hpi:pre.length < i:=by simp at hlen; omega
     have d:decide ((pre.length:Int) < (i:Int))=true:=decide_eq_true (by omega)
     have c1:(0≤(i:Int)∧(i:Int) < (L.length:Int))=True:=by rw [eq_iff_iff,iff_true]; omega
     have c2:(0≤(pre.length:Int)∧(pre.length:Int) < (L.length:Int))=True:=by rw [eq_iff_iff,iff_true]; omega
     have g1:L.getD (gF (i:Int)) g0=y:=hy
     have g2:L.getD (gF (pre.length:Int)) g0=x:=by rw [hl,bI]; exact dY _ _ _ _
     have hw:IntKind.i64.wrap ((pre.length:Int)+1)=((pre++[x]).length:Int):=by
      rw [gd (by omega)]; simp
     have hgo:=ih (pre++[x]) zs m (by rw [hl]; simp) (by rw [←bM]; exact hlen) (by simpa using hm) hb (fun t ht=>hp t (eL _ ht)) hy2
     have hs:bF 2000 y.2.1 x.2.1=some (eT x.2.1 y.2.1):=by
      rw [v28 y.2.1 x.2.1 (by omega),agw]
     have hx:kG y (x::ys)=(wO x y || kG y ys):=rfl
     have e1:(y.1==x.1)=(x.1==y.1):=by rw [sA]; simp only [beq_iff_eq]; exact eq_comm
     have e2:(y.2.2.2.1==x.2.2.2.1)=(x.2.2.2.1==y.2.2.2.1):=by rw [sA]; simp only [beq_iff_eq]; exact eq_comm
     unfold o8
     simp only [ra,qX,rk,ri,qY,rh,rj,rl,rn,qZ,rb,oU,d,aR,hL,c1,c2,if_true,g1,g2,e1,e2,hs,ar,hw,hx,wO]
     cases x.1==y.1 with
     | false=>simp only [aH,jB,lT]; exact hgo
     | true=>
       cases x.2.2.2.1==y.2.2.2.1 with
       | false=>simp only [aH,aR,fr,jB,lT]; exact hgo
       | true=>
         cases eT x.2.1 y.2.1 with
         | false=>simp only [aH,aR,fr,lT]; exact hgo
         | true=>
           simp only [aR,fr,sB]
           exact ⟨(fun h=>by cases h),fun _=>trivial⟩
theorem an9 {R:Type} (k0:Int→Int→Option R) (K:Option R) (nm:List UInt8):
  ∀ (ys pre:List db) (m:Nat),ys.length < m→(pre++ys).length≤120→(∀ t∈pre,t.2.1.length≤2)→
    (iH pre ys=0→nt 2000 (bF 2000) (cG 2000) k0 (fun _ _=>K) m (nm,(pre++ys,())) (pre.length:Int)=K)∧
    (iH pre ys≠0→∃ i,nt 2000 (bF 2000) (cG 2000) k0 (fun _ _=>K) m (nm,(pre++ys,())) (pre.length:Int)=k0 i (iH pre ys)):=by
 intro ys
 induction ys with
 | nil=>
   intro pre m hm hb hp
   cases m with
   | zero=>omega
   | succ m=>
     unfold nt
     simp only [ra,qX,rk,ri,qY,rh,rj,rl,rn,qZ,rb,oU,fo,aH,iH]
     exact ⟨fun _=>trivial,fun h=>absurd rfl h⟩
 | cons y ys ih=>
   intro pre m hm hb hp
   cases m with
   | zero=>omega
   | succ m=>
     have hwr:=fq pre ys y (by unfold bV; omega)
     unfold nt
     simp only [ra,qX,rk,ri,qY,rh,rj,rl,rn,qZ,rb,oU,fb,eu,dY,if_true,aR,v91,ar,iH]
     cases h:gE y != 0 with
     | true=>
       have h':gE y≠0:=by simpa using h
       simp only [aR,cond_true]
       exact ⟨fun e=>absurd e h',fun _=>⟨_,rfl⟩⟩
     | false=>
       have h':gE y=0:=by simpa using h
       have hy:=ke h'
       have hbp:pre.length < 120:=by simp at hb; omega
       have hin:=aaz k0 (fun x0 x1=>nt 2000 (bF 2000) (cG 2000) k0 (fun _ _=>K) m x0 (IntKind.i64.wrap (x1+(1:Int)))) (nm,(pre++y::ys,())) y (pre++y::ys) rfl pre.length (by simp) (by simp) pre [] (y::ys) 2000 (by simp) (by simp) (by omega) hb hp hy.1
       simp only [ep] at hin
       have z:((0:Nat):Int)=0:=rfl
       rw [z] at hin
       simp only [aH,cond_false]
       cases h2:kG y pre with
       | true=>
         rw [hin.2 h2]
         simp only [cond_true]
         exact ⟨(fun e=>by cases e),fun _=>⟨_,rfl⟩⟩
       | false=>
         rw [hin.1 h2,hwr]
         simp only [cond_false]
         have hgo:=ih (pre++[y]) m (by simpa using hm) (by rw [←bM]; exact hb) (by
          intro t ht
          rcases dn.1 ht with h | h
          ·exact hp t h
          ·rw [fS.1 h]; exact hy.1)
         rw [←bM] at hgo
         exact hgo
theorem SI:∀ (ys pre:List db),iH pre ys=0→∀ y∈ys,gE y=0
 | [],_,_,y,hy=>absurd hy (by simp)
 | x::xs,pre,h,y,hy=>by
   unfold iH at h
   cases h1:gE x != 0 with
   | true=>
     rw [h1,cond_true] at h; rw [h] at h1; cases h1
   | false=>
     rw [h1,cond_false] at h
     have hx:gE x=0:=by simpa using h1
     cases h2:kG x pre with
     | true=>rw [h2,cond_true] at h; cases h
     | false=>
       rw [h2,cond_false] at h
       rcases cD.1 hy with rfl | hy
       ·exact hx
       ·exact SI xs _ h y hy
theorem r8 {o:aS} (h:oE o=0):(∀ y∈o.2.1,gE y=0)∧o.2.1.length≤120∧o.2.1≠[]:=by
 unfold oE at h
 cases h1:ph o.1 with
 | false=>rw [h1] at h; cases h
 | true=>
   rw [h1] at h
   cases h2:(o.2.1.length:Int)==0 with
   | true=>rw [h2] at h; cases h
   | false=>
     rw [h2] at h
     cases h3:decide ((o.2.1.length:Int) > 120) with
     | true=>rw [h3] at h; cases h
     | false=>
       rw [h3] at h
       have:=of_decide_eq_false h3
       refine ⟨SI _ _ h,by omega,fun e=>?_⟩
       rw [e] at h2; cases h2
def sg (o:aS) (i:Int):db:=o.2.1.getD i.toNat g0
theorem mB {o:aS} (h:oE o=0) {i:Int} (hi:0≤i∧i < (o.2.1.length:Int)):gE (sg o i)=0:=by
 refine (r8 h).1 _ ?_
 unfold sg
 rw [List.getD_eq_getElem?_getD,List.getElem?_eq_getElem (by omega)]
 exact List.getElem_mem _
def cT (o:aS) (i:Int):Bool:=!decide (i < 0)&&!decide (i≥(o.2.1.length:Int))
theorem hQ {o:aS} {i:Int}:cT o i=true↔0≤i∧i < (o.2.1.length:Int):=by
 unfold cT
 simp only [aq,dc,decide_eq_false_iff_not]; omega
def fN (o:aS):List Int→List UInt8
 | []=> []
 | i::r=>(sg o i).1++fN o r
def sq (o:aS):List Int→List bQ
 | []=> []
 | i::r=>(sg o i).2.1++sq o r
def pk (o:aS):Int→List Int→List Int
 | _,[]=> []
 | at_,i::r=>gG (sg o i).2.1.length at_++pk o (at_+((sg o i).1.length:Int)) r
theorem amR {o:aS} (h:oE o=0):∀ {l:List Int},l.all (cT o)=true→(fN o l).length≤4 * l.length
 | [],_=>by simp [fN]
 | i::r,hl=>by
   simp only [dy,aq] at hl
   have h1:=(ke (mB h (hQ.1 hl.1))).2.2.2
   have h2:=amR h hl.2
   simp only [fN,b5,eD]; omega
theorem agx {o:aS} (h:oE o=0):∀ {l:List Int},l.all (cT o)=true→(sq o l).length≤2 * l.length
 | [],_=>by simp [sq]
 | i::r,hl=>by
   simp only [dy,aq] at hl
   have h1:=(ke (mB h (hQ.1 hl.1))).1
   have h2:=agx h hl.2
   simp only [sq,b5,eD]; omega
theorem aaD {R:Type} (k0:List UInt8→Bool→Option R) (K:List UInt8→Option R) (o:aS) (ho:oE o=0):
  ∀ (ys pre:List Int) (m:Nat) (acc:List UInt8),ys.length < m→(pre++ys).length≤1000→acc.length+4 * ys.length≤100000→
    rT (cg 2000) k0 (fun _ a _ _ _=>K a) m o acc (pre++ys) ((pre++ys).length:Int) (pre.length:Int)=cond (ys.all (cT o)) (K (acc++fN o ys)) (k0 [] false):=by
 intro ys
 induction ys with
 | nil=>
   intro pre m acc hm hb ha
   cases m with
   | zero=>omega
   | succ m=>
     unfold rT
     simp only [vH,vD,vE,vF,vG,vI,qV,fo,aH,mF,cond_true,fN,jn acc]
 | cons y ys ih=>
   intro pre m acc hm hb ha
   cases m with
   | zero=>omega
   | succ m=>
     have hwr:=fq pre ys y (by unfold bV; omega)
     unfold rT
     simp only [vH,vD,vE,vF,vG,vI,qV,fb,eu,dY,if_true,aR,hwr,dy]
     cases h1:decide (y < 0) with
     | true=>simp only [aR,cT,h1,eU,jB,cond_false]
     | false=>
       cases h2:decide (y≥(o.2.1.length:Int)) with
       | true=>simp only [aR,aH,cT,h1,h2,eU,gr,Jd,jB,cond_false]
       | false=>
         have hix:cT o y=true:=by unfold cT; rw [h1,h2]; rfl
         have hy:=hQ.1 hix
         have hg:=ke (mB ho hy)
         have hin:(0≤y∧y < (o.2.1.length:Int))=True:=by rw [eq_iff_iff,iff_true]; exact hy
         have hs:o.2.1.getD y.toNat g0=sg o y:=rfl
         have hw:cg 2000 acc (sg o y).1=some (acc++(sg o y).1):=by
          unfold cg
          rw [if_pos (by simp only [eD] at ha; omega)]
         simp only [aH,hin,if_true,hs,hw,ar,hix,fr,fN]
         have:=ih (pre++[y]) m (acc++(sg o y).1) (by simpa using hm) (by rw [←bM]; exact hb) (by simp only [b5,eD] at ha ⊢; omega)
         rw [←bM,bI] at this
         exact this
theorem v57 (o:aS) (l:List Int) (ho:oE o=0) (hl:l.length≤1000):gU 2000 o l=some (cond (l.all (cT o)) (fN o l,true) ([],false)):=by
 unfold gU
 have:=aaD (R:=List UInt8×Bool) (fun a b=>some (a,b)) (fun x=>(dJ 2000 x).bind fun r=>some (r,true)) o ho l [] 2000 [] (by omega) (by simpa using hl) (by simp; omega)
 simp only [dP,ep] at this
 simp only [vH,vD,vE,vF,vG,vI,qV]
 refine dO this ?_
 cases l.all (cT o)<;>rfl
def lE (o:aS) (l:List Int):Int:=cond (oE o != 0) (oE o) (cond (decide ((l.length:Int) > 16)) 3 (cond (l.all (cT o)) 0 6))
theorem v55 (o:aS) (l:List Int) (hl:l.length≤40):fj 2000 o l=some (lE o l):=by
 unfold fj lE
 simp only [Hs,AK,v70,ar]
 cases h:oE o != 0 with
 | true=>rfl
 | false=>
   have ho:oE o=0:=by simpa using h
   cases decide ((l.length:Int) > 16) with
   | true=>rfl
   | false=>
     simp only [aH,cond_false,v57 o l ho (by omega),ar]
     cases l.all (cT o)<;>rfl
theorem aab {o:aS} {l:List Int} (h:lE o l=0):oE o=0∧l.length≤16∧l.all (cT o)=true:=by
 unfold lE at h
 cases h1:oE o != 0 with
 | true=>rw [h1,cond_true] at h; rw [h] at h1; cases h1
 | false=>
   have ho:oE o=0:=by simpa using h1
   rw [h1,cond_false] at h
   cases h2:decide ((l.length:Int) > 16) with
   | true=>rw [h2,cond_true] at h; cases h
   | false=>
     rw [h2,cond_false] at h
     have:=of_decide_eq_false h2
     cases h3:l.all (cT o) with
     | false=>rw [h3] at h; cases h
     | true=>exact ⟨ho,by omega,rfl⟩
theorem aaI {R:Type} (K:aS→List Int→Int→Int→List Int→Int→Int→Option R) (o:aS) (a:Int) (i:Int) (L:List Int) (n j:Int):
  ∀ (c d m:Nat) (acc:List Int),c < m→c+d≤1000→acc.length+c≤100000→
    rN (fun y0 y1 y2 y3 y4 y5 y6 _ _=>K y0 y1 y2 y3 y4 y5 y6) m o acc a i L n j ((d+c:Nat):Int) (d:Int)=K o (acc++gG c a) a i L n j:=by
 intro c
 induction c with
 | zero=>
   intro d m acc hm hb ha
   cases m with
   | zero=>omega
   | succ m=>
     have e:decide ((d:Int) < ((d+0:Nat):Int))=false:=decide_eq_false (by omega)
     unfold rN
     simp only [oN,oF,oI,oG,oP,oQ,oR,oS,oH,oJ,oK,oL,oO,g24,e,aH,List.replicate_zero,jn]
 | succ c ih=>
   intro d m acc hm hb ha
   cases m with
   | zero=>omega
   | succ m=>
     have e:decide ((d:Int) < ((d+(c+1):Nat):Int))=true:=decide_eq_true (by omega)
     have hl:(acc.length+[a].length≤17592186044416)=True:=by rw [eq_iff_iff,iff_true]; simp only [iO]; omega
     have hw:IntKind.i64.wrap ((d:Int)+1)=((d+1:Nat):Int):=by rw [gd (by omega)]; simp
     unfold rN
     simp only [oN,oF,oI,oG,oP,oQ,oR,oS,oH,oJ,oK,oL,oO,g24,e,aR,hl,if_true,hw]
     have:=ih (d+1) m (acc++[a]) (by omega) (by omega) (by simp; omega)
     rw [show d+1+c=d+(c+1) by omega,bI] at this
     rw [this]
     rfl
theorem aaJ {R:Type} (K:List Int→Option R) (o:aS) (ho:oE o=0):
  ∀ (ys pre:List Int) (m:Nat) (acc:List Int) (a:Int),ys.all (cT o)=true→ys.length < m→(pre++ys).length≤1000→acc.length+4 * ys.length≤100000→0≤a→a+4 * ys.length≤100000→
    o7 2000 (fun _ a _ _ _ _=>K a) m o acc a (pre++ys) ((pre++ys).length:Int) (pre.length:Int)=K (acc++pk o a ys):=by
 intro ys
 induction ys with
 | nil=>
   intro pre m acc a hi hm hb ha h0 h1
   cases m with
   | zero=>omega
   | succ m=>
     unfold o7
     simp only [oN,oF,oI,oG,oP,oQ,oR,oS,oH,oJ,oK,oL,oO,g24,fo,aH,pk,jn acc]
 | cons y ys ih=>
   intro pre m acc a hi hm hb ha h0 h1
   cases m with
   | zero=>omega
   | succ m=>
     have hwr:=fq pre ys y (by unfold bV; omega)
     simp only [dy,aq] at hi
     have hy:=hQ.1 hi.1
     have hg:=ke (mB ho hy)
     have hin:(0≤y∧y < (o.2.1.length:Int))=True:=by rw [eq_iff_iff,iff_true]; exact hy
     have hs:o.2.1.getD y.toNat g0=sg o y:=rfl
     simp only [eD] at ha h1
     have hw:IntKind.i64.wrap (a+((sg o y).1.length:Int))=a+((sg o y).1.length:Int):=gd (by omega)
     have hI:=aaI (R:=R) (fun y0 y1 y2 y3 y4 y5 y6=>if 0≤y3∧y3 < (y0.2.1.length:Int) then o7 2000 (fun _ a _ _ _ _=>K a) m y0 y1 (IntKind.i64.wrap (y2+(((y0.2.1.getD y3.toNat g0).1).length:Int))) y4 y5 (IntKind.i64.wrap (y6+(1:Int))) else none) o a y (pre++y::ys) ((pre++y::ys).length:Int) (pre.length:Int) (sg o y).2.1.length 0 2000 acc (by omega) (by omega) (by omega)
     simp only [kA] at hI
     have z:((0:Nat):Int)=0:=rfl
     rw [z] at hI
     unfold o7
     simp only [oN,oF,oI,oG,oP,oQ,oR,oS,oH,oJ,oK,oL,oO,g24,fb,eu,dY,if_true,aR,hin,hs]
     refine dO hI ?_
     simp only [hin,if_true,hs,hw,hwr,pk]
     have:=ih (pre++[y]) m (acc++gG (sg o y).2.1.length a) (a+((sg o y).1.length:Int)) hi.2 (by simpa using hm) (by rw [←bM]; exact hb) (by simp only [b5,Jo]; omega) (by omega) (by omega)
     rw [←bM,bI] at this
     exact this
theorem v24 (o:aS) (l:List Int) (hl:l.length≤40):gw 2000 o l=some (cond (lE o l != 0) ([],lE o l) (pk o 0 l,0)):=by
 unfold gw
 simp only [oN,oF,oI,oG,oP,oQ,oR,oS,oH,oJ,oK,oL,oO,g24,v55 o l hl,ar]
 cases h:lE o l != 0 with
 | true=>rfl
 | false=>
   obtain ⟨ho,h16,hi⟩:=aab (by simpa using h)
   have:=aaJ (R:=List Int×Int) (fun a=>some (a,0)) o ho l [] 2000 [] 0 hi (by omega) (by simp; omega) (by simp; omega) (by omega) (by omega)
   simp only [dP,ep] at this
   exact this
theorem aat {R:Type} (k0:Bool→Option R) (K:Option R):
  ∀ (ys pre zs pre2:List Int) (m:Nat),ys.length < m→(pre++ys).length≤bV→pre.length=pre2.length→ys.length=zs.length→
    rL k0 (fun _ _ _ _=>K) m (pre++ys) (pre2++zs) ((pre++ys).length:Int) (pre.length:Int)=ad (ys==zs) K (k0 false):=by
 intro ys
 induction ys with
 | nil=>
   intro pre zs pre2 m hm hb hp hz
   have:zs=[]:=lU.1 hz.symm
   subst this
   cases m with
   | zero=>omega
   | succ m=>
     unfold rL
     simp only [uY,uU,uV,uW,uX,uZ,g15,fo,aH]
     rfl
 | cons y ys ih=>
   intro pre zs pre2 m hm hb hp hz
   obtain ⟨z,zs,rfl⟩:∃ z zs',zs=z::zs':=by
    cases zs with
    | nil=>simp at hz
    | cons z zs=>exact ⟨z,zs,rfl⟩
   cases m with
   | zero=>omega
   | succ m=>
     have hwr:=fq pre ys y hb
     have i2:(0≤(pre.length:Int)∧(pre.length:Int) < ((pre2++z::zs).length:Int))=True:=by rw [hp]; exact eu _ _ _
     have a2:(pre2++z::zs).getD (gF (pre.length:Int)) (0:Int)=z:=by rw [hp]; exact dY _ _ _ _
     have e:((y::ys)==(z::zs))=(y==z&&ys==zs):=rfl
     unfold rL
     simp only [uY,uU,uV,uW,uX,uZ,g15,fb,eu,dY,if_true,aR,hwr,i2,a2,e]
     cases h:y==z with
     | false=>
       have:(y != z)=true:=by unfold bne; rw [h]; rfl
       simp only [this,aR,jB,aH]
     | true=>
       have:(y != z)=false:=by unfold bne; rw [h]; rfl
       simp only [this,aH,fr]
       rw [bM pre ys y,bM pre2 zs z]
       exact ih (pre++[y]) zs (pre2++[z]) m (by simpa using hm) (by rw [←bM]; exact hb) (by simp [hp]) (by simpa using hz)
theorem v15 (a b:List Int) (h:a.length < 2000):gu 2000 a b=some (a==b):=by
 unfold gu
 simp only [uY,uU,uV,uW,uX,uZ,g15]
 by_cases hl:a.length=b.length
 ·have e:((a.length:Int) != (b.length:Int))=false:=by simp [hl]
  have:=aat (R:=Bool) some (some true) a [] b [] 2000 h (by unfold bV; simp; omega) rfl hl
  simp only [dP,ep] at this
  simp only [e,aH]
  refine dO this ?_
  cases a==b<;>rfl
 ·have e:((a.length:Int) != (b.length:Int))=true:=bne_iff_ne.2 (by omega)
  simp only [e,aR]
  have:(a==b)=false:=beq_eq_false_iff_ne.2 fun e=>hl (congrArg kr e)
  rw [this]
theorem abY {o:aS} (h:oE o=0):∀ {l:List Int} {a:Int},l.all (cT o)=true→(pk o a l).length=(sq o l).length
 | [],_,_=>rfl
 | i::r,a,hl=>by
   simp only [dy,aq] at hl
   simp only [pk,sq,b5,Jo,abY h hl.2]
def nT:List bQ→Bool
 | []=>false
 | s::_=>gn s
def en (l:List bQ):Bool:=match l.getLast? with | none=>false | some s=>gn s
def qz (w:Int) (bf af:List bQ):Bool:=cond (w==0) true (cond (w==1) (nT af) (cond (w==2) (nT af&&(bf.length:Int)==0) (cond (w==3) (nT af&&en bf) (cond (w==4) (!nT af) false))))
def gl (o:aS) (i:Int) (bf af:List bQ):Bool:=cT o i&&qz (sg o i).2.2.2.1 bf af
theorem Uq (l:List bQ) (s:bQ):en (l++[s])=gn s:=by unfold en; simp
theorem an4 (w:Int) (bf af af2:List bQ) (h:nT af=nT af2):qz w bf af=qz w bf af2:=by unfold qz; rw [h]
theorem v60 (o:aS) (i:Int) (bf af:List bQ) (hb:bf.length≤bV):bw 2000 o i bf af=some (gl o i bf af):=by
 unfold bw gl cT
 simp only [Hu,Hv,Hw,Hx,Hy,qW,v87,ar]
 cases h1:decide (i < 0) with
 | true=>rfl
 | false=>
   cases h2:decide (i≥(o.2.1.length:Int)) with
   | true=>rfl
   | false=>
     have e1:=of_decide_eq_false h1
     have e2:=of_decide_eq_false h2
     have hin:(0≤i∧i < (o.2.1.length:Int))=True:=by rw [eq_iff_iff,iff_true]; omega
     have hs:o.2.1.getD i.toNat g0=sg o i:=rfl
     have key:∀ b:Bool,nT af=b→(ad ((sg o i).2.2.2.1==(0:Int)) (some true) (ad ((sg o i).2.2.2.1==(1:Int)) (some b) (ad ((sg o i).2.2.2.1==(2:Int)) (ad b (some ((bf.length:Int)==(0:Int))) (some false)) (ad ((sg o i).2.2.2.1==(3:Int)) (ad b (ad (decide ((bf.length:Int) > (0:Int)))
       (if 0≤IntKind.i64.wrap ((bf.length:Int) - 1)∧IntKind.i64.wrap ((bf.length:Int) - 1) < (bf.length:Int) then some (gn (bf.getD (IntKind.i64.wrap ((bf.length:Int) - 1)).toNat s0)) else none) (some false)) (some false)) (ad ((sg o i).2.2.2.1==(4:Int)) (some (!b)) (some false))))))=some (!false&&!false&&qz (sg o i).2.2.2.1 bf af):=by
      intro b hbb
      have hl:(ad (decide ((bf.length:Int) > (0:Int))) (if 0≤IntKind.i64.wrap ((bf.length:Int) - 1)∧IntKind.i64.wrap ((bf.length:Int) - 1) < (bf.length:Int) then some (gn (bf.getD (IntKind.i64.wrap ((bf.length:Int) - 1)).toNat s0)) else none) (some false))=some (en bf):=by
       rcases Jl bf with h | ⟨l,s,h⟩
       ·subst h; rfl
       ·rw [Jj] at h
        subst h
        have hlen:l.length < bV:=by simp at hb; omega
        have w:IntKind.i64.wrap (((l++[s]).length:Int) - 1)=(l.length:Int):=by
         have:((l++[s]).length:Int) - 1=(l.length:Int):=by simp
         rw [this]; exact gd (by unfold bV at hlen; omega)
        have d:decide (((l++[s]).length:Int) > 0)=true:=decide_eq_true (by simp only [b5,iO]; omega)
        have c:(0≤(l.length:Int)∧(l.length:Int) < ((l++[s]).length:Int))=True:=by rw [eq_iff_iff,iff_true]; simp only [b5,iO]; omega
        rw [w,d,Uq]
        simp only [c,if_true,aR]
        simp
      rw [hl]
      unfold qz
      rw [hbb]
      cases (sg o i).2.2.2.1==(0:Int)<;>cases (sg o i).2.2.2.1==(1:Int)<;>cases (sg o i).2.2.2.1==(2:Int)<;>cases (sg o i).2.2.2.1==(3:Int)<;>cases (sg o i).2.2.2.1==(4:Int)<;>cases b<;>rfl
     simp only [aH,hin,if_true,hs]
     cases af with
     | nil=>
       have d:decide ((([]:List bQ).length:Int) > 0)=false:=rfl
       simp only [d,aH]
       exact key false rfl
     | cons s af=>
       have d:decide (((s::af).length:Int) > 0)=true:=decide_eq_true (by simp only [eD]; omega)
       have c:(0≤(0:Int)∧(0:Int) < ((s::af).length:Int))=True:=by rw [eq_iff_iff,iff_true]; simp only [eD]; omega
       simp only [d,aR,c,if_true]
       exact key (gn s) rfl
def eJ (o:aS) (i:Int):List bQ:=cond (decide (i < 0)) [] (sg o i).2.1
abbrev Nd:Type:=Int×(Int×(Int×Unit))
abbrev jr:Type:=aS×(List UInt8×(List (Nd×Int)×Unit))
theorem Te (x:jr) (i:Int) (h:i < (x.1.2.1.length:Int)):bx 2000 x i=some (eJ x.1 i):=by
 unfold bx eJ
 simp only [HC,ru]
 cases h1:decide (i < 0) with
 | true=>rfl
 | false=>
   have e1:=of_decide_eq_false h1
   have hin:(0≤i∧i < (x.1.2.1.length:Int))=True:=by rw [eq_iff_iff,iff_true]; omega
   simp only [aH,hin,if_true]
   rfl
theorem SP {o:aS} (ho:oE o=0) (i:Int) (h:i < (o.2.1.length:Int)):(eJ o i).length≤2:=by
 unfold eJ
 cases h1:decide (i < 0) with
 | true=>simp
 | false=>exact (ke (mB ho ⟨by have:=of_decide_eq_false h1; omega,h⟩)).1
def pf (s t:List UInt8):Bool:=decide ((s.length:Int)≥(t.length:Int))&&(s.take t.length==t)
theorem v54 (s t:List UInt8):aQ 2000 s t=some (pf s t):=by
 unfold aQ
 simp only [Hr,qU]
 unfold eM pf
 simp only [HE,ry]
 cases h:decide ((s.length:Int)≥(t.length:Int)) with
 | false=>rfl
 | true=>
   have:=of_decide_eq_true h
   have c:(0≤(0:Int)∧(0:Int)≤(t.length:Int)∧(t.length:Int)≤(s.length:Int))=True:=by rw [eq_iff_iff,iff_true]; omega
   simp only [aR,c,if_true,ar,fr]
   simp
theorem Bg {s t:List UInt8}:pf s t=true↔∃ r,s=t++r:=by
 unfold pf
 rw [aq,decide_eq_true_iff,beq_iff_eq]
 constructor
 ·rintro ⟨_,h⟩
  exact ⟨s.drop t.length,by rw [←h]; conv=>lhs; rw [←List.take_append_drop t.length s]
                            simp [h]⟩
 ·rintro ⟨r,rfl⟩
  simp; omega
def fZ (o:aS) (w:List UInt8) (n:Nd) (s:db):Bool:=pf (w.drop n.2.2.1.toNat) s.1&&(decide (n.2.1 < 0) || gl o n.2.1 (eJ o n.1) s.2.1)
def jz (n:Nd) (i:Int) (s:db):Nd:=(n.2.1,(i,(n.2.2.1+(s.1.length:Int),())))
def du (o:aS) (w:List UInt8) (n:Nd):List db→Int→List Nd
 | [],_=> []
 | s::r,i=>cond (fZ o w n s) (jz n i s::du o w n r (i+1)) (du o w n r (i+1))
structure Ok (o:aS) (w:List UInt8) (n:Nd):Prop where
 b:n.1 < (o.2.1.length:Int)
 s:n.2.1 < (o.2.1.length:Int)
 e0:0≤n.2.2.1
 e1:n.2.2.1≤(w.length:Int)
theorem aaH {R:Type} (K:List Nd→Option R) (x:jr) (ho:oE x.1=0) (hw:x.2.1.length≤100) (n:Nd) (hn:Ok x.1 x.2.1 n):
  ∀ (ys pre:List db) (m:Nat) (acc:List Nd),ys.length < m→(pre++ys).length≤120→acc.length≤pre.length→(∀ s∈ys,s.1.length≤4)→
    pa (aQ 2000) (bw 2000) (bx 2000) (fun _ _ a _ _ _=>K a) m x n acc (pre++ys) ((pre++ys).length:Int) (pre.length:Int)=K (acc++du x.1 x.2.1 n ys (pre.length:Int)):=by
 intro ys
 induction ys with
 | nil=>
   intro pre m acc hm hb ha hy
   cases m with
   | zero=>omega
   | succ m=>
     unfold pa
     simp only [vZ,vV,vW,vX,vY,v7,nr,fo,aH,du,jn acc]
 | cons y ys ih=>
   intro pre m acc hm hb ha hy
   cases m with
   | zero=>omega
   | succ m=>
     have hwr:=fq pre ys y (by unfold bV; omega)
     have hl:((pre++[y]).length:Int)=(pre.length:Int)+1:=by simp
     have hbp:pre.length < 120:=by simp at hb; omega
     have hy4:=hy y (by simp)
     have hgo:∀ a:List Nd,a.length≤pre.length+1→pa (aQ 2000) (bw 2000) (bx 2000) (fun _ _ a _ _ _=>K a) m x n a (pre++y::ys) ((pre++y::ys).length:Int) ((pre++[y]).length:Int)=K (a++du x.1 x.2.1 n ys ((pre.length:Int)+1)):=by
      intro a h
      have:=ih (pre++[y]) m a (by simpa using hm) (by rw [←bM]; exact hb) (by simpa using h) (fun s hs=>hy s (eL _ hs))
      rw [←bM,hl] at this
      rw [hl]; exact this
     have he0:=hn.e0; have he1:=hn.e1
     have c:(0≤n.2.2.1∧n.2.2.1≤(x.2.1.length:Int)∧(x.2.1.length:Int)≤(x.2.1.length:Int))=True:=by rw [eq_iff_iff,iff_true]; omega
     have ht:(x.2.1.drop n.2.2.1.toNat).take ((x.2.1.length:Int).toNat - n.2.2.1.toNat)=x.2.1.drop n.2.2.1.toNat:=by
      apply List.take_of_length_le; rw [nK]; omega
     have hwe:IntKind.i64.wrap (n.2.2.1+(y.1.length:Int))=n.2.2.1+(y.1.length:Int):=gd (by omega)
     have hla:∀ z:Nd,(acc.length+[z].length≤5864062014805)=True:=by intro z; rw [eq_iff_iff,iff_true]; simp only [iO]; omega
     have hto:((n.2.1,((pre.length:Int),(n.2.2.1+(y.1.length:Int),()))):Nd)=jz n (pre.length:Int) y:=rfl
     have hyes:K ((acc++[jz n (pre.length:Int) y])++du x.1 x.2.1 n ys ((pre.length:Int)+1))=K (acc++jz n (pre.length:Int) y::du x.1 x.2.1 n ys ((pre.length:Int)+1)):=by rw [bI]; rfl
     unfold pa
     simp only [vZ,vV,vW,vX,vY,v7,nr,fb,eu,dY,if_true,aR,hwr,c,ht,v54,ar,hwe,hla,hto,du,fZ]
     cases h1:pf (x.2.1.drop n.2.2.1.toNat) y.1 with
     | false=>simp only [aH,jB,cond_false]; exact hgo acc (by omega)
     | true=>
       simp only [aR,fr]
       cases h2:decide (n.2.1 < 0) with
       | true=>
         simp only [aR,sB,cond_true]
         exact (hgo _ (by simp; omega)).trans hyes
       | false=>
         simp only [aH,lT,Te x n.1 hn.b,ar,v60 x.1 n.2.1 (eJ x.1 n.1) y.2.1 (by have:=SP ho n.1 hn.b; unfold bV; omega)]
         cases h3:gl x.1 n.2.1 (eJ x.1 n.1) y.2.1 with
         | false=>simp only [aH,cond_false]; exact hgo acc (by omega)
         | true=>
           simp only [aR,cond_true]
           exact (hgo _ (by simp; omega)).trans hyes
theorem Tf (x:jr) (ho:oE x.1=0) (hw:x.2.1.length≤100) (n:Nd) (hn:Ok x.1 x.2.1 n):bX 2000 x n=some (du x.1 x.2.1 n x.1.2.1 0):=by
 unfold bX
 have h120:=(r8 ho).2.1
 have:=aaH (R:=List Nd) some x ho hw n hn x.1.2.1 [] 2000 [] (by omega) (by simpa using h120) (by simp) (fun s hs=>(ke ((r8 ho).1 s hs)).2.2.2)
 simp only [dP,ep] at this
 simp only [vZ,vV,vW,vX,vY,v7,nr]
 exact this
theorem IF {o:aS} {w:List UInt8} {n m:Nd} (ho:oE o=0) (hn:Ok o w n):∀ (ys pre:List db),o.2.1=pre++ys→m∈du o w n ys (pre.length:Int)→
  m.1=n.2.1∧0≤m.2.1∧m.2.1 < (o.2.1.length:Int)∧n.2.2.1 < m.2.2.1∧m.2.2.1≤(w.length:Int)∧m.2.2.1=n.2.2.1+((sg o m.2.1).1.length:Int)∧fZ o w n (sg o m.2.1)=true
 | [],_,_,h=>absurd h (by simp [du])
 | y::ys,pre,hl,h=>by
   have hgo:=IF (m:=m) ho hn ys (pre++[y]) (by rw [hl,bM])
   have hlen:((pre++[y]).length:Int)=(pre.length:Int)+1:=by simp
   rw [hlen] at hgo
   unfold du at h
   cases hk:fZ o w n y with
   | false=>rw [hk,cond_false] at h; exact hgo h
   | true=>
     rw [hk,cond_true] at h
     rcases cD.1 h with h | h
     ·subst h
      have hsg:sg o (pre.length:Int)=y:=by unfold sg; rw [hl]; exact dY _ _ _ _
      have hmem:y∈o.2.1:=by rw [hl]; simp
      have hg:=ke ((r8 ho).1 y hmem)
      have hpos:0 < y.1.length:=BL.2 hg.2.2.1
      have hkk:=hk
      unfold fZ at hk
      simp only [aq] at hk
      obtain ⟨r,hr⟩:=Bg.1 hk.1
      have h1:=congrArg kr hr
      simp only [nK,b5] at h1
      have he0:=hn.e0; have he1:=hn.e1
      refine ⟨rfl,by show 0≤(pre.length:Int); omega,by show (pre.length:Int) < _; rw [hl]; simp only [b5,eD]; omega,by show n.2.2.1 < n.2.2.1+(y.1.length:Int); omega,by show n.2.2.1+(y.1.length:Int)≤_; omega,by show n.2.2.1+(y.1.length:Int)=n.2.2.1+((sg o (pre.length:Int)).1.length:Int); rw [hsg],by show fZ o w n (sg o (pre.length:Int))=true; rw [hsg]; exact hkk⟩
     ·exact hgo h
theorem R9 {o:aS} {w:List UInt8} {n m:Nd} (ho:oE o=0) (hn:Ok o w n) (h:m∈du o w n o.2.1 0):Ok o w m∧n.2.2.1 < m.2.2.1∧0≤m.2.1:=by
 have:=IF ho hn o.2.1 [] rfl h
 have he0:=hn.e0
 exact ⟨⟨by rw [this.1]; exact hn.s,this.2.2.1,by omega,this.2.2.2.2.1⟩,this.2.2.2.1,this.2.1⟩
def wy (o:aS) (w:List UInt8):Nat→Nd→List (List Int)
 | 0,_=> []
 | f+1,n=>cond (n.2.2.1==(w.length:Int)) (cond (decide (n.2.1≥0)&&gl o n.2.1 (eJ o n.1) []) [[]] []) ((du o w n o.2.1 0).flatMap fun m=>(wy o w f m).map (m.2.1:: ·))
def rm (w:List UInt8) (n:Nd):Nat:=((w.length:Int) - n.2.2.1).toNat
def ways (o:aS) (w:List UInt8) (n:Nd):List (List Int):=wy o w (rm w n+1) n
theorem mz {o:aS} {w:List UInt8} {n m:Nd} (ho:oE o=0) (hn:Ok o w n) (h:m∈du o w n o.2.1 0):Ok o w m∧rm w m < rm w n∧0≤m.2.1:=by
 have h1:=R9 ho hn h
 have:=h1.1.e1; have:=h1.2.1
 exact ⟨h1.1,by unfold rm; omega,h1.2.2⟩
theorem OG {α β:Type} {l:List α} {f g:α→List β} (h:∀ x∈l,f x=g x):l.flatMap f=l.flatMap g:=by
 induction l with
 | nil=>rfl
 | cons x l ih=>rw [xj,xj,h x (by simp),ih (fun y hy=>h y (eL _ hy))]
theorem Tn {o:aS} {w:List UInt8} (ho:oE o=0):∀ (f f':Nat) (n:Nd),Ok o w n→rm w n < f→rm w n < f'→wy o w f n=wy o w f' n
 | 0,_,_,_,h,_=>by omega
 | _+1,0,_,_,_,h=>by omega
 | f+1,f'+1,n,hn,h1,h2=>by
   unfold wy
   rw [OG fun m hm=>by
    have h3:=mz ho hn hm
    rw [Tn ho f f' m h3.1 (by omega) (by omega)]]
theorem By {o:aS} {w:List UInt8} {n:Nd} (h:(n.2.2.1==(w.length:Int))=true):ways o w n=cond (decide (n.2.1≥0)&&gl o n.2.1 (eJ o n.1) []) [[]] []:=by
 unfold ways wy; rw [h,cond_true]
theorem w0 {o:aS} {w:List UInt8} {n:Nd} (ho:oE o=0) (hn:Ok o w n) (h:(n.2.2.1==(w.length:Int))=false):ways o w n=(du o w n o.2.1 0).flatMap fun m=>(ways o w m).map (m.2.1:: ·):=by
 have h0:ways o w n=wy o w (rm w n+1) n:=rfl
 rw [h0]
 unfold wy; rw [h,cond_false]
 refine OG fun m hm=>?_
 have h3:=mz ho hn hm
 have h4:ways o w m=wy o w (rm w m+1) m:=rfl
 rw [h4,Tn ho (rm w n) (rm w m+1) m h3.1 (by omega) (by omega)]
theorem I6 {o:aS} {w:List UInt8} (ho:oE o=0):∀ (f:Nat) (n:Nd),Ok o w n→∀ l∈wy o w f n,l.length≤rm w n
 | 0,_,_,l,h=>absurd h (by simp [wy])
 | f+1,n,hn,l,h=>by
   unfold wy at h
   cases he:n.2.2.1==(w.length:Int) with
   | true=>
     rw [he,cond_true] at h
     cases hf:decide (n.2.1≥0)&&gl o n.2.1 (eJ o n.1) [] with
     | true=>rw [hf,cond_true] at h; rw [fS.1 h]; simp
     | false=>rw [hf,cond_false] at h; cases h
   | false=>
     rw [he,cond_false] at h
     obtain ⟨m,hm,h2⟩:=BN.1 h
     obtain ⟨l',hl',rfl⟩:=c4.1 h2
     have h3:=mz ho hn hm
     have:=I6 ho f m h3.1 l' hl'
     simp only [eD]; omega
def cn (o:aS) (w:List UInt8) (n:Nd):Int:=((min 201 (ways o w n).length:Nat):Int)
abbrev lx (a b:Nd):Bool:=(a.1==b.1)&&((a.2.1==b.2.1)&&((a.2.2.1==b.2.2.1)&&true))
theorem Us {a b:Nd} (h:lx a b=true):a=b:=by
 obtain ⟨a1,a2,a3,a4⟩:=a; obtain ⟨b1,b2,b3,b4⟩:=b
 simp only [lx,ib,aq,beq_iff_eq] at h
 obtain ⟨h1,h2,h3⟩:=h
 subst h1; subst h2; subst h3; rfl
def Inv (o:aS) (w:List UInt8) (mp:List (Nd×Int)):Prop:=∀ p∈mp,p.2=cn o w p.1
theorem R1 {o:aS} {w:List UInt8} {k:Nd}:∀ {mp:List (Nd×Int)},Inv o w mp→(hX lx 0 mp k).2=true→(hX lx 0 mp k).1=cn o w k
 | [],_,h=>by simp [hX] at h
 | e::r,hI,h=>by
   unfold hX at h ⊢
   cases he:lx k e.1 with
   | true=>
     simp only [he]
     rw [Us he]
     exact hI e (by simp)
   | false=>
     simp only [he] at h ⊢
     exact R1 (fun p hp=>hI p (eL _ hp)) h
theorem R3 {o:aS} {w:List UInt8} {k:Nd}:∀ {mp:List (Nd×Int)},Inv o w mp→Inv o w (iF lx mp k (cn o w k))
 | [],_,p,hp=>by
   simp only [iF,fS] at hp
   rw [hp]
 | e::r,hI,p,hp=>by
   unfold iF at hp
   cases he:lx k e.1 with
   | true=>
     simp only [he] at hp
     rcases cD.1 hp with h | h
     ·rw [h]
     ·exact hI p (eL _ h)
   | false=>
     simp only [he] at hp
     rcases cD.1 hp with h | h
     ·rw [h]; exact hI e (by simp)
     ·exact R3 (fun p hp=>hI p (eL _ hp)) p h
def jV (o:aS) (w:List UInt8):List Nd→Nat
 | []=>0
 | m::r=>(ways o w m).length+jV o w r
theorem Bx (o:aS) (w:List UInt8):∀ l:List Nd,(l.flatMap fun m=>(ways o w m).map (m.2.1:: ·)).length=jV o w l
 | []=>rfl
 | m::r=>by rw [xj,b5,mG,Bx o w r]; rfl
theorem sat (s c:Nat):(if (201:Int) < ((min 201 s:Nat):Int)+((min 201 c:Nat):Int) then (201:Int) else ((min 201 s:Nat):Int)+((min 201 c:Nat):Int))=((min 201 (s+c):Nat):Int):=by
 split<;>omega
theorem aaU {R:Type} (F:jr→Nd→Option (jr×Int)) (o:aS) (w:List UInt8) (n:Nd) (k0:jr→Nd→Int→Option R):
  ∀ (ys pre:List Nd) (M:Nat) (mp:List (Nd×Int)) (s:Nat),ys.length < M→(pre++ys).length≤1000→Inv o w mp→
    (∀ y∈ys,∀ mp,Inv o w mp→∃ mp',Inv o w mp'∧F (o,(w,(mp,()))) y=some ((o,(w,(mp',()))),cn o w y))→
    ∃ mp',Inv o w mp'∧rQ F (fun y0 y1 y2 _ _ _=>k0 y0 y1 y2) M (o,(w,(mp,()))) n ((min 201 s:Nat):Int) (pre++ys) ((pre++ys).length:Int) (pre.length:Int)=k0 (o,(w,(mp',()))) n ((min 201 (s+jV o w ys):Nat):Int):=by
 intro ys
 induction ys with
 | nil=>
   intro pre M mp s hM hb hI hF
   cases M with
   | zero=>omega
   | succ M=>
     refine ⟨mp,hI,?_⟩
     unfold rQ
     simp only [vu,vp,vq,vr,vt,vw,qM,fo,aH,jV,Nat.add_zero]
 | cons y ys ih=>
   intro pre M mp s hM hb hI hF
   cases M with
   | zero=>omega
   | succ M=>
     have hwr:=fq pre ys y (by unfold bV; omega)
     have hl:(gF (pre.length:Int) < (pre++y::ys).length)=True:=r6 pre ys y
     obtain ⟨mp1,hI1,h1⟩:=hF y (by simp) mp hI
     obtain ⟨mp2,hI2,h2⟩:=ih (pre++[y]) M mp1 (s+(ways o w y).length) (by simpa using hM) (by rw [←bM]; exact hb) hI1 (fun z hz=>hF z (eL _ hz))
     rw [←bM] at h2
     refine ⟨mp2,hI2,?_⟩
     have hc:cn o w y=((min 201 (ways o w y).length:Nat):Int):=rfl
     have hw:IntKind.i64.wrap (((min 201 s:Nat):Int)+cn o w y)=((min 201 s:Nat):Int)+cn o w y:=gd (by rw [hc]; omega)
     unfold rQ
     simp only [vu,vp,vq,vr,vt,vw,qM,fb,eu,dY,if_true,aR,hl,h1,ar,hw,hwr]
     rw [hc,sat]
     refine dO h2 ?_
     rw [show jV o w (y::ys)=(ways o w y).length+jV o w ys from rfl,Nat.add_assoc]
theorem IE (o:aS) (w:List UInt8) (n:Nd):∀ (ys:List db) (i:Int),(du o w n ys i).length≤ys.length
 | [],_=>by simp [du]
 | y::ys,i=>by
   have:=IE o w n ys (i+1)
   unfold du
   cases fZ o w n y<;>simp only [cond_true,cond_false,eD]<;>omega
theorem aam {o:aS} {w:List UInt8} (ho:oE o=0) (hw:w.length≤100):∀ (m:Nat) (n:Nd) (mp:List (Nd×Int)),Ok o w n→rm w n < m→Inv o w mp→
  ∃ mp',Inv o w mp'∧mJ 2000 m (o,(w,(mp,()))) n=some ((o,(w,(mp',()))),cn o w n):=by
 intro m
 induction m with
 | zero=>intro n mp hn hm; omega
 | succ m ih=>
   intro n mp hn hm hI
   unfold mJ
   simp only [vu,vp,vq,vr,vt,vw,qM]
   cases he:n.2.2.1==(w.length:Int) with
   | true=>
     refine ⟨mp,hI,?_⟩
     have hc:cn o w n=cond (decide (n.2.1≥0)&&gl o n.2.1 (eJ o n.1) []) 1 0:=by
      unfold cn; rw [By he]
      cases decide (n.2.1≥0)&&gl o n.2.1 (eJ o n.1) []<;>rfl
     rw [hc]
     simp only [aR]
     cases hd:decide (n.2.1≥0) with
     | false=>rfl
     | true=>
       simp only [aR,Te (o,(w,(mp,()))) n.1 hn.b,ar,v60 o n.2.1 (eJ o n.1) [] (by have:=SP ho n.1 hn.b; unfold bV; omega),fr]
       cases gl o n.2.1 (eJ o n.1) []<;>rfl
   | false=>
     simp only [aH]
     have hg:=R1 (k:=n) hI
     have hdef:hX (fun a b:Nd=>(a.1==b.1)&&((a.2.1==b.2.1)&&((a.2.2.1==b.2.2.1)&&true))) (0:Int) mp n=hX lx 0 mp n:=rfl
     rw [hdef]
     cases hb:(hX lx 0 mp n).2 with
     | true=>
       refine ⟨mp,hI,?_⟩
       rw [hg hb]
       rfl
     | false=>
       have hnx:=Tf (o,(w,(mp,()))) ho hw n hn
       simp only at hnx
       have h120:=(r8 ho).2.1
       have hnl:=IE o w n o.2.1 0
       obtain ⟨mp1,hI1,h1⟩:=aaU (R:=jr×Int) (mJ 2000 m) o w n (fun x0 x1 x2=>some ((x0.1,(x0.2.1,((iF (fun a b:Nd=>((a.1==b.1)&&((a.2.1==b.2.1)&&((a.2.2.1==b.2.2.1)&&true)))) x0.2.2.1 x1 x2),x0.2.2.2))),x2)) (du o w n o.2.1 0) [] 2000 mp 0 (by omega) (by simp; omega) hI (fun y hy mp hI=>by
        have h3:=mz ho hn hy
        exact ih y mp h3.1 (by omega) hI)
       have hcn:((min 201 (0+jV o w (du o w n o.2.1 0)):Nat):Int)=cn o w n:=by
        unfold cn; rw [w0 ho hn he,Bx,kA]
       simp only [dP,ep] at h1
       rw [hcn] at h1
       refine ⟨iF lx mp1 n (cn o w n),R3 hI1,?_⟩
       simp only [aH,hnx,ar]
       exact h1
theorem Tj {o:aS} {w:List UInt8} (ho:oE o=0) (hw:w.length≤100) (n:Nd) (mp:List (Nd×Int)) (hn:Ok o w n) (hI:Inv o w mp):
  ∃ mp',Inv o w mp'∧aU 2000 (o,(w,(mp,()))) n=some ((o,(w,(mp',()))),cn o w n):=by
 unfold aU
 have h0:=hn.e0
 exact aam ho hw 250 n mp hn (by unfold rm; omega) hI
def al (o:aS) (w:List UInt8) (n:Nd):List (List Int):=cond (n.2.2.1==(w.length:Int)) [[]] (ways o w n)
theorem JA {o:aS} {w:List UInt8} {n:Nd} (h:ways o w n≠[]):al o w n=ways o w n:=by
 unfold al
 cases he:n.2.2.1==(w.length:Int) with
 | false=>rfl
 | true=>
   rw [By he] at h ⊢
   cases hf:decide (n.2.1≥0)&&gl o n.2.1 (eJ o n.1) [] with
   | true=>rfl
   | false=>rw [hf] at h; exact absurd rfl h
theorem aaR {R:Type} (K:jr→List (List Int)→List Nd→Int→Int→Option R) (x:jr) (n:Nd) (L:List Nd) (a b:Int):
  ∀ (ys pre:List (List Int)) (m:Nat) (acc:List (List Int)),ys.length < m→(pre++ys).length≤1000→acc.length+ys.length≤100000→(∀ l∈ys,l.length≤1000)→
    rR (fun y0 y1 _ y3 y4 y5 _ _ _=>K y0 y1 y3 y4 y5) m x acc n L a b (pre++ys) ((pre++ys).length:Int) (pre.length:Int)=K x (acc++ys.map (n.2.1:: ·)) L a b:=by
 intro ys
 induction ys with
 | nil=>
   intro pre m acc hm hb ha hy
   cases m with
   | zero=>omega
   | succ m=>
     unfold rR
     simp only [nf,na,nn,ni,nc,nh,nj,nk,np,nq,nd,ng,mo,fo,aH,List.map_nil,jn acc]
 | cons y ys ih=>
   intro pre m acc hm hb ha hy
   cases m with
   | zero=>omega
   | succ m=>
     have hwr:=fq pre ys y (by unfold bV; omega)
     have hl:(gF (pre.length:Int) < (pre++y::ys).length)=True:=r6 pre ys y
     have hy1:=hy y (by simp)
     simp only [eD] at ha
     have c1:([n.2.1].length+y.length≤17592186044416)=True:=by rw [eq_iff_iff,iff_true]; simp only [iO]; omega
     have c2:(acc.length+[[n.2.1]++y].length≤5864062014805)=True:=by rw [eq_iff_iff,iff_true]; simp only [iO]; omega
     unfold rR
     simp only [nf,na,nn,ni,nc,nh,nj,nk,np,nq,nd,ng,mo,fb,eu,dY,if_true,aR,hwr,hl,c1,c2,fQ]
     have:=ih (pre++[y]) m (acc++[[n.2.1]++y]) (by simpa using hm) (by rw [←bM]; exact hb) (by simp only [b5,iO]; omega) (fun l hl=>hy l (eL _ hl))
     rw [←bM,bI] at this
     exact this
theorem aae {R:Type} (F:jr→Nd→Option (jr×List (List Int))) {o:aS} {w:List UInt8} (ho:oE o=0) (hw:w.length≤100) (K:jr→List (List Int)→Option R):
  ∀ (ys pre:List Nd) (M:Nat) (mp:List (Nd×Int)) (acc:List (List Int)),ys.length < M→(pre++ys).length≤1000→Inv o w mp→(∀ y∈ys,Ok o w y)→acc.length+jV o w ys≤200→
    (∀ y∈ys,∀ mp,Inv o w mp→(ways o w y).length≤200→∃ mp',Inv o w mp'∧F (o,(w,(mp,()))) y=some ((o,(w,(mp',()))),al o w y))→
    ∃ mp',Inv o w mp'∧ns 2000 (aU 2000) F (fun y0 y1 _ _ _=>K y0 y1) M (o,(w,(mp,()))) acc (pre++ys) ((pre++ys).length:Int) (pre.length:Int)=K (o,(w,(mp',()))) (acc++ys.flatMap fun m=>(ways o w m).map (m.2.1:: ·)):=by
 intro ys
 induction ys with
 | nil=>
   intro pre M mp acc hM hb hI hO ha hF
   cases M with
   | zero=>omega
   | succ M=>
     refine ⟨mp,hI,?_⟩
     unfold ns
     simp only [nf,na,nn,ni,nc,nh,nj,nk,np,nq,nd,ng,mo,fo,aH,List.flatMap_nil,jn acc]
 | cons y ys ih=>
   intro pre M mp acc hM hb hI hO ha hF
   cases M with
   | zero=>omega
   | succ M=>
     have hwr:=fq pre ys y (by unfold bV; omega)
     have hl:(gF (pre.length:Int) < (pre++y::ys).length)=True:=r6 pre ys y
     have hy:=hO y (by simp)
     have ht:jV o w (y::ys)=(ways o w y).length+jV o w ys:=rfl
     rw [ht] at ha
     obtain ⟨mp1,hI1,h1⟩:=Tj ho hw y mp hy hI
     have hgo:=fun (mp:List (Nd×Int)) (acc:List (List Int)) (hI:Inv o w mp) (ha:acc.length+jV o w ys≤200)=>ih (pre++[y]) M mp acc (by simpa using hM) (by rw [←bM]; exact hb) hI (fun z hz=>hO z (eL _ hz)) ha (fun z hz=>hF z (eL _ hz))
     by_cases hc:cn o w y=0
     ·have hnil:ways o w y=[]:=by
       unfold cn at hc
       exact lU.1 (by omega)
      obtain ⟨mp2,hI2,h2⟩:=hgo mp1 acc hI1 (by omega)
      rw [←bM] at h2
      refine ⟨mp2,hI2,?_⟩
      have e:(cn o w y==0)=true:=beq_iff_eq.2 hc
      unfold ns
      simp only [nf,na,nn,ni,nc,nh,nj,nk,np,nq,nd,ng,mo,fb,eu,dY,if_true,aR,hl,h1,ar,e,hwr]
      rw [h2,xj,hnil]
      rfl
     ·have hne:ways o w y≠[]:=by
       intro h; apply hc; unfold cn; rw [h]; rfl
      obtain ⟨mp2,hI2,h2⟩:=hF y (by simp) mp1 hI1 (by omega)
      rw [JA hne] at h2
      have e:(cn o w y==0)=false:=beq_eq_false_iff_ne.2 hc
      obtain ⟨mp3,hI3,h3⟩:=hgo mp2 (acc++(ways o w y).map (y.2.1:: ·)) hI2 (by rw [b5,mG]; omega)
      rw [←bM,bI] at h3
      refine ⟨mp3,hI3,?_⟩
      have hp:=aaR (R:=R) (fun y0 y1 y3 y4 y5=>ns 2000 (aU 2000) F (fun y0 y1 _ _ _=>K y0 y1) M y0 y1 y3 y4 (IntKind.i64.wrap (y5+(1:Int)))) (o,(w,(mp2,()))) y (pre++y::ys) ((pre++y::ys).length:Int) (pre.length:Int) (ways o w y) [] 2000 acc (by omega) (by simp; omega) (by omega) (fun l hl=>by
       have h0:=hy.e0
       have:=I6 ho _ y hy l hl
       unfold rm at this; omega)
      simp only [dP,ep] at hp
      unfold ns
      simp only [nf,na,nn,ni,nc,nh,nj,nk,np,nq,nd,ng,mo,fb,eu,dY,if_true,aR,hl,h1,ar,e,aH,h2]
      refine dO hp ?_
      rw [hwr,h3,xj]
theorem aad {o:aS} {w:List UInt8} (ho:oE o=0) (hw:w.length≤100):∀ (m:Nat) (n:Nd) (mp:List (Nd×Int)),Ok o w n→rm w n < m→Inv o w mp→(ways o w n).length≤200→
  ∃ mp',Inv o w mp'∧mK 2000 m (o,(w,(mp,()))) n=some ((o,(w,(mp',()))),al o w n):=by
 intro m
 induction m with
 | zero=>intro n mp hn hm; omega
 | succ m ih=>
   intro n mp hn hm hI h200
   unfold mK al
   simp only [nf,na,nn,ni,nc,nh,nj,nk,np,nq,nd,ng,mo]
   cases he:n.2.2.1==(w.length:Int) with
   | true=>exact ⟨mp,hI,rfl⟩
   | false=>
     have hnx:=Tf (o,(w,(mp,()))) ho hw n hn
     simp only at hnx
     have h120:=(r8 ho).2.1
     have hnl:=IE o w n o.2.1 0
     rw [w0 ho hn he,Bx] at h200
     obtain ⟨mp1,hI1,h1⟩:=aae (R:=jr×List (List Int)) (mK 2000 m) ho hw (fun x0 x1=>some (x0,x1)) (du o w n o.2.1 0) [] 2000 mp [] (by omega) (by simp; omega) hI (fun y hy=>(mz ho hn hy).1) (by simpa using h200) (fun y hy mp hI h2=>by
      have h3:=mz ho hn hy
      exact ih y mp h3.1 (by omega) hI h2)
     simp only [dP,ep] at h1
     refine ⟨mp1,hI1,?_⟩
     simp only [aH,cond_false,hnx,ar,w0 ho hn he]
     exact h1
def wE (s:List UInt8):Int:=cond (s==[]) 7 (cond (decide ((s.length:Int) > 16)) 3 (cond (s.all jd) 0 2))
def iC (o:aS) (w:List UInt8):Int:=cond (oE o != 0) (oE o) (wE w)
theorem aax {R:Type} (k0:Int→Option R) (K:Option R) (f:Int×Unit→Option Bool) (p:Int→Bool):
  ∀ (ys pre:List Int) (m:Nat),(∀ t∈ys,f (t,())=some (p t))→ys.length < m→(pre++ys).length≤bV→
    (ys.any p=false→o4 k0 (fun _ _ _ _=>K) m (pre++ys) f ((pre++ys).length:Int) (pre.length:Int)=K)∧
    (ys.any p=true→∃ i:Nat,o4 k0 (fun _ _ _ _=>K) m (pre++ys) f ((pre++ys).length:Int) (pre.length:Int)=k0 (i:Int)):=by
 intro ys
 induction ys with
 | nil=>
   intro pre m hf hm hb
   cases m with
   | zero=>omega
   | succ m=>
     unfold o4
     simp only [uv,uw,ux,uy,uz,uA,qF,fo,aH,xg]
     exact ⟨fun _=>trivial,fun h=>by cases h⟩
 | cons y ys ih=>
   intro pre m hf hm hb
   cases m with
   | zero=>omega
   | succ m=>
     have hwr:=fq pre ys y hb
     have hgo:=ih (pre++[y]) m (fun t ht=>hf t (eL _ ht)) (by simpa using hm) (by rw [←bM]; exact hb)
     rw [←bM] at hgo
     unfold o4
     simp only [uv,uw,ux,uy,uz,uA,qF,fb,eu,dY,if_true,aR,hwr,hf y (by simp),ar,nJ]
     cases h:p y with
     | true=>simp only [aR,sB]; exact ⟨(fun h=>by cases h),fun _=>⟨pre.length,rfl⟩⟩
     | false=>simp only [aH,lT]; exact hgo
theorem v96 (xs:List Int) (hx:xs.length < 2000) (f:Int×Unit→Option Bool) (p:Int→Bool) (hf:∀ t∈xs,f (t,())=some (p t)):cY 2000 xs f=some (xs.any p):=by
 unfold cY
 simp only [HL,AQ]
 unfold il
 simp only [uv,uw,ux,uy,uz,uA,qF]
 have h:=aax (R:=Int) some (some (-1)) f p xs [] 2000 hf hx (by unfold bV; simp; omega)
 simp only [dP,ep] at h
 have z:((0:Nat):Int)=0:=rfl
 rw [z] at h
 cases ha:xs.any p with
 | false=>rw [h.1 ha]; rfl
 | true=>
   obtain ⟨i,h1⟩:=h.2 ha
   rw [h1]
   simp only [ar]
   have:decide ((i:Int)≥0)=true:=decide_eq_true (by omega)
   rw [this]
theorem TP (s:List UInt8):(s.map ch).any (fun t=>!dh t)=!(s.map ch).all dh:=by
 induction s with
 | nil=>rfl
 | cons b s ih=>simp only [fQ,nJ,dy,ih]; cases dh (ch b)<;>rfl
theorem aaK (s:List UInt8):s.all jd=((s.map ch).all dh&&s.all fun b=>!up b):=by
 induction s with
 | nil=>rfl
 | cons b s ih=>
   simp only [fQ,dy,ih,jd]
   have:dh (ch b)=dh (b.toNat:Int):=rfl
   rw [this]
   cases dh (b.toNat:Int)<;>cases up b<;>cases (s.map ch).all dh<;>cases s.all fun b=>!up b<;>rfl
theorem v71 (w:List UInt8) (h0:w≠[]) (hl:w.length≤16):∃ s,gV 2000 [w]=some (s,cond ((w.map ch).all dh) 0 2):=by
 have hc:cY 2000 (w.map fun b=>(b.toNat:Int)) (fun (x0:Int×Unit)=>((da 2000 x0.1).bind fun b=>some [.v .bool b]).bind (jA .bool))=some ((w.map ch).any fun t=>!dh t):=
  v96 (w.map ch) (by simp; omega) _ (fun t=>!dh t) (fun t ht=>by
   obtain ⟨b,_,rfl⟩:=c4.1 ht
   unfold da
   simp only [HM,AR]
   have:=(I3 b).1
   rw [show bT 2000 (ch b)=some (dh (ch b)) from this]
   rfl)
 have hJ:fk 2000 [w] [32]=some w:=by
  unfold fk
  simp only [HS,HO,HP,HQ,HR,HT,AS]
  rfl
 have h00:(w==[])=false:=by simpa using h0
 unfold gV
 simp only [vJ,vK,vL,vM,vN,vO,rp]
 show ∃ s,o9 (cY 2000) (da 2000) _ _ (1999+1) [w] [w] (1:Int) (0:Int)=_
 unfold o9
 have d0:decide ((0:Int) < 1)=true:=rfl
 have c0:(0≤(0:Int)∧(0:Int) < (([w]:List (List UInt8)).length:Int))=True:=by rw [eq_iff_iff,iff_true]; exact ⟨by omega,by simp⟩
 have g:([w]:List (List UInt8)).getD (0:Int).toNat []=w:=rfl
 simp only [vJ,vK,vL,vM,vN,vO,rp,d0,aR,c0,if_true,g,h00,aH,hc,ar,TP]
 cases ha:(w.map ch).all dh with
 | false=>exact ⟨[],rfl⟩
 | true=>
   simp only [eU,aH]
   show ∃ s,o9 (cY 2000) (da 2000) _ _ (1998+1) [w] [w] (1:Int) (IntKind.i64.wrap (0+1))=_
   unfold o9
   have w1:IntKind.i64.wrap (0+1)=1:=rfl
   have d1:decide ((1:Int) < 1)=false:=rfl
   have d2:decide ((w.length:Int) > 120)=false:=decide_eq_false (by omega)
   simp only [vJ,vK,vL,vM,vN,vO,rp,w1,d1,aH,hJ,ar,d2]
   exact ⟨w,rfl⟩
theorem v40 (o:aS) (w:List UInt8):dt 2000 o w=some (iC o w):=by
 unfold dt iC wE
 simp only [Hn,AG,v70,ar]
 cases oE o != 0 with
 | true=>rfl
 | false=>
   cases h0:w==[] with
   | true=>rfl
   | false=>
     cases h1:decide ((w.length:Int) > 16) with
     | true=>rfl
     | false=>
       have h2:=of_decide_eq_false h1
       obtain ⟨s,hs⟩:=v71 w (by simpa using h0) (by omega)
       simp only [aH,cond_false,hs,ar,v72 w (by omega)]
       rw [show (fold w != w)=!(fold w==w) from rfl,GM,aaK]
       cases (w.map ch).all dh<;>cases w.all (fun b=>!up b)<;>rfl
theorem AT {o:aS} {w:List UInt8} (h:iC o w=0):oE o=0∧w≠[]∧w.length≤16:=by
 unfold iC at h
 cases h1:oE o != 0 with
 | true=>rw [h1,cond_true] at h; rw [h] at h1; cases h1
 | false=>
   rw [h1,cond_false] at h
   unfold wE at h
   cases h2:w==[] with
   | true=>rw [h2] at h; cases h
   | false=>
     rw [h2] at h
     cases h3:decide ((w.length:Int) > 16) with
     | true=>rw [h3] at h; cases h
     | false=>have:=of_decide_eq_false h3; exact ⟨by simpa using h1,by simpa using h2,by omega⟩
def ee (o:aS):List Int→Int
 | []=>0
 | i::r=>(sg o i).2.2.1+ee o r
theorem Qs {x:db} (h:gE x=0):0≤x.2.2.1∧x.2.2.1≤99:=by
 unfold gE at h
 cases h1:tE x.1 != 0 with
 | true=>rw [h1,cond_true] at h; rw [h] at h1; cases h1
 | false=>
   rw [h1,cond_false] at h
   cases h2:(x.2.1.length:Int)==0 with
   | true=>rw [h2] at h; cases h
   | false=>
     rw [h2,cond_false] at h
     cases h3:decide ((x.2.1.length:Int) > 2) with
     | true=>rw [h3] at h; cases h
     | false=>
       rw [h3,cond_false] at h
       cases h4:jk x.2.1 != 0 with
       | true=>rw [h4,cond_true] at h; rw [h] at h4; cases h4
       | false=>
         rw [h4,cond_false] at h
         cases h5:sT x with
         | true=>rw [h5] at h; cases h
         | false=>
           unfold sT at h5
           simp only [Bool.or_eq_false_iff,decide_eq_false_iff_not] at h5
           omega
theorem N2 {o:aS} (ho:oE o=0):∀ {l:List Int},l.all (cT o)=true→0≤ee o l∧ee o l≤99 * l.length
 | [],_=>by simp [ee]
 | i::r,h=>by
   simp only [dy,aq] at h
   have h1:=Qs (mB ho (hQ.1 h.1))
   have h2:=N2 ho h.2
   simp only [ee,eD]; omega
theorem aal {R:Type} (K:Int→Option R) (o:aS) (ho:oE o=0):
  ∀ (ys pre:List Int) (m:Nat) (s:Int),ys.all (cT o)=true→ys.length < m→(pre++ys).length≤1000→0≤s→s≤99 * pre.length→
    rP (fun _ y1 _ _ _=>K y1) m o s (pre++ys) ((pre++ys).length:Int) (pre.length:Int)=K (s+ee o ys):=by
 intro ys
 induction ys with
 | nil=>
   intro pre m s hi hm hb h0 h1
   cases m with
   | zero=>omega
   | succ m=>
     unfold rP
     simp only [vn,vj,vk,vl,vm,vo,qL,fo,aH,ee,Int.add_zero]
 | cons y ys ih=>
   intro pre m s hi hm hb h0 h1
   cases m with
   | zero=>omega
   | succ m=>
     have hwr:=fq pre ys y (by unfold bV; omega)
     simp only [dy,aq] at hi
     have hy:=hQ.1 hi.1
     have hg:=Qs (mB ho hy)
     have hbp:pre.length < 1000:=by simp at hb; omega
     have hin:(0≤y∧y < (o.2.1.length:Int))=True:=by rw [eq_iff_iff,iff_true]; exact hy
     have hs:o.2.1.getD y.toNat g0=sg o y:=rfl
     have hw:IntKind.i64.wrap (s+(sg o y).2.2.1)=s+(sg o y).2.2.1:=gd (by omega)
     unfold rP
     simp only [vn,vj,vk,vl,vm,vo,qL,fb,eu,dY,if_true,aR,hwr,hin,hs,hw,ee]
     have:=ih (pre++[y]) m (s+(sg o y).2.2.1) hi.2 (by simpa using hm) (by rw [←bM]; exact hb) (by omega) (by simp only [b5,iO]; omega)
     rw [←bM,Int.add_assoc] at this
     exact this
theorem I2 (o:aS) (l:List Int) (ho:oE o=0) (hi:l.all (cT o)=true) (hl:l.length≤1000):dR 2000 o l=some (ee o l):=by
 unfold dR
 have:=aal (R:=Int) some o ho l [] 2000 0 hi (by omega) (by simpa using hl) (by omega) (by simp)
 simp only [dP,ep,Int.zero_add] at this
 simp only [vn,vj,vk,vl,vm,vo,qL]
 exact this
def gY (a b:Int):Int:=ad (decide (a < b)) (-1) (ad (decide (a > b)) 1 0)
theorem v46 (a b:Int):bW 2000 a b=some (gY a b):=by
 unfold bW gY
 simp only [Hp,AJ]
 have h:∀ x:Int,gx 2000 x=some false:=by
  intro x
  unfold gx
  simp only [HD,AN,bne_self_eq_false]
 simp only [h,ar,aH]
 cases decide (a < b)<;>cases decide (a > b)<;>rfl
theorem Fi {a b:Int} (h:a < b):gY a b= -1:=by unfold gY; rw [decide_eq_true h]; rfl
theorem Fh {a b:Int} (h:b < a):gY a b=1:=by unfold gY; rw [decide_eq_false (show ¬ a < b by omega),decide_eq_true (show a > b from h)]; rfl
theorem Fg (a:Int):gY a a=0:=by
 have h:decide (a < a)=false:=decide_eq_false (by omega)
 unfold gY
 simp only [gt_iff_lt,h,aH]
theorem pX (x:Int):ad ((-1:Int) != 0) (-1) x= -1:=rfl
theorem nU (x:Int):ad ((1:Int) != 0) 1 x=1:=rfl
def lex:List Int→List Int→Int
 | [],[]=>0
 | [],_::_=> -1
 | _::_,[]=>1
 | x::xs,y::ys=>ad (gY x y != 0) (gY x y) (lex xs ys)
theorem aaE {R:Type} (k0:Int→Option R) (K:List Int→List Int→Option R):
  ∀ (ys pre zs pre2:List Int) (m:Nat),ys.length < m→(pre++ys).length≤bV→pre.length=pre2.length→(∀ r,ys≠[]∨r=K (pre++ys) (pre2++zs)→(ys=[]→K (pre++ys) (pre2++zs)=k0 (lex ys zs))→True)→
    (∀ A B,A=pre++ys→B=pre2++zs→A.length < B.length→K A B=k0 (-1))→(∀ A B,A=pre++ys→B=pre2++zs→¬ A.length < B.length→K A B=k0 0)→
    rS (bW 2000) k0 (fun y0 y1 _ _ _=>K y0 y1) m (pre++ys) (pre2++zs) (pre++ys) ((pre++ys).length:Int) (pre.length:Int)=k0 (lex ys zs):=by
 intro ys
 induction ys with
 | nil=>
   intro pre zs pre2 m hm hb hp _ h1 h2
   cases m with
   | zero=>omega
   | succ m=>
     unfold rS
     simp only [vx,vy,vz,vA,vB,vC,qT,fo,aH]
     cases zs with
     | nil=>exact h2 _ _ rfl rfl (by simp [hp])
     | cons z zs=>exact h1 _ _ rfl rfl (by simp [hp])
 | cons y ys ih=>
   intro pre zs pre2 m hm hb hp _ h1 h2
   cases m with
   | zero=>omega
   | succ m=>
     have hwr:=fq pre ys y hb
     unfold rS
     simp only [vx,vy,vz,vA,vB,vC,qT,fb,eu,dY,if_true,aR,hwr]
     cases zs with
     | nil=>
       have d:decide ((pre.length:Int)≥((pre2++([]:List Int)).length:Int))=true:=decide_eq_true (by simp [hp])
       simp only [d,aR,lex]
     | cons z zs=>
       have d:decide ((pre.length:Int)≥((pre2++z::zs).length:Int))=false:=decide_eq_false (by simp [hp]; omega)
       have i2:(0≤(pre.length:Int)∧(pre.length:Int) < ((pre2++z::zs).length:Int))=True:=by rw [hp]; exact eu _ _ _
       have a2:(pre2++z::zs).getD (gF (pre.length:Int)) (0:Int)=z:=by rw [hp]; exact dY _ _ _ _
       simp only [d,aH,i2,if_true,a2,v46,ar,lex]
       cases h:gY y z != 0 with
       | true=>simp only [aR]
       | false=>
         simp only [aH]
         rw [bM pre ys y,bM pre2 zs z]
         exact ih (pre++[y]) zs (pre2++[z]) m (by simpa using hm) (by rw [←bM]; exact hb) (by simp [hp]) (fun _ _ _=>trivial) (fun A B hA hB=>h1 A B (by rw [hA,←bM]) (by rw [hB,←bM])) (fun A B hA hB=>h2 A B (by rw [hA,←bM]) (by rw [hB,←bM]))
theorem v47 (a b:List Int) (h:a.length < 2000):gT 2000 a b=some (lex a b):=by
 unfold gT
 simp only [vx,vy,vz,vA,vB,vC,qT]
 have:=aaE (R:=Int) some (fun x0 x1=>ad (decide ((x0.length:Int) < (x1.length:Int))) (some (-1)) (some 0)) a [] b [] 2000 h (by unfold bV; simp; omega) rfl (fun _ _ _=>trivial)
  (fun A B _ _ hl=>by rw [decide_eq_true (show (A.length:Int) < (B.length:Int) by omega)]; rfl) (fun A B _ _ hl=>by rw [decide_eq_false (show ¬ (A.length:Int) < (B.length:Int) by omega)]; rfl)
 simp only [dP,ep] at this
 exact this
def mV (o:aS) (a b:List Int):Int:=ad (gY (ee o a) (ee o b) != 0) (gY (ee o a) (ee o b)) (lex a b)
theorem v45 (a b:Int):gS 2000 [a,b]=some (ad (a != 0) a b):=by
 unfold gS
 simp only [qR,qN,qO,qP,qQ,qS,oT]
 show mu _ _ (1999+1) (0:Int) [a,b] (2:Int) (0:Int)=_
 unfold mu
 have d0:decide ((0:Int) < 2)=true:=rfl
 have c0:(0≤(0:Int)∧(0:Int) < (([a,b]:List Int).length:Int))=True:=by rw [eq_iff_iff,iff_true]; exact ⟨by omega,by simp⟩
 have e0:([a,b]:List Int).getD (0:Int).toNat 0=a:=rfl
 simp only [qR,qN,qO,qP,qQ,qS,oT,d0,aR,c0,if_true,e0]
 cases h:a != 0 with
 | true=>rfl
 | false=>
   simp only [aH]
   show mu _ _ (1998+1) (0:Int) [a,b] (2:Int) (IntKind.i64.wrap (0+1))=_
   unfold mu
   have w1:IntKind.i64.wrap (0+1)=1:=rfl
   have d1:decide ((1:Int) < 2)=true:=rfl
   have c1:(0≤(1:Int)∧(1:Int) < (([a,b]:List Int).length:Int))=True:=by rw [eq_iff_iff,iff_true]; exact ⟨by omega,by simp⟩
   have e1:([a,b]:List Int).getD (1:Int).toNat 0=b:=rfl
   simp only [qR,qN,qO,qP,qQ,qS,oT,w1,d1,aR,c1,if_true,e1]
   cases h2:b != 0 with
   | true=>rfl
   | false=>
     have hb:b=0:=by simpa using h2
     simp only [aH]
     show mu _ _ (1997+1) (0:Int) [a,b] (2:Int) (IntKind.i64.wrap (1+1))=_
     unfold mu
     have w2:IntKind.i64.wrap (1+1)=2:=rfl
     have d2:decide ((2:Int) < 2)=false:=rfl
     simp only [qR,qN,qO,qP,qQ,qS,oT,w2,d2,aH,hb]
theorem v44 (o:aS) (ho:oE o=0) (a b:List Int) (ha:a.all (cT o)=true∧a.length≤1000) (hb:b.all (cT o)=true∧b.length≤1000):gh 2000 a b o=some (mV o a b):=by
 unfold gh mV
 simp only [Ho,AH,I2 o a ho ha.1 ha.2,I2 o b ho hb.1 hb.2,v46,v47 a b (by omega),v45,ar]
theorem pZ (a b:Int):(gY a b= -1∧a < b)∨(gY a b=0∧a=b)∨(gY a b=1∧b < a):=by
 rcases Jf a b with h | h | h
 ·exact .inl ⟨Fi h,h⟩
 ·subst h; exact .inr (.inl ⟨Fg a,rfl⟩)
 ·exact .inr (.inr ⟨Fh h,h⟩)
theorem RI:∀ a:List Int,lex a a=0
 | []=>rfl
 | x::xs=>by unfold lex; rw [Fg]; exact RI xs
theorem RJ:∀ {a b:List Int},lex a b=0→a=b
 | [],[],_=>rfl
 | [],_::_,h=>by simp [lex] at h
 | _::_,[],h=>by simp [lex] at h
 | x::xs,y::ys,h=>by
   unfold lex at h
   rcases pZ x y with ⟨h1,_⟩ | ⟨h1,h2⟩ | ⟨h1,_⟩
   ·rw [h1] at h; cases h
   ·rw [h1] at h; subst h2; rw [RJ h]
   ·rw [h1] at h; cases h
theorem RH:∀ {a b:List Int},lex a b < 0↔lex b a > 0
 | [],[]=>by simp [lex]
 | [],_::_=>by simp [lex]
 | _::_,[]=>by simp [lex]
 | x::xs,y::ys=>by
   unfold lex
   rcases pZ x y with ⟨h1,h2⟩ | ⟨h1,h2⟩ | ⟨h1,h2⟩
   ·rw [h1,Fh h2,pX,nU]; decide
   ·subst h2; rw [h1]; exact RH (a:=xs) (b:=ys)
   ·rw [h1,Fi h2,nU,pX]; decide
theorem lex_trans:∀ {a b c:List Int},lex a b < 0→lex b c < 0→lex a c < 0
 | [],[],c,h,_=>by simp [lex] at h
 | [],_::_,[],_,h=>by simp [lex] at h
 | [],_::_,_::_,_,_=>by simp [lex]
 | _::_,[],c,h,_=>by simp [lex] at h
 | _::_,_::_,[],_,h=>by simp [lex] at h
 | x::xs,y::ys,z::zs,h1,h2=>by
   unfold lex at h1 h2 ⊢
   rcases pZ x y with ⟨a1,a2⟩ | ⟨a1,a2⟩ | ⟨a1,a2⟩
   ·rcases pZ y z with ⟨b1,b2⟩ | ⟨b1,b2⟩ | ⟨b1,b2⟩
    ·rw [Fi (show x < z by omega),pX]; decide
    ·subst b2; rw [a1,pX]; decide
    ·rw [b1] at h2; exact absurd h2 (by rw [nU]; decide)
   ·subst a2
    rw [a1] at h1
    rcases pZ x z with ⟨b1,b2⟩ | ⟨b1,b2⟩ | ⟨b1,b2⟩
    ·rw [b1,pX]; decide
    ·rw [b1] at h2 ⊢; exact lex_trans (a:=xs) (b:=ys) h1 h2
    ·rw [b1] at h2; exact absurd h2 (by rw [nU]; decide)
   ·rw [a1] at h1; exact absurd h1 (by rw [nU]; decide)
def hR (o:aS) (a b:List Int):Prop:=ee o a < ee o b∨(ee o a=ee o b∧lex a b < 0)
theorem NY {o:aS} {a b:List Int}:mV o a b < 0↔hR o a b:=by
 unfold mV hR
 rcases pZ (ee o a) (ee o b) with ⟨h1,h2⟩ | ⟨h1,h2⟩ | ⟨h1,h2⟩
 ·rw [h1]; exact ⟨fun _=>.inl h2,fun _=>by rw [pX]; decide⟩
 ·rw [h1]; exact ⟨fun h=>.inr ⟨h2,h⟩,fun h=>by rcases h with h | h; omega; exact h.2⟩
 ·rw [h1]; exact ⟨fun h=>absurd h (by rw [nU]; decide),fun h=>by rcases h with h | h<;>omega⟩
theorem RX (o:aS) (a:List Int):¬ hR o a a:=by
 rintro (h | ⟨_,h⟩)
 ·omega
 ·rw [RI] at h; omega
theorem RY {o:aS} {a b c:List Int} (h1:hR o a b) (h2:hR o b c):hR o a c:=by
 rcases h1 with h1 | ⟨h1,h3⟩<;>rcases h2 with h2 | ⟨h2,h4⟩
 ·exact .inl (by omega)
 ·exact .inl (by omega)
 ·exact .inl (by omega)
 ·exact .inr ⟨by omega,lex_trans h3 h4⟩
theorem abk (o:aS) (a b:List Int):hR o a b∨a=b∨hR o b a:=by
 rcases Jf (ee o a) (ee o b) with h | h | h
 ·exact .inl (.inl h)
 ·rcases Jf (lex a b) 0 with h2 | h2 | h2
  ·exact .inl (.inr ⟨h,h2⟩)
  ·exact .inr (.inl (RJ h2))
  ·exact .inr (.inr (.inr ⟨h.symm,RH.2 h2⟩))
 ·exact .inr (.inr (.inl h))
theorem RW {o:aS} {a b:List Int} (h:hR o a b):¬ hR o b a:=fun h2=>RX o a (RY h h2)
section
variable {o:aS} {g:List Int×(List Int×Unit)→Option Int}
def pI (o:aS) (g:List Int×(List Int×Unit)→Option Int) (l:List (List Int)):Prop:=∀ a∈l,∀ b∈l,g (a,(b,()))=some (mV o a b)
theorem ID {a b:List Int} (h:g (a,(b,()))=some (mV o a b)):pe g a b=true↔hR o a b:=by
 unfold pe; rw [h]; simp only [decide_eq_true_iff]; exact NY
theorem Qt {a b:List Int} (h:g (a,(b,()))=some (mV o a b)):oV g a b=true↔¬ hR o a b:=by
 unfold oV; rw [h]; simp only [dc,decide_eq_false_iff_not]; exact not_congr NY
abbrev lY (o:aS) (l:List (List Int)):Prop:=l.Pairwise fun a b=>a=b∨hR o a b
theorem H9 {x y:List Int} {l:List (List Int)}:y∈mr g x l↔y=x∨y∈l:=by
 rw [(Ia (g:=g) x l).mem_iff,cD]
theorem QP (x:List Int):∀ l:List (List Int),pI o g (x::l)→lY o l→lY o (mr g x l)
 | [],_,_=>List.pairwise_singleton _ _
 | y::r,hg,hs=>by
   have hs':=sI.1 hs
   unfold mr
   cases h:pe g y x with
   | true=>
     have hlt:=(ID (hg y (by simp) x (by simp))).1 h
     refine sI.2 ⟨fun z hz=>?_,QP x r (fun a ha b hb=>hg a (by rcases cD.1 ha with h | h; simp [h]; simp [h]) b (by rcases cD.1 hb with h | h; simp [h]; simp [h])) hs'.2⟩
     rcases H9.1 hz with h | h
     ·rw [h]; exact .inr hlt
     ·exact hs'.1 z h
   | false=>
     have hge:¬ hR o y x:=fun h2=>by rw [(ID (hg y (by simp) x (by simp))).2 h2] at h; cases h
     have hxy:x=y∨hR o x y:=by
      rcases abk o x y with h | h | h
      ·exact .inr h
      ·exact .inl h
      ·exact absurd h hge
     refine sI.2 ⟨fun z hz=>?_,hs⟩
     rcases cD.1 hz with h | h
     ·rw [h]; exact hxy
     ·rcases hs'.1 z h with h2 | h2
      ·rw [←h2]; exact hxy
      ·rcases hxy with h3 | h3
       ·rw [h3]; exact .inr h2
       ·exact .inr (RY h3 h2)
theorem SU (xs:List (List Int)) (hg:pI o g xs):lY o (iJ g xs):=by
 unfold iJ
 have key:∀ (ys l:List (List Int)),pI o g (ys++l)→lY o l→lY o (ys.foldl (fun l x=>mr g x l) l):=by
  intro ys
  induction ys with
  | nil=>intro l _ h; exact h
  | cons y ys ih=>
    intro l hg h
    refine ih _ ?_ (QP y l (fun a ha b hb=>hg a (by rcases cD.1 ha with h | h<;>simp [h]) b (by rcases cD.1 hb with h | h<;>simp [h])) h)
    intro a ha b hb
    refine hg a ?_ b ?_
    ·rcases dn.1 ha with h | h
     ·simp [h]
     ·rcases H9.1 h with h | h<;>simp [h]
    ·rcases dn.1 hb with h | h
     ·simp [h]
     ·rcases H9.1 h with h | h<;>simp [h]
 exact key xs [] (by simpa using hg) List.Pairwise.nil
theorem SV:∀ (l:List (List Int)),pI o g l→lY o l→my g l=true
 | [],_,_=>rfl
 | x::r,hg,hs=>by
   have hs':=sI.1 hs
   unfold my
   simp only [aq,eK,mE,decide_eq_true_eq]
   refine ⟨⟨(Qt (hg x (by simp) x (by simp))).2 (RX o x),fun y hy=>?_⟩,SV r (fun a ha b hb=>hg a (by simp [ha]) b (by simp [hb])) hs'.2⟩
   rcases hs'.1 y hy with h | h
   ·exact .inl h
   ·exact .inr ⟨(ID (hg x (by simp) y (by simp [hy]))).2 h,(Qt (hg y (by simp [hy]) x (by simp))).2 (RW h)⟩
end
theorem agz {o:aS} {l m:List (List Int)} (hp:l.Perm m) (hl:lY o l) (hm:lY o m):l=m:=by
 refine List.Perm.eq_of_pairwise (le:=fun a b=>a=b∨hR o a b) ?_ hl hm hp
 rintro a b _ _ (h | h) (h2 | h2)
 ·exact h
 ·exact h
 ·exact h2.symm
 ·exact absurd h2 (RW h)
theorem To {o:aS} {w:List UInt8} (ho:oE o=0):∀ (f:Nat) (n:Nd),Ok o w n→∀ l∈wy o w f n,l.all (cT o)=true
 | 0,_,_,l,h=>absurd h (by simp [wy])
 | f+1,n,hn,l,h=>by
   unfold wy at h
   cases he:n.2.2.1==(w.length:Int) with
   | true=>
     rw [he,cond_true] at h
     cases hf:decide (n.2.1≥0)&&gl o n.2.1 (eJ o n.1) [] with
     | true=>rw [hf,cond_true] at h; rw [fS.1 h]; rfl
     | false=>rw [hf,cond_false] at h; cases h
   | false=>
     rw [he,cond_false] at h
     obtain ⟨m,hm,h2⟩:=BN.1 h
     obtain ⟨l',hl',rfl⟩:=c4.1 h2
     have h3:=mz ho hn hm
     have h4:=To ho f m h3.1 l' hl'
     rw [dy,h4,ib]
     exact hQ.2 ⟨h3.2.2,h3.1.s⟩
def fD:Nd:=(-1,(-1,(0,())))
theorem ss (o:aS) (w:List UInt8):Ok o w fD:=⟨by show (-1:Int) < _; omega,by show (-1:Int) < _; omega,by show (0:Int)≤0; omega,by show (0:Int)≤_; omega⟩
def W0 (o:aS) (w:List UInt8):List (List Int):=ways o w fD
theorem BU {o:aS} {w:List UInt8} (h:iC o w=0) {l:List Int} (hl:l∈W0 o w):l.all (cT o)=true∧l.length≤16:=by
 obtain ⟨ho,h0,h1⟩:=AT h
 refine ⟨To ho _ _ (ss o w) l hl,?_⟩
 have:=I6 ho _ _ (ss o w) l hl
 have h2:rm w fD≤w.length:=by unfold rm fD; simp
 omega
def dS (o:aS) (l:List (List Int)):List (List Int):=iJ (fun p=>some (mV o p.1 p.2.1)) l
theorem qj (o:aS) (l:List (List Int)):(dS o l).Perm l:=wT l
theorem FQ (o:aS) (l:List (List Int)):lY o (dS o l):=SU l fun _ _ _ _=>rfl
def iw (o:aS) (w:List UInt8):List (List Int)×Int:=cond (iC o w != 0) ([],iC o w) (cond ((W0 o w).length==0) ([],9) (cond (decide (200 < (W0 o w).length)) ([],3) (dS o (W0 o w),0)))
theorem Td (o:aS) (w:List UInt8):cx 2000 o w=some (iw o w):=by
 unfold cx iw
 simp only [Hk,g16,v40,ar]
 cases hg:iC o w != 0 with
 | true=>rfl
 | false=>
   have hg0:iC o w=0:=by simpa using hg
   obtain ⟨ho,hw0,hw1⟩:=AT hg0
   obtain ⟨mp,hI,h1⟩:=Tj ho (by omega) fD [] (ss o w) (fun p hp=>absurd hp (by simp))
   have h1':aU 2000 (o,w,[],()) ((-1:Int),(-1:Int),(0:Int),())=some ((o,(w,(mp,()))),cn o w fD):=h1
   have hc:cn o w fD=((min 201 (W0 o w).length:Nat):Int):=rfl
   simp only [aH,cond_false,h1',ar]
   cases hz:(W0 o w).length==0 with
   | true=>
     have hz':(W0 o w).length=0:=by simpa using hz
     have:(cn o w fD==0)=true:=by rw [hc,hz']; rfl
     rw [this]; rfl
   | false=>
     have hz':(W0 o w).length≠0:=by simpa using hz
     have e1:(cn o w fD==0)=false:=beq_eq_false_iff_ne.2 (by rw [hc]; omega)
     rw [e1]
     simp only [aH,cond_false]
     by_cases h200:200 < (W0 o w).length
     ·have e2:decide (cn o w fD > 200)=true:=decide_eq_true (by rw [hc]; omega)
      rw [e2,decide_eq_true h200]; rfl
     ·have e2:decide (cn o w fD > 200)=false:=decide_eq_false (by rw [hc]; omega)
      rw [e2,decide_eq_false h200]
      simp only [aH,cond_false]
      obtain ⟨mp2,_,h2⟩:=aad ho (show w.length≤100 by omega) 250 fD mp (ss o w) (by unfold rm fD; simp; omega) hI (show (ways o w fD).length≤200 from by have:(W0 o w).length=(ways o w fD).length:=rfl; omega)
      have hal:al o w fD=W0 o w:=JA (fun e=>hz' (by unfold W0; rw [e]; rfl))
      rw [hal] at h2
      have h2':bL 2000 (o,(w,(mp,()))) ((-1:Int),(-1:Int),(0:Int),())=some ((o,(w,(mp2,()))),W0 o w):=h2
      simp only [h2',ar]
      have hG:pI o (fun (x0:List Int×(List Int×Unit))=>((gh 2000 x0.1 x0.2.1 o).bind fun b=>some [.v (.int .i64) b]).bind (jA (.int .i64))) (W0 o w):=by
       intro a ha b hb
       have h3:=BU hg0 ha
       have h4:=BU hg0 hb
       simp only [v44 o ho a b ⟨h3.1,by omega⟩ ⟨h4.1,by omega⟩,ar]
       rfl
      have hG2:∀ {g:List Int×(List Int×Unit)→Option Int},pI o g (W0 o w)→sr g (W0 o w)=some (dS o (W0 o w)):=by
       intro g hG
       have hp:=wT (g:=g) (W0 o w)
       have hs:=SU (W0 o w) hG
       have hok:=SV (iJ g (W0 o w)) (fun a ha b hb=>hG a (hp.mem_iff.1 ha) b (hp.mem_iff.1 hb)) hs
       unfold sr
       rw [if_pos ⟨fun e=>hz' (by rw [e]; rfl),by omega,hok⟩]
       rw [agz (hp.trans (qj o _).symm) hs (FQ o _)]
      have h5:eE 2000 (fun (x0:List Int×(List Int×Unit))=>((gh 2000 x0.1 x0.2.1 o).bind fun b=>some [.v (.int .i64) b]).bind (jA (.int .i64))) (W0 o w)=some (dS o (W0 o w)):=by
       unfold eE
       exact hG2 hG
      rw [h5]
      rfl
theorem TN {o:aS} {w:List UInt8} (h:(iw o w).2=0):iC o w=0∧W0 o w≠[]∧(W0 o w).length≤200∧(iw o w).1=dS o (W0 o w):=by
 unfold iw at h ⊢
 cases hg:iC o w != 0 with
 | true=>rw [hg,cond_true] at h; simp only at h; rw [h] at hg; cases hg
 | false=>
   rw [hg,cond_false] at h
   cases hz:(W0 o w).length==0 with
   | true=>rw [hz,cond_true] at h; cases h
   | false=>
     rw [hz,cond_false] at h
     by_cases h200:200 < (W0 o w).length
     ·rw [decide_eq_true h200,cond_true] at h; cases h
     ·rw [decide_eq_false h200]
      exact ⟨by simpa using hg,fun e=>by rw [e] at hz; (cases hz),by omega,rfl⟩
theorem Uf {o:aS} {w:List UInt8} (h:W0 o w≠[]):∃ a r,dS o (W0 o w)=a::r∧a∈W0 o w∧∀ l∈W0 o w,ee o a≤ee o l:=by
 cases hd:dS o (W0 o w) with
 | nil=>
   have:=(qj o (W0 o w)).length_eq
   rw [hd] at this
   exact absurd (lU.1 this.symm) h
 | cons a r=>
   have hp:=qj o (W0 o w)
   rw [hd] at hp
   have hs:=FQ o (W0 o w)
   rw [hd] at hs
   refine ⟨a,r,rfl,hp.mem_iff.1 (by simp),fun l hl=>?_⟩
   rcases cD.1 (hp.mem_iff.2 hl) with h1 | h1
   ·rw [h1]; omega
   ·rcases (sI.1 hs).1 l h1 with h2 | h2 | h2
    ·rw [h2]; omega
    ·omega
    ·omega
def xK (o:aS) (w:List UInt8):List Int×(Int×Int):=cond ((iw o w).2 != 0) ([],(0,(iw o w).2)) ((iw o w).1.getD 0 [],(ee o ((iw o w).1.getD 0 []),0))
theorem v13 (o:aS) (w:List UInt8):dQ 2000 o w=some (xK o w):=by
 unfold dQ xK
 simp only [G8,g13,Td,ar]
 cases h:(iw o w).2 != 0 with
 | true=>rfl
 | false=>
   obtain ⟨hg,hne,h200,h1⟩:=TN (show (iw o w).2=0 by simpa using h)
   obtain ⟨a,r,h2,h3,_⟩:=Uf hne
   have h4:=BU hg h3
   rw [h1,h2]
   have c:(0≤(0:Int)∧(0:Int) < ((a::r).length:Int))=True:=by rw [eq_iff_iff,iff_true]; simp only [eD]; omega
   have c2:((0:Int).toNat < (a::r).length)=True:=by rw [eq_iff_iff,iff_true]; simp
   have e:(a::r).getD ((0:Int).toNat) []=a:=rfl
   have e':(a::r).getD 0 []=a:=rfl
   simp only [aH,cond_false,c,c2,if_true,e,e',I2 o a (AT hg).1 h4.1 (by omega),ar]
theorem v18 (o:aS) (w:List UInt8):gQ 2000 o w=some (((iw o w).1.length:Int),(iw o w).2):=by
 unfold gQ
 simp only [Hl,g18,Td,ar]
def Qv (o:aS):List Int→List bQ
 | []=> []
 | j::_=>(sg o j).2.1
def mb (o:aS):List bQ→List Int→Bool
 | _,[]=>true
 | bf,i::r=>gl o i bf (Qv o r)&&mb o (sg o i).2.1 r
theorem R8 {o:aS} {w:List UInt8} {n:Nd}:∀ (ys pre:List db) (j:Nat),o.2.1=pre++ys→j < ys.length→fZ o w n (ys.getD j g0)=true→jz n ((pre.length+j:Nat):Int) (ys.getD j g0)∈du o w n ys (pre.length:Int)
 | [],_,_,_,h,_=>by simp at h
 | y::ys,pre,0,hl,h,hk=>by
   have hk':fZ o w n y=true:=hk
   unfold du
   rw [hk',cond_true]
   exact nM ..
 | y::ys,pre,j+1,hl,h,hk=>by
   have h1:=R8 ys (pre++[y]) j (by rw [hl,bM]) (by simpa using h) hk
   have hlen:((pre++[y]).length:Int)=(pre.length:Int)+1:=by simp
   have hlen2:(((pre++[y]).length+j:Nat):Int)=((pre.length+(j+1):Nat):Int):=by simp only [b5,iO]; omega
   rw [hlen,hlen2] at h1
   unfold du
   cases fZ o w n y with
   | true=>rw [cond_true]; exact eL _ h1
   | false=>rw [cond_false]; exact h1
theorem abV {o:aS} {w:List UInt8} {n:Nd} {i:Int} (hi:cT o i=true) (hk:fZ o w n (sg o i)=true):jz n i (sg o i)∈du o w n o.2.1 0:=by
 have h:=hQ.1 hi
 have:=R8 (o:=o) (w:=w) (n:=n) o.2.1 [] i.toNat rfl (by omega) hk
 simp only [ep,kA] at this
 rw [show ((i.toNat:Nat):Int)=i by omega] at this
 exact this
theorem amS {o:aS} (ho:oE o=0) {l:List Int} (hi:l.all (cT o)=true) (h:fN o l=[]):l=[]:=by
 cases l with
 | nil=>rfl
 | cons i r=>
   simp only [dy,aq] at hi
   have h1:=(ke (mB ho (hQ.1 hi.1))).2.2.1
   simp only [fN,List.append_eq_nil_iff] at h
   exact absurd h.1 h1
def acc (o:aS) (w:List UInt8) (n:Nd) (l:List Int):Prop:=
 l.all (cT o)=true∧fN o l=w.drop n.2.2.1.toNat∧(n.2.1 < 0∨gl o n.2.1 (eJ o n.1) (Qv o l)=true)∧mb o (eJ o n.2.1) l=true
theorem anx {o:aS} {w:List UInt8} (ho:oE o=0):∀ (k:Nat) (n:Nd),rm w n < k→Ok o w n→(n.2.1 < 0→n.2.2.1 < (w.length:Int))→∀ l,l∈ways o w n↔acc o w n l:=by
 intro k
 induction k with
 | zero=>intro n h; omega
 | succ k ih=>
   intro n hk hn hs l
   have he0:=hn.e0; have he1:=hn.e1
   cases he:n.2.2.1==(w.length:Int) with
   | true=>
     have he':n.2.2.1=(w.length:Int):=by simpa using he
     have hs0:¬ n.2.1 < 0:=fun h=>by have:=hs h; omega
     have hd:w.drop n.2.2.1.toNat=[]:=List.drop_eq_nil_of_le (by omega)
     rw [By he,decide_eq_true (show n.2.1≥0 by omega),fr]
     unfold acc
     rw [hd]
     constructor
     ·intro h
      cases hf:gl o n.2.1 (eJ o n.1) [] with
      | false=>rw [hf] at h; cases h
      | true=>
        rw [hf,cond_true] at h
        rw [fS.1 h]
        exact ⟨rfl,rfl,.inr hf,rfl⟩
     ·rintro ⟨h1,h2,h3,_⟩
      have:=amS ho h1 h2
      subst this
      rcases h3 with h3 | h3
      ·exact absurd h3 hs0
      ·have h3':gl o n.2.1 (eJ o n.1) []=true:=h3
       rw [h3',cond_true]; exact fS.2 rfl
   | false=>
     have he':n.2.2.1≠(w.length:Int):=by simpa using he
     rw [w0 ho hn he,BN]
     constructor
     ·rintro ⟨m,hm,h2⟩
      obtain ⟨l',hl',rfl⟩:=c4.1 h2
      have h3:=mz ho hn hm
      have h4:=IF ho hn o.2.1 [] rfl hm
      obtain ⟨a1,a2,a3,a4⟩:=(ih m (by omega) h3.1 (fun h=>absurd h (by omega)) l').1 hl'
      have hix:cT o m.2.1=true:=hQ.2 ⟨h3.2.2,h3.1.s⟩
      have hok:=h4.2.2.2.2.2.2
      unfold fZ at hok
      simp only [aq,mE,decide_eq_true_eq] at hok
      obtain ⟨r,hr⟩:=Bg.1 hok.1
      have hm0:¬ m.2.1 < 0:=by omega
      refine ⟨by rw [dy,hix,a1]; rfl,?_,hok.2,?_⟩
      ·simp only [fN]
       rw [a2,hr]
       congr 1
       have:m.2.2.1.toNat=n.2.2.1.toNat+(sg o m.2.1).1.length:=by rw [h4.2.2.2.2.2.1]; omega
       rw [this,←xi,hr,BD]
      ·unfold mb
       rw [aq]
       refine ⟨?_,?_⟩
       ·rcases a3 with a3 | a3
        ·exact absurd a3 hm0
        ·rw [h4.1] at a3; exact a3
       ·have e:eJ o m.2.1=(sg o m.2.1).2.1:=by unfold eJ; rw [decide_eq_false hm0]; rfl
        rw [←e]; exact a4
     ·rintro ⟨h1,h2,h3,h4⟩
      cases l with
      | nil=>
        have:w.drop n.2.2.1.toNat=[]:=h2.symm
        have:=List.drop_eq_nil_iff.1 this
        omega
      | cons i r=>
        simp only [dy,aq] at h1
        have hix:=hQ.1 h1.1
        have hi0:¬ i < 0:=by omega
        have ht:(sg o i).1++fN o r=w.drop n.2.2.1.toNat:=h2
        have hok:fZ o w n (sg o i)=true:=by
         unfold fZ
         rw [aq,mE,decide_eq_true_eq]
         exact ⟨Bg.2 ⟨_,ht.symm⟩,h3⟩
        have hm:=abV h1.1 hok
        have h5:=mz ho hn hm
        refine ⟨jz n i (sg o i),hm,c4.2 ⟨r,?_,rfl⟩⟩
        unfold mb at h4
        rw [aq] at h4
        have e:eJ o i=(sg o i).2.1:=by unfold eJ; rw [decide_eq_false hi0]; rfl
        refine (ih (jz n i (sg o i)) (by omega) h5.1 (fun h=>absurd h hi0) r).2 ⟨h1.2,?_,.inr h4.1,by show mb o (eJ o i) r=true; rw [e]; exact h4.2⟩
        show fN o r=w.drop (n.2.2.1+((sg o i).1.length:Int)).toNat
        have:(n.2.2.1+((sg o i).1.length:Int)).toNat=n.2.2.1.toNat+(sg o i).1.length:=by omega
        rw [this,←xi,←ht,BD]
theorem Jz {o:aS} {w:List UInt8} (ho:oE o=0) (hw:w≠[]) (l:List Int):l∈W0 o w↔l.all (cT o)=true∧fN o l=w∧mb o [] l=true:=by
 have hpos:0 < w.length:=BL.2 hw
 rw [show (l∈W0 o w)=(l∈ways o w fD) from rfl,anx ho _ fD (Nat.lt_succ_self _) (ss o w) (fun _=>by show (0:Int) < _; omega)]
 unfold acc
 have e1:w.drop fD.2.2.1.toNat=w:=rfl
 have e2:eJ o fD.2.1=[]:=rfl
 rw [e1,e2]
 exact ⟨fun h=>⟨h.1,h.2.1,h.2.2.2⟩,fun h=>⟨h.1,h.2.1,.inl (by show (-1:Int) < 0; decide),h.2.2⟩⟩
def A1 (o:aS) (l:List Int):List bQ:=match l.getLast? with | none=> [] | some j=>(sg o j).2.1
theorem aac (o:aS) (l:List Int) (j:Int):A1 o (l++[j])=(sg o j).2.1:=by unfold A1; simp
theorem an7 {o:aS} (ho:oE o=0) {l:List Int} (hi:l.all (cT o)=true):(A1 o l).length≤2:=by
 rcases Jl l with h | ⟨l',s,h⟩
 ·subst h; simp [A1]
 ·rw [Jj] at h
  subst h
  rw [aac]
  simp only [List.all_append,dy,mF,ib,aq] at hi
  exact (ke (mB ho (hQ.1 hi.2))).1
def anQ (o:aS) (w:List UInt8) (l:List Int):Int×Int:=cond (iC o w != 0) (0,iC o w) (cond (!l.all (cT o)) (0,6) (cond (fN o l != w) (0,1) (cond (mb o [] l) (ee o l,0) (0,19))))
def r9:List UInt8×(List (List UInt8×(List (Int×(Int×(List UInt8×Unit)))×(Int×(Int×Unit))))×Unit):=([108,97,116,105,110],([([97],([(1,(3,([97],())))],(1,(0,())))),([101],([(1,(3,([101],())))],(1,(0,())))),([105],([(1,(3,([105],())))],(1,(0,())))),([111],([(1,(3,([111],())))],(1,(0,())))),([117],([(1,(3,([117],())))],(1,(0,())))),([121],([(1,(3,([121],())))],(1,(0,())))),([97,95],([(1,(2,([97,95],())))],(1,(0,())))),([101,95],([(1,(2,([101,95],())))],(1,(0,())))),([105,95],([(1,(2,([105,95],())))],(1,(0,())))),([111,95],([(1,(2,([111,95],())))],(1,(0,())))),([117,95],([(1,(2,([117,95],())))],(1,(0,())))),([121,95],([(1,(2,([121,95],())))],(1,(0,())))),([97,94],([(1,(1,([97,94],())))],(1,(0,())))),([101,94],([(1,(1,([101,94],())))],(1,(0,())))),([105,94],([(1,(1,([105,94],())))],(1,(0,())))),([111,94],([(1,(1,([111,94],())))],(1,(0,())))),([117,94],([(1,(1,([117,94],())))],(1,(0,())))),([121,94],([(1,(1,([121,94],())))],(1,(0,())))),([97,101],([(2,(2,([97,101],())))],(1,(0,())))),([97,117],([(2,(2,([97,117],())))],(1,(0,())))),([111,101],([(2,(2,([111,101],())))],(1,(0,())))),([101,117],([(2,(2,([101,117],())))],(3,(0,())))),([105],([(8,(0,([105],())))],(0,(2,())))),([105],([(8,(0,([105],()))),(8,(0,([105],())))],(0,(3,())))),([117],([(8,(0,([117],())))],(0,(2,())))),([117],([(8,(0,([117],())))],(0,(3,())))),([106],([(8,(0,([106],())))],(0,(0,())))),([118],([(8,(0,([118],())))],(0,(0,())))),([113,117],([(3,(0,([113,117],())))],(0,(1,())))),([103,117],([(3,(0,([103,117],())))],(2,(1,())))),([115,117],([(6,(0,([115],()))),(8,(0,([117],())))],(3,(1,())))),([98],([(3,(0,([98],())))],(0,(0,())))),([99],([(3,(0,([99],())))],(0,(0,())))),([100],([(3,(0,([100],())))],(0,(0,())))),([102],([(3,(0,([102],())))],(0,(0,())))),([103],([(3,(0,([103],())))],(0,(0,())))),([107],([(3,(0,([107],())))],(0,(0,())))),([112],([(3,(0,([112],())))],(0,(0,())))),([116],([(3,(0,([116],())))],(0,(0,())))),([108],([(4,(0,([108],())))],(0,(0,())))),([114],([(4,(0,([114],())))],(0,(0,())))),([109],([(5,(0,([109],())))],(0,(0,())))),([110],([(5,(0,([110],())))],(0,(0,())))),([115],([(6,(0,([115],())))],(0,(0,())))),([120],([(7,(0,([120],())))],(0,(0,())))),([122],([(7,(0,([122],())))],(0,(0,())))),([104],([(9,(0,([104],())))],(0,(0,()))))],()))
theorem aag:gR 2000=some r9:=by kernel_rfl
theorem TI:cx 2000 r9 [97,114,109,97]=some ([[0,40,41,0]],0):=by kernel_rfl
theorem TJ:cx 2000 r9 [116,114,111,105,97,101]=some ([[38,40,3,23,18],[38,40,3,2,18],[38,40,3,23,0,1],[38,40,3,2,0,1]],0):=by kernel_rfl
theorem TK:dQ 2000 r9 [105,97,109]=some ([22,0,41],1,0):=by kernel_rfl
theorem TL:gw 2000 r9 [38,40,3,23,18]=some ([0,1,2,3,3,4],0):=by kernel_rfl
theorem TM:iu 2000 r9 [97,114,109,113]=some (3,0):=by kernel_rfl
theorem v11:fT 2000=some true:=by
 unfold fT
 simp only [GU,g11,aag,ar]
 rw [TI,TJ,TK,TL,TM]
 kernel_rfl
def oM (c:Int):aS:=([111],[([97],[(1,3,[97],())],0,0,()),([97],[(3,0,[97],())],c,0,())],())
def wM (n:Nat):List UInt8:=gG n 97
theorem abX:((sJ 100).all fun c=>oE (oM (c:Int))==0)=true:=by kernel_rfl
theorem Sa {c:Int} (h:0≤c∧c≤99):oE (oM c)=0:=by
 have:=eK.1 abX c.toNat (sH.2 (by omega))
 rw [show ((c.toNat:Nat):Int)=c by omega] at this
 simpa using this
theorem anv:((sJ 17).all fun n=>n==0 || wE (wM n)==0)=true:=by kernel_rfl
theorem ant {n:Nat} (h:1≤n∧n≤16):wE (wM n)=0:=by
 have:=eK.1 anv n (sH.2 (by omega))
 rw [show (n==0)=false by simp; omega,lT] at this
 simpa using this
theorem abW (c:Int):(oM c).2.1.length=2:=rfl
theorem QU {c i:Int} (h:cT (oM c) i=true):i=0∨i=1:=by
 have:=hQ.1 h
 rw [abW] at this
 omega
theorem GI {c i:Int} (h:cT (oM c) i=true) (bf af:List bQ):gl (oM c) i bf af=true:=by
 unfold gl
 rw [h]
 rcases QU h with rfl | rfl<;>rfl
theorem pfM (k:Nat):pf (wM (k+1)) [97]=true:=Bg.2 ⟨wM k,rfl⟩
theorem NR {c:Int}:∀ (l:List Int) (bf:List bQ),l.all (cT (oM c))=true→mb (oM c) bf l=true
 | [],_,_=>rfl
 | i::r,bf,h=>by
   simp only [dy,aq] at h
   simp only [mb,GI h.1,NR r _ h.2,fr]
theorem anu (n e:Nat):(wM n).drop e=wM (n - e):=by unfold wM; rw [List.drop_replicate]
theorem anw {c:Int} (ho:oE (oM c)=0) (n:Nat):∀ (k:Nat) (m:Nd),Ok (oM c) (wM n) m→m.2.2.1=((n - k:Nat):Int)→k≤n→(0≤m.2.1∨0 < k)→(ways (oM c) (wM n) m).length=2 ^ k:=by
 intro k
 induction k with
 | zero=>
   intro m hm he hk hs
   have h1:(m.2.2.1==((wM n).length:Int))=true:=by rw [he]; simp [wM]
   have h0:0≤m.2.1:=by omega
   have hx:cT (oM c) m.2.1=true:=hQ.2 ⟨h0,hm.s⟩
   rw [By h1,decide_eq_true (show m.2.1≥0 from h0),GI hx]
   rfl
 | succ k ih=>
   intro m hm he hk hs
   have hl:((wM n).length:Int)=(n:Int):=by simp [wM]
   have h1:(m.2.2.1==((wM n).length:Int))=false:=by rw [he,hl]; simp; omega
   rw [w0 ho hm h1,Bx]
   have hdrop:(wM n).drop m.2.2.1.toNat=wM (k+1):=by rw [he,anu,Int.toNat_natCast]; congr 1; omega
   have hok:∀ s∈(oM c).2.1,fZ (oM c) (wM n) m s=true:=by
    intro s hs'
    have ht:s.1=[97]:=by
     rcases cD.1 hs' with h | h
     ·rw [h]
     ·rw [fS.1 h]
    unfold fZ
    rw [hdrop,ht,pfM,fr]
    cases hd:decide (m.2.1 < 0) with
    | true=>rfl
    | false=>
      have:=of_decide_eq_false hd
      rw [lT]
      exact GI (hQ.2 ⟨by omega,hm.s⟩) _ _
   have e:du (oM c) (wM n) m (oM c).2.1 0=[jz m 0 ([97],[(1,3,[97],())],0,0,()),jz m 1 ([97],[(3,0,[97],())],c,0,())]:=by
    have h2:du (oM c) (wM n) m (oM c).2.1 0=cond (fZ (oM c) (wM n) m ([97],[(1,3,[97],())],0,0,())) (jz m 0 ([97],[(1,3,[97],())],0,0,())::cond (fZ (oM c) (wM n) m ([97],[(3,0,[97],())],c,0,())) [jz m (0+1) ([97],[(3,0,[97],())],c,0,())] []) (cond (fZ (oM c) (wM n) m ([97],[(3,0,[97],())],c,0,())) [jz m (0+1) ([97],[(3,0,[97],())],c,0,())] []):=rfl
    rw [h2,hok _ (nM ..),hok _ (eL _ (fS.2 rfl))]
    rfl
   have hin:∀ m'∈du (oM c) (wM n) m (oM c).2.1 0,(ways (oM c) (wM n) m').length=2 ^ k:=by
    intro m' hm'
    obtain ⟨h3,h4,h5⟩:=R9 ho hm hm'
    refine ih m' h3 ?_ (by omega) (Or.inl h5)
    have:m'.2.2.1=m.2.2.1+1:=by
     rw [e] at hm'
     rcases cD.1 hm' with h | h
     ·rw [h]; rfl
     ·rw [fS.1 h]; rfl
    rw [this,he]; omega
   rw [e] at hin ⊢
   simp only [jV]
   rw [hin _ (nM ..),hin _ (eL _ (fS.2 rfl)),Nat.pow_succ]
   omega
theorem Qu {c:Int} {n:Nat} (hc:0≤c∧c≤99) (hn:1≤n∧n≤16):iC (oM c) (wM n)=0:=by
 unfold iC; rw [Sa hc,ant hn]; rfl
theorem TH {c:Int} {n:Nat} (hc:0≤c∧c≤99) (hn:1≤n∧n≤16):(W0 (oM c) (wM n)).length=2 ^ n:=
 anw (Sa hc) n n fD (ss _ _) (by rw [Nat.sub_self]; rfl) (Nat.le_refl _) (Or.inr (by omega))
theorem S7 {c:Int}:∀ {l:List Int},l.all (cT (oM c))=true→(fN (oM c) l).length=l.length
 | [],_=>rfl
 | i::r,h=>by
   simp only [dy,aq] at h
   have:(sg (oM c) i).1=[97]:=by rcases QU h.1 with rfl | rfl<;>rfl
   simp only [fN,this,b5,S7 h.2,eD,ep]; omega
def zM (n:Nat):List Int:=gG n 0
theorem I8 (c:Int):∀ n,(zM n).all (cT (oM c))=true
 | 0=>rfl
 | n+1=>by
   have:zM (n+1)=0::zM n:=rfl
   rw [this,dy,I8 c n]; rfl
theorem Tp (c:Int):∀ n,fN (oM c) (zM n)=wM n
 | 0=>rfl
 | n+1=>by
   have:zM (n+1)=0::zM n:=rfl
   rw [this]; simp only [fN,Tp c n]; rfl
theorem I7 (c:Int):∀ n,ee (oM c) (zM n)=0
 | 0=>rfl
 | n+1=>by
   have:zM (n+1)=0::zM n:=rfl
   rw [this]; simp only [ee,I7 c n]; rfl
theorem RG:∀ {l:List Int} {n:Nat},l.length=n→(∀ i∈l,0≤i)→¬ lex l (zM n) < 0
 | [],0,_,_=>by show ¬ (0:Int) < 0; omega
 | [],n+1,h,_=>by cases h
 | _::_,0,h,_=>by cases h
 | i::r,n+1,h,hi=>by
   have:zM (n+1)=0::zM n:=rfl
   rw [this]
   unfold lex
   have h0:=hi i (by simp)
   by_cases hz:i=0
   ·subst hz; rw [Fg]; exact RG (by simpa using h) fun j hj=>hi j (eL _ hj)
   ·rw [Fh (show (0:Int) < i by omega),nU]; omega
theorem Ue {c:Int} {n:Nat} (hc:0≤c∧c≤99) (hn:1≤n∧n≤16):∃ r,dS (oM c) (W0 (oM c) (wM n))=zM n::r:=by
 have hg:=Qu hc hn
 obtain ⟨ho,hw0,_⟩:=AT hg
 have hz:zM n∈W0 (oM c) (wM n):=(Jz ho hw0 _).2 ⟨I8 c n,Tp c n,NR _ _ (I8 c n)⟩
 cases hd:dS (oM c) (W0 (oM c) (wM n)) with
 | nil=>
   have:=(qj (oM c) (W0 (oM c) (wM n))).mem_iff.2 hz
   rw [hd] at this; cases this
 | cons a r=>
   have hp:=qj (oM c) (W0 (oM c) (wM n))
   have hs:=FQ (oM c) (W0 (oM c) (wM n))
   rw [hd] at hp hs
   have ha:=(Jz ho hw0 a).1 (hp.mem_iff.1 (by simp))
   have hlen:a.length=n:=by rw [←S7 ha.1,ha.2.1]; simp [wM]
   have hz2:=hp.mem_iff.2 hz
   have:zM n=a:=by
    rcases cD.1 hz2 with h | h
    ·exact h
    ·rcases (sI.1 hs).1 _ h with h2 | h2
     ·exact h2.symm
     ·exfalso
      have hcz:=I7 c n
      have hca:=(N2 ho ha.1).1
      rcases h2 with h2 | ⟨_,h2⟩
      ·rw [hcz] at h2; omega
      ·exact RG hlen (fun i hi=>(hQ.1 (eK.1 ha.1 i hi)).1) h2
   exact ⟨r,by rw [this]⟩
theorem abM (x c:Int) (hx:eP (.int .u8) x) (hc:eP (.int .u8) c):S6 2000 x c=some true:=by
 have hx1:0≤x∧x≤255:=hx
 have hc1:0≤c∧c≤255:=hc
 obtain ⟨n,hn,hv⟩:∃ n:Nat,(1≤n∧n≤16)∧IntKind.i64.wrap ((1:Int)+(Int.tmod (IntKind.i64.wrap x) (16:Int)))=(n:Int):=by
  have h0:IntKind.i64.wrap x=x:=gd (by omega)
  rw [h0]
  have h1:Int.tmod x 16=x % 16:=Int.tmod_eq_emod_of_nonneg hx1.1
  rw [h1]
  have h2:0≤x % 16∧x % 16 < 16:=by omega
  exact ⟨(1+x % 16).toNat,by omega,by rw [gd (by omega)]; omega⟩
 unfold S6
 simp only [HA,g6,v11,ar,eU,aH,hv]
 cases h99:decide (c > 99) with
 | true=>simp only [aR]
 | false=>
   have h99':=of_decide_eq_false h99
   have hc2:0≤c∧c≤99:=by omega
   have hwc:IntKind.i64.wrap c=c:=gd (by omega)
   have hg:=Qu hc2 hn
   have hW:=TH hc2 hn
   have c1:(0≤(0:Int)∧(0:Int)≤(n:Int)∧(n:Int)≤(([97,97,97,97,97,97,97,97,97,97,97,97,97,97,97,97]:List UInt8).length:Int))=True:=by
    rw [eq_iff_iff,iff_true]; simp only [eD,ep]; omega
   have hw:(([97,97,97,97,97,97,97,97,97,97,97,97,97,97,97,97]:List UInt8).drop (0:Int).toNat).take ((n:Int).toNat - (0:Int).toNat)=wM n:=by
    have:([97,97,97,97,97,97,97,97,97,97,97,97,97,97,97,97]:List UInt8)=gG 16 97:=rfl
    rw [this]
    show List.take (n - 0) (gG 16 97)=_
    rw [Nat.sub_zero,List.take_replicate]; unfold wM; congr 1; omega
   have hoM:(([111]:List UInt8),[(([97]:List UInt8),[((1:Int),(3:Int),([97]:List UInt8),())],(0:Int),(0:Int),()),(([97]:List UInt8),[((3:Int),(0:Int),([97]:List UInt8),())],c,(0:Int),())],())=oM c:=rfl
   simp only [aH,c1,if_true,hw,hwc,hoM,v18,v13,ar]
   have hne:((W0 (oM c) (wM n)).length==0)=false:=by
    rw [hW,beq_eq_false_iff_ne]; have:=Nat.two_pow_pos n; omega
   have hA:iw (oM c) (wM n)=cond (decide (200 < 2 ^ n)) ([],3) (dS (oM c) (W0 (oM c) (wM n)),0):=by
    unfold iw; rw [hg,hne,hW]; rfl
   by_cases h7:7 < n
   ·have hp:200 < 2 ^ n:=Nat.lt_of_lt_of_le (by omega:200 < 2 ^ 8) (Nat.pow_le_pow_right (by omega) (show 8≤n from h7))
    rw [decide_eq_true hp,cond_true] at hA
    rw [hA,decide_eq_true (show (n:Int) > 7 by omega)]
    rfl
   ·have hp:2 ^ n≤2 ^ 7:=Nat.pow_le_pow_right (by omega) (by omega)
    rw [decide_eq_false (by omega),cond_false] at hA
    obtain ⟨r,hr⟩:=Ue hc2 hn
    have hlen:(dS (oM c) (W0 (oM c) (wM n))).length=2 ^ n:=by rw [(qj ..).length_eq,hW]
    have hB:xK (oM c) (wM n)=(zM n,0,0):=by
     unfold xK
     rw [hA,hr]
     show (zM n,(ee (oM c) (zM n),0))=_
     rw [I7]
    have hsh:((2 ^ n:Nat):Int)=nE true IntKind.i64 1 (n:Int):=by
     have:n=1∨n=2∨n=3∨n=4∨n=5∨n=6∨n=7:=by omega
     rcases this with rfl | rfl | rfl | rfl | rfl | rfl | rfl<;>rfl
    have hzl:((zM n).length:Int)=(n:Int):=by simp [zM]
    have hz0:(zM n).getD (0:Int).toNat 0=0:=by
     obtain ⟨k,rfl⟩:∃ k,n=k+1:=⟨n - 1,by omega⟩
     rfl
    have c2:(0≤(n:Int))=True:=by rw [eq_iff_iff,iff_true]; omega
    have c3:(0≤(0:Int)∧(0:Int) < (n:Int))=True:=by rw [eq_iff_iff,iff_true]; omega
    rw [hB,hA,decide_eq_false (show ¬ (n:Int) > 7 by omega)]
    simp only [aH,hlen,hsh,beq_self_eq_true,aR,c2,c3,if_true,hzl,hz0]
end Go.Fw.L19
