/- Own work. -/
import Derived.Test.YtbdlccajpcomjaaDoorFwMb17
import Derived.Test.YtbdlccajpcomjaaDoorFwB6
import Derived.Lib.ItoaNum
set_option linter.unusedVariables false
set_option linter.unusedSimpArgs false
open Bool renaming not_true → cH, not_false → cE, and_eq_true → aB, true_or → s0, false_or → vD, false_eq_true → bA, false_and → lG, true_and → iX, and_false → Ss, not_eq_true' → dX
open Int renaming toNat → eB, toNat_natCast → jY, natCast_zero → oE
open List renaming length_pos_iff → Dn, range → oJ, all_eq_true → gl, mem_range → oI, map_nil → l9, map_cons → fG, append_assoc → bX, singleton_append → qF, length_append → a8, length_cons → aJ, length_map → vK, length_nil → bG, nil_append → eC, replicate → jE, contains_cons → Sw, mem_cons → dG, length_eq_zero_iff → l8, drop_eq_getElem_cons → Sz, getD_eq_getElem?_getD → Dm, getElem?_eq_getElem → fr, length_take → ja, length_drop → nz, cons_append → dQ, countP_cons → s4, drop_left → vH, append_nil → fZ, length → lJ, take_append_drop → qG, take_left → qH, isEmpty_cons → vJ, isEmpty_nil → IK, tail_cons → SH, mem_cons_self → oH, length_singleton → IL, suffix_refl → SG, length_tail → IM, flatMap_cons → qE, mem_append → eu, not_mem_nil → SF, mem_flatMap → SE, flatMap_nil → SC
open List.cons renaming injEq → iZ
open Nat renaming le_refl → b5, add_zero → ff, sub_self → IS
open Option renaming bind_some → ah
open Prod.mk renaming injEq → eL
open UInt8 renaming ofNat → gd
namespace Go.Fw.L19
open Go Go.Fw
set_option maxRecDepth 100000
abbrev ba:Type:=Int×(Int×(List (List UInt8)×Unit))
abbrev aZ:Type:=List UInt8×(List ba×Unit)
def sm (c:Int):Bool:=decide (c≥97)&&decide (c≤122)
def dg (c:Int):Bool:=decide (c≥48)&&decide (c≤57)
theorem Ij (c:Int):bE 30000 c=some (sm c):=by
 unfold bE sm
 simp only [QQ,QR,Hq]
 cases decide (c≥97)<;>rfl
theorem C7 (c:Int):bT 30000 c=some (sm c):=by
 unfold bT sm
 simp only [QW,QX,Hs]
 cases decide (c≥97)<;>rfl
theorem Sj (c:Int):aW 30000 c=some (dg c):=by
 unfold aW dg
 simp only [QS,QT,Hr]
 cases decide (c≥48)<;>rfl
theorem Ik (c:Int):bc 30000 c=some (dg c):=by
 unfold bc dg
 simp only [QY,QZ,Ht]
 cases decide (c≥48)<;>rfl
theorem agH (s:List UInt8) (hs:s.length≤bF) {R:Type} (k:Int→Option R):
  ∀ (m:Nat) (i:Int),0≤i→i≤s.length+1→CL (bE 30000) (aW 30000) k (fun _ i=>k i) m s i=jO (bT 30000) (bc 30000) (fun _ i=>k i) m s i:=by
 intro m
 induction m with
 | zero=>intro i _ _; rfl
 | succ m ih=>
   intro i h0 h1
   unfold CL jO
   simp only [Ah,Ai,Ao,Ar,As,At,Au,Av,Aj,Ak,Al,Am,An,Ap,Aq,ud,nW,nX,n7,n8,n9,oc,od,nY,nZ,n0,n4,n5,n6,mV,Ij,Sj,C7,Ik,ah]
   by_cases hi:i < (s.length:Int)
   ·have d:decide (i < (s.length:Int))=true:=decide_eq_true hi
    have hb:0≤i∧i < (s.length:Int):=⟨h0,hi⟩
    have w1:IntKind.i64.wrap (i+1)=i+1:=dA (by unfold bF at hs; omega)
    have w2:IntKind.i64.wrap (i+2)=i+2:=dA (by unfold bF at hs; omega)
    simp only [d,ak,if_pos hb,w1,w2]
    generalize hc:((s.getD i.toNat 0).toNat:Int)=c
    cases h3:sm c with
    | true=>simp only [ak]; exact ih (i+1) (by omega) (by omega)
    | false=>
      simp only [aj]
      cases h4:dg c with
      | true=>simp only [ak]; exact ih (i+1) (by omega) (by omega)
      | false=>
        simp only [aj]
        by_cases h5:c=45
        ·have e1:(c==(45:Int))=true:=by simpa using h5
         have e2:(c != (45:Int))=false:=by simp [h5]
         simp only [e1,e2,ak,aj]
         by_cases h6:i+1 < (s.length:Int)
         ·have e3:decide (i+1 < (s.length:Int))=true:=decide_eq_true h6
          have e4:((i+1)==(s.length:Int))=false:=by
           simp only [beq_eq_false_iff_ne,ne_eq]; omega
          have hb2:0≤i+1∧i+1 < (s.length:Int):=by omega
          simp only [e3,e4,ak,aj,if_pos hb2]
          generalize ((s.getD (i+1).toNat 0).toNat:Int)=c2
          cases h7:sm c2 with
          | true=>simp only [ak,cH,aj]; exact ih (i+2) (by omega) (by omega)
          | false=>
            simp only [aj,cE,ak]
            cases h8:dg c2 with
            | true=>simp only [ak,cH,aj]; exact ih (i+2) (by omega) (by omega)
            | false=>simp only [aj,cE,ak]
         ·have e3:decide (i+1 < (s.length:Int))=false:=decide_eq_false h6
          have e4:((i+1)==(s.length:Int))=true:=by
           simp only [beq_iff_eq]; omega
          simp only [e3,e4,ak,aj]
        ·have e1:(c==(45:Int))=false:=by simpa using h5
         have e2:(c != (45:Int))=true:=by simpa using h5
         simp only [e1,e2,ak,aj]
   ·have d:decide (i < (s.length:Int))=false:=decide_eq_false hi
    simp only [d,aj]
theorem avC (s:List UInt8) (hs:s.length≤bF):
  ∀ (m:Nat) (i:Int),0≤i→i≤s.length+1→(s.length:Int)+1 - i < m→∃ n,jO (bT 30000) (bc 30000) (fun _ i=>some i) m s i=some n:=by
 intro m
 induction m with
 | zero=>intro i h0 h1 h2; omega
 | succ m ih=>
   intro i h0 h1 h2
   unfold jO
   simp only [nW,nX,n7,n8,n9,oc,od,nY,nZ,n0,n4,n5,n6,mV,C7,Ik,ah]
   by_cases hi:i < (s.length:Int)
   ·have d:decide (i < (s.length:Int))=true:=decide_eq_true hi
    have hb:0≤i∧i < (s.length:Int):=⟨h0,hi⟩
    have w1:IntKind.i64.wrap (i+1)=i+1:=dA (by unfold bF at hs; omega)
    have w2:IntKind.i64.wrap (i+2)=i+2:=dA (by unfold bF at hs; omega)
    simp only [d,ak,if_pos hb,w1,w2]
    generalize hc:((s.getD i.toNat 0).toNat:Int)=c
    cases h3:sm c with
    | true=>simp only [ak]; exact ih (i+1) (by omega) (by omega) (by omega)
    | false=>
      simp only [aj]
      cases h4:dg c with
      | true=>simp only [ak]; exact ih (i+1) (by omega) (by omega) (by omega)
      | false=>
        simp only [aj]
        cases e2:(c != (45:Int)) with
        | true=>exact ⟨i,by simp only [ak]⟩
        | false=>
          simp only [aj]
          by_cases h6:i+1 < (s.length:Int)
          ·have e4:((i+1)==(s.length:Int))=false:=by
            simp only [beq_eq_false_iff_ne,ne_eq]; omega
           have hb2:0≤i+1∧i+1 < (s.length:Int):=by omega
           simp only [e4,aj,if_pos hb2]
           generalize ((s.getD (i+1).toNat 0).toNat:Int)=c2
           cases h7:sm c2 with
           | true=>simp only [cH,aj]; exact ih (i+2) (by omega) (by omega) (by omega)
           | false=>
             simp only [cE,ak]
             cases h8:dg c2 with
             | true=>simp only [cH,aj]; exact ih (i+2) (by omega) (by omega) (by omega)
             | false=>exact ⟨i,by simp only [cE,ak]⟩
          ·have e4:((i+1)==(s.length:Int))=true:=by
            simp only [beq_iff_eq]; omega
           exact ⟨i,by simp only [e4,ak]⟩
   ·have d:decide (i < (s.length:Int))=false:=decide_eq_false hi
    exact ⟨i,by simp only [d,aj]⟩
theorem v55 (s:List UInt8) (hs:s.length < 29900):∃ n,cK 30000 s=some n∧cL 30000 s=some n:=by
 have hb:s.length≤bF:=by unfold bF; omega
 have e1:=agH s hb (R:=Int) some 30000 1 (by omega) (by omega)
 obtain ⟨n,e2⟩:=avC s hb 30000 1 (by omega) (by omega) (by omega)
 unfold cK cL
 simp only [Ah,Ai,Ao,Ar,As,At,Au,Av,Aj,Ak,Al,Am,An,Ap,Aq,ud,nW,nX,n7,n8,n9,oc,od,nY,nZ,n0,n4,n5,n6,mV,Ij,C7,ah]
 cases h0:(s==([]:List UInt8)) with
 | true=>exact ⟨0,by simp only [ak],by simp only [ak]⟩
 | false=>
   have hne:s≠[]:=by simpa using h0
   have hp:0 < s.length:=Dn.2 hne
   have hb0:(0:Int)≤0∧(0:Int) < (s.length:Int):=by omega
   simp only [aj,if_pos hb0]
   cases sm ((s.getD (0:Int).toNat 0).toNat:Int) with
   | false=>exact ⟨0,by simp only [cE,ak],by simp only [cE,ak]⟩
   | true=>
     refine ⟨n,?_,?_⟩
     ·simp only [cH,aj]
      rw [e2] at e1; exact e1
     ·simp only [cH,aj]
      exact e2
theorem v38 (s:List UInt8):∃ b,ft 30000 s=some b∧eY 30000 s=some b:=by
 unfold ft eY
 simp only [PG,PH,Hi,Hj,Hk,yW]
 cases h0:(s != ([]:List UInt8)) with
 | false=>exact ⟨false,by simp only [aj],by simp only [aj]⟩
 | true=>
   simp only [ak]
   by_cases h1:(s.length:Int)≤20
   ·obtain ⟨n,e1,e2⟩:=v55 s (by omega)
    have d:decide ((s.length:Int)≤20)=true:=decide_eq_true h1
    exact ⟨n==(s.length:Int),by simp only [d,ak,e1,ah],by simp only [d,ak,e2,ah]⟩
   ·have d:decide ((s.length:Int)≤20)=false:=decide_eq_false h1
    exact ⟨false,by simp only [d,aj],by simp only [d,aj]⟩
def lS (c:Int):Bool:=match cM 30000 c with | some b=>b | none=>false
theorem avi:((oJ 256).all fun n=>fR 30000 (n:Int)==some (lS (n:Int))&&cM 30000 (n:Int)==some (lS (n:Int)))=true:=by kernel_rfl
theorem ah8 (b:UInt8):fR 30000 (b.toNat:Int)=some (lS (b.toNat:Int))∧cM 30000 (b.toNat:Int)=some (lS (b.toNat:Int)):=by
 have:=gl.1 avi b.toNat (oI.2 b.toNat_lt)
 simp only [aB,beq_iff_eq] at this
 exact this
def fl (b:UInt8):UInt8:=if 65≤b.toNat∧b.toNat≤90 then gd (b.toNat+32) else b
def fold (s:List UInt8):List UInt8:=s.map fl
theorem aeq (b:UInt8) (h:65≤b.toNat∧b.toNat≤90):IntKind.u8.wrap (IntKind.u8.wrap ((b.toNat:Int) - 65)+97)=((fl b).toNat:Int):=by
 have e:(fl b).toNat=b.toNat+32:=by
  unfold fl; rw [if_pos h]
  simp [UInt8.toNat_ofNat]
  omega
 rw [e]
 have w:∀ n:Int,0≤n→n≤255→IntKind.u8.wrap n=n:=by
  intro n h0 h1
  simp only [IntKind.wrap,IntKind.signed,IntKind.bits]
  simp
  omega
 rw [w ((b.toNat:Int) - 65) (by omega) (by omega),w ((b.toNat:Int) - 65+97) (by omega) (by omega)]
 omega
theorem S0 (s:List UInt8):(s.map fun b=>(b.toNat:Int)).map (fun n=>gd n.toNat)=s:=by
 rw [List.map_map]
 conv=>rhs; rw [←List.map_id s]
 apply List.map_congr_left
 intro b _
 simp
theorem H2 {α:Type} (pre ys:List α) (y z:α):(pre++y::ys).set (eB (pre.length:Int)) z=pre++z::ys:=by simp
theorem qh {α:Type} (pre ys:List α) (y:α):(eB (pre.length:Int) < (pre++y::ys).length)=True:=by simp
theorem avp {R:Type} (k0:List Int→Int→Int→Option R):
  ∀ (ys:List UInt8) (pre:List Int) (m:Nat),ys.length < m→(pre++ys.map fun b=>(b.toNat:Int)).length≤bF→
    uJ k0 m (pre++ys.map fun b=>(b.toNat:Int)) ((pre++ys.map fun b=>(b.toNat:Int)).length:Int) (pre.length:Int)=k0 (pre++(fold ys).map fun b=>(b.toNat:Int)) ((pre++ys.map fun b=>(b.toNat:Int)).length:Int) ((pre++ys.map fun b=>(b.toNat:Int)).length:Int):=by
 intro ys
 induction ys with
 | nil=>
   intro pre m hm hb
   cases m with
   | zero=>simp at hm
   | succ m=>
     unfold uJ
     simp only [zr,zw,zx,zA,zy,zl,zn,zo,zp,zq,zt,tY,l9,ep,aj]
     simp [fold]
 | cons y ys ih=>
   intro pre m hm hb
   cases m with
   | zero=>simp at hm
   | succ m=>
     rw [fG] at hb ⊢
     unfold uJ
     simp only [zr,zw,zx,zA,zy,zl,zn,zo,zp,zq,zt,tY,dU,dt,dp,if_true,ak,qh,H2,eS pre _ _ hb]
     by_cases h1:65≤y.toNat∧y.toNat≤90
     ·have d1:decide ((y.toNat:Int)≥65)=true:=decide_eq_true (by omega)
      have d2:decide ((y.toNat:Int)≤90)=true:=decide_eq_true (by omega)
      simp only [d1,d2,ak,aeq y h1]
      have:=ih (pre++[((fl y).toNat:Int)]) m (by simpa using hm) (by simpa using hb)
      simp only [bX,qF,a8,aJ,vK,bG] at this ⊢
      simp only [fold,fG] at this ⊢
      exact this
     ·have hf:fl y=y:=by unfold fl; rw [if_neg h1]
      have step:=ih (pre++[(y.toNat:Int)]) m (by simpa using hm) (by simpa using hb)
      simp only [bX,qF,a8,aJ,vK,bG] at step ⊢
      simp only [fold,fG,hf] at step ⊢
      by_cases h2:65≤y.toNat
      ·have d1:decide ((y.toNat:Int)≥65)=true:=decide_eq_true (by omega)
       have d2:decide ((y.toNat:Int)≤90)=false:=decide_eq_false (by omega)
       simp only [d1,d2,ak,aj]
       exact step
      ·have d1:decide ((y.toNat:Int)≥65)=false:=decide_eq_false (by omega)
       simp only [d1,aj]
       exact step
theorem v42 (s:List UInt8) (hs:s.length < 30000):fL 30000 s=some (fold s):=by
 unfold fL
 have:=avp (R:=List UInt8) (fun x _ _=>some (x.map fun n=>gd n.toNat)) s [] 30000 hs (by unfold bF; simp; omega)
 simp only [zr,zw,zx,zA,zy,zl,zn,zo,zp,zq,zt,tY]
 simp only [eC,bG,S0] at this
 exact this
theorem avq {R:Type} (k0:List UInt8→List Int→Int→Option R):
  ∀ (ys pre:List UInt8) (m:Nat),ys.length < m→(pre++ys).length≤bF→
    uV k0 m (pre++ys) ((fold pre).map (fun b=>(b.toNat:Int))++jE ys.length 0) (pre.length:Int)=k0 (pre++ys) ((fold (pre++ys)).map fun b=>(b.toNat:Int)) ((pre++ys).length:Int):=by
 intro ys
 induction ys with
 | nil=>
   intro pre m hm hb
   cases m with
   | zero=>simp at hm
   | succ m=>
     unfold uV
     simp only [B3,B5,B6,B8,B7,BW,BX,BY,BZ,B0,B4,uq,ep,aj]
     simp
 | cons y ys ih=>
   intro pre m hm hb
   cases m with
   | zero=>simp at hm
   | succ m=>
     have hpl:((fold pre).map (fun b=>(b.toNat:Int))).length=pre.length:=by simp [fold]
     have e1:∀ z:Int,(((fold pre).map (fun b=>(b.toNat:Int))++z::jE ys.length 0).length:Int)=((pre++y::ys).length:Int):=by intro z; simp [fold]
     have e2:∀ z z2:Int,((fold pre).map (fun b=>(b.toNat:Int))++z::jE ys.length 0).set (eB (pre.length:Int)) z2=(fold pre).map (fun b=>(b.toNat:Int))++z2::jE ys.length 0:=by
      intro z z2
      have:=H2 ((fold pre).map (fun b=>(b.toNat:Int))) (jE ys.length 0) z z2
      rw [hpl] at this; exact this
     have e3:∀ z:Int,(eB (pre.length:Int) < ((fold pre).map (fun b=>(b.toNat:Int))++z::jE ys.length 0).length)=True:=by intro z; simp [fold]
     rw [aJ,List.replicate_succ]
     unfold uV
     simp only [B3,B5,B6,B8,B7,BW,BX,BY,BZ,B0,B4,uq,e1,e2,e3,dU,dt,dp,if_true,ak,eS pre _ _ hb]
     have fin:(fold (pre++[y])).map (fun b=>(b.toNat:Int))=(fold pre).map (fun b=>(b.toNat:Int))++[((fl y).toNat:Int)]:=by simp [fold]
     have step:=ih (pre++[y]) m (by simpa using hm) (by simpa using hb)
     rw [fin] at step
     simp only [bX,qF] at step
     by_cases h1:65≤y.toNat∧y.toNat≤90
     ·have d1:decide ((y.toNat:Int)≥65)=true:=decide_eq_true (by omega)
      have d2:decide ((y.toNat:Int)≤90)=true:=decide_eq_true (by omega)
      simp only [d1,d2,ak,aeq y h1]
      exact step
     ·have hf:fl y=y:=by unfold fl; rw [if_neg h1]
      rw [hf] at step
      by_cases h2:65≤y.toNat
      ·have d1:decide ((y.toNat:Int)≥65)=true:=decide_eq_true (by omega)
       have d2:decide ((y.toNat:Int)≤90)=false:=decide_eq_false (by omega)
       simp only [d1,d2,ak,aj]
       exact step
      ·have d1:decide ((y.toNat:Int)≥65)=false:=decide_eq_false (by omega)
       simp only [d1,aj]
       exact step
theorem v75 (s:List UInt8) (hs:s.length < 30000):fQ 30000 s=some (fold s):=by
 unfold fQ
 have:=avq (R:=List UInt8) (fun _ x _=>some (x.map fun n=>gd n.toNat)) s [] 30000 hs (by unfold bF; simp; omega)
 have hb:0≤(s.length:Int)∧(s.length:Int)≤(s.length:Int)∧(s.length:Int)≤((140737488355328:Nat):Int):=by omega
 simp only [B3,B5,B6,B8,B7,BW,BX,BY,BZ,B0,B4,uq,if_pos hb,jY]
 simp only [eC,bG,S0,fold,l9] at this
 exact this
theorem avr {R:Type} (k0:Bool→Option R) (k1:List (List UInt8)→List UInt8→Int→Option R) (v:List UInt8):
  ∀ (ys pre:List (List UInt8)) (m:Nat),ys.length < m→(pre++ys).length≤bF→(∀ a b c,k1 a b c=k0 false)→
    uO k0 k1 m (pre++ys) v (pre.length:Int)=k0 (ys.contains v):=by
 intro ys
 induction ys with
 | nil=>
   intro pre m hm hb hk
   cases m with
   | zero=>simp at hm
   | succ m=>
     unfold uO
     simp only [AM,AN,AR,AS,AT,AU,AV,AO,AP,AQ,uf,ep,aj,hk]
     rfl
 | cons y ys ih=>
   intro pre m hm hb hk
   cases m with
   | zero=>simp at hm
   | succ m=>
     unfold uO
     simp only [AM,AN,AR,AS,AT,AU,AV,AO,AP,AQ,uf,dU,dt,dp,if_true,ak]
     have hcm:(y==v)=(v==y):=by
      rw [Bool.eq_iff_iff]; simp only [beq_iff_eq]; exact eq_comm
     rw [Sw,hcm]
     cases hv:(v==y) with
     | true=>simp only [ak,s0]
     | false=>
       simp only [aj,vD,eS pre ys y hb]
       rw [bP pre ys y,ih (pre++[y]) m (by simpa using hm) (by rw [←bP]; exact hb) hk]
theorem v60 (l:List (List UInt8)) (v:List UInt8) (hl:l.length < 30000):cZ 30000 l v=some (l.contains v):=by
 have:=avr (R:=Bool) some (fun _ _ _=>some false) v l [] 30000 hl (by unfold bF; simp; omega) (fun _ _ _=>rfl)
 unfold cZ
 simp only [AM,AN,AR,AS,AT,AU,AV,AO,AP,AQ,uf]
 simpa using this
theorem avv {R:Type} (k0:Int→Option R) (k1:List (List UInt8)→List UInt8→Int→Int→Option R) (v:List UInt8):
  ∀ (ys pre:List (List UInt8)) (m:Nat),ys.length < m→(pre++ys).length≤bF→(∀ a b c d,k1 a b c d=k0 (-1))→
    ∃ j:Int,uU k0 k1 m (pre++ys) v ((pre++ys).length:Int) (pre.length:Int)=k0 j∧(decide (0≤j)=ys.contains v):=by
 intro ys
 induction ys with
 | nil=>
   intro pre m hm hb hk
   cases m with
   | zero=>simp at hm
   | succ m=>
     refine ⟨-1,?_,rfl⟩
     unfold uU
     simp only [BM,BN,BT,BV,BU,BO,BP,BQ,BR,BS,uo,ep,aj,hk]
 | cons y ys ih=>
   intro pre m hm hb hk
   cases m with
   | zero=>simp at hm
   | succ m=>
     unfold uU
     simp only [BM,BN,BT,BV,BU,BO,BP,BQ,BR,BS,uo,dU,dt,dp,if_true,ak]
     cases hv:(v==y) with
     | true=>exact ⟨(pre.length:Int),by simp only [ak],by rw [Sw,hv]; simp⟩
     | false=>
       obtain ⟨j,h1,h2⟩:=ih (pre++[y]) m (by simpa using hm) (by rw [←bP]; exact hb) hk
       refine ⟨j,?_,by rw [h2,Sw,hv]; simp⟩
       simp only [aj,eS pre ys y hb]
       rw [bP pre ys y,h1]
theorem v57 (l:List (List UInt8)) (v:List UInt8) (hl:l.length < 30000):cX 30000 l v=some (l.contains v):=by
 obtain ⟨j,h1,h2⟩:=avv (R:=Int) some (fun _ _ _ _=>some (-1)) v l [] 30000 hl (by unfold bF; simp; omega) (fun _ _ _ _=>rfl)
 have hi:fP 30000 l v=some j:=by
  unfold fP
  simp only [BM,BN,BT,BV,BU,BO,BP,BQ,BR,BS,uo]
  simpa using h1
 unfold cX
 simp only [QO,QP,Hp,hi,ah,ge_iff_le,h2]
def bad (w:List UInt8):Bool:=w.any fun b=>!lS (b.toNat:Int)
def wd (w:List UInt8):Int:=if 16 < w.length then 3 else if w=[]∨fold w≠w∨bad w=true then 2 else 0
theorem au9 {R:Type} (f:Int×Unit→Option Bool) (p:UInt8→Bool) (hf:∀ b:UInt8,f ((b.toNat:Int),())=some (p b)) (k0:Int→Option R) (k1:List Int→(Int×Unit→Option Bool)→Int→Int→Option R):
  ∀ (ys:List UInt8) (pre:List Int) (m:Nat),ys.length < m→(pre++ys.map fun b=>(b.toNat:Int)).length≤bF→(∀ a b c d,k1 a b c d=k0 (-1))→
    ∃ j:Int,uY k0 k1 m (pre++ys.map fun b=>(b.toNat:Int)) f ((pre++ys.map fun b=>(b.toNat:Int)).length:Int) (pre.length:Int)=k0 j∧(decide (0≤j)=ys.any p):=by
 intro ys
 induction ys with
 | nil=>
   intro pre m hm hb hk
   cases m with
   | zero=>simp at hm
   | succ m=>
     refine ⟨-1,?_,rfl⟩
     unfold uY
     simp only [Cm,Cn,Ct,Cv,Cu,Co,Cp,Cq,Cr,Cs,ur,l9,ep,aj,hk]
 | cons y ys ih=>
   intro pre m hm hb hk
   cases m with
   | zero=>simp at hm
   | succ m=>
     rw [fG] at hb ⊢
     unfold uY
     simp only [Cm,Cn,Ct,Cv,Cu,Co,Cp,Cq,Cr,Cs,ur,dU,dt,dp,if_true,ak,hf,ah]
     cases hv:p y with
     | true=>exact ⟨(pre.length:Int),by simp only [ak],by rw [List.any_cons,hv]; simp⟩
     | false=>
       obtain ⟨j,h1,h2⟩:=ih (pre++[(y.toNat:Int)]) m (by simpa using hm) (by rw [←bP]; exact hb) hk
       refine ⟨j,?_,by rw [h2,List.any_cons,hv]; simp⟩
       simp only [aj,eS pre _ _ hb]
       rw [bP pre _ _,h1]
theorem v84 (f:Int×Unit→Option Bool) (p:UInt8→Bool) (hf:∀ b:UInt8,f ((b.toNat:Int),())=some (p b)) (w:List UInt8) (hw:w.length < 30000):dc 30000 (w.map fun b=>(b.toNat:Int)) f=some (w.any p):=by
 obtain ⟨j,h1,h2⟩:=au9 f p hf (R:=Int) some (fun _ _ _ _=>some (-1)) w [] 30000 hw (by unfold bF; simp; omega) (fun _ _ _ _=>rfl)
 have hi:fS 30000 (w.map fun b=>(b.toNat:Int)) f=some j:=by
  unfold fS
  simp only [Cm,Cn,Ct,Cv,Cu,Co,Cp,Cq,Cr,Cs,ur]
  simpa using h1
 unfold dc
 simp only [Q5,Q6,Hw,hi,ah,ge_iff_le,h2]
theorem v85 (b:UInt8):cN 30000 (b.toNat:Int)=some (!lS (b.toNat:Int)):=by
 unfold cN
 simp only [Q7,Q8,Hx,(ah8 b).1,ah]
theorem v71 (w:List UInt8) (hw:w.length≤16):fO 30000 [w]=some (if w=[] then ([],7) else if bad w=true then ([],2) else (w,0)):=by
 unfold fO
 have e1:decide ((0:Int) < (([w]:List (List UInt8)).length:Int))=true:=rfl
 have e2:((0:Int)≤0∧(0:Int) < (([w]:List (List UInt8)).length:Int))=True:=by simp
 have e3:IntKind.i64.wrap ((0:Int)+1)=1:=rfl
 have e4:decide ((1:Int) < (([w]:List (List UInt8)).length:Int))=false:=rfl
 have e5:([w]:List (List UInt8)).getD (eB 0) []=w:=rfl
 have ej:ga 30000 [w] [32]=some w:=rfl
 have e6:decide ((w.length:Int) > 120)=false:=decide_eq_false (by omega)
 have ec:=v84 (fun x=>((cN 30000 x.1).bind fun b=>some [.v .bool b]).bind (vx .bool)) (fun b=>!lS (b.toNat:Int)) (fun b=>by simp only [v85,ah]; rfl) w (by omega)
 have l1:∀ (m:Nat) {R:Type} (k0:List UInt8→Int→Option R) (k1:List (List UInt8)→List (List UInt8)→Int→Int→Option R),uT (dc 30000) (cN 30000) k0 k1 (m+2) [w] [w] 1 0=if w=[] then k0 [] 7 else if bad w=true then k0 [] 2 else k1 [w] [w] 1 1:=by
  intro m R k0 k1
  unfold uT
  have f1:decide ((0:Int) < 1)=true:=rfl
  simp only [Bw,Bx,BE,BH,BI,BJ,BK,BL,By,Bz,BA,BB,BC,BD,BF,BG,uk,f1,ak,e2,if_true,e5]
  by_cases h0:w=[]
  ·have:(w==([]:List UInt8))=true:=by simpa using h0
   simp only [this,ak,if_pos h0]
  ·have:(w==([]:List UInt8))=false:=by simpa using h0
   simp only [this,aj,if_neg h0]
   rw [ec]
   simp only [ah]
   change al (bad w) _ _=_
   cases hb:bad w with
   | true=>simp only [ak,if_true]
   | false=>
     simp only [aj,bA,if_false,e3]
     unfold uT
     have f2:decide ((1:Int) < 1)=false:=rfl
     simp only [Bw,Bx,BE,BH,BI,BJ,BK,BL,By,Bz,BA,BB,BC,BD,BF,BG,uk,f2,aj]
 simp only [Bw,Bx,BE,BH,BI,BJ,BK,BL,By,Bz,BA,BB,BC,BD,BF,BG,uk]
 have el:(([w]:List (List UInt8)).length:Int)=1:=rfl
 rw [el,l1 29998]
 by_cases h0:w=[]
 ·simp only [if_pos h0]
 ·simp only [if_neg h0]
  cases hb:bad w with
  | true=>simp only [if_true]
  | false=>simp only [bA,if_false,ej,ah,e6,aj]
theorem v56 (w:List UInt8):cW 30000 w=some (wd w):=by
 unfold cW wd
 simp only [QH,QI,QK,QM,QL,QN,QJ,Ho]
 by_cases h1:16 < w.length
 ·have d:decide ((w.length:Int) > 16)=true:=decide_eq_true (by omega)
  simp only [d,ak,if_pos h1]
 ·have d:decide ((w.length:Int) > 16)=false:=decide_eq_false (by omega)
  simp only [d,aj,if_neg h1,v71 w (by omega),ah,v42 w (by omega)]
  by_cases h2:w=[]
  ·simp only [if_pos h2,h2,true_or,if_true]
   rfl
  ·simp only [if_neg h2]
   cases hb:bad w with
   | true=>
     simp only [if_true,h2,false_or,or_true]
     rfl
   | false=>
     simp only [bA,if_false,h2,false_or,or_false]
     have e0:((0:Int) != 0)=false:=rfl
     simp only [e0,aj]
     by_cases h3:fold w=w
     ·have:(fold w != w)=false:=by simpa using h3
      rw [if_neg (by simpa using h3)]
      simp only [this,aj]
     ·have:(fold w != w)=true:=by simpa using h3
      rw [if_pos h3]
      simp only [this,ak]
theorem awJ {R:Type} (k0:Int→Option R) (k1:List UInt8→Int→Option R):
  ∀ (ys pre:List UInt8) (m:Nat),ys.length < m→(pre++ys).length≤bF→(∀ a b,k1 a b=k0 0)→
    uN (cM 30000) k0 k1 m (pre++ys) (pre.length:Int)=k0 (if bad ys=true then 2 else 0):=by
 intro ys
 induction ys with
 | nil=>
   intro pre m hm hb hk
   cases m with
   | zero=>simp at hm
   | succ m=>
     unfold uN
     simp only [Aw,Ax,AG,AH,AJ,AK,AL,Ay,Az,AA,AB,AD,AE,AF,ue,ep,aj,hk]
     rfl
 | cons y ys ih=>
   intro pre m hm hb hk
   cases m with
   | zero=>simp at hm
   | succ m=>
     unfold uN
     simp only [Aw,Ax,AG,AH,AJ,AK,AL,Ay,Az,AA,AB,AD,AE,AF,ue,dU,dt,dp,if_true,ak,(ah8 y).2,ah]
     have hbc:bad (y::ys)=(!lS (y.toNat:Int) || bad ys):=rfl
     rw [hbc]
     cases hv:lS (y.toNat:Int) with
     | false=>simp only [cE,ak,s0,if_true]
     | true=>
       simp only [cH,aj,vD,eS pre ys y hb]
       rw [bP pre ys y,ih (pre++[y]) m (by simpa using hm) (by rw [←bP]; exact hb) hk]
theorem v59 (w:List UInt8):cY 30000 w=some (wd w):=by
 unfold cY wd
 simp only [Aw,Ax,AG,AH,AJ,AK,AL,Ay,Az,AA,AB,AD,AE,AF,ue]
 by_cases h1:16 < w.length
 ·have d:decide ((w.length:Int) > 16)=true:=decide_eq_true (by omega)
  simp only [d,ak,if_pos h1]
 ·have d:decide ((w.length:Int) > 16)=false:=decide_eq_false (by omega)
  have hl:=awJ (R:=Int) some (fun _ _=>some 0) w [] 30000 (by omega) (by unfold bF; simp; omega) (fun _ _=>rfl)
  simp only [eC,bG,oE] at hl
  simp only [d,aj,if_neg h1,v75 w (by omega),ah]
  by_cases h2:w=[]
  ·have:(w==([]:List UInt8))=true:=by simpa using h2
   simp only [this,ak]
   rw [if_pos (.inl h2)]
  ·have:(w==([]:List UInt8))=false:=by simpa using h2
   simp only [this,aj]
   by_cases h3:fold w=w
   ·have:(fold w != w)=false:=by simpa using h3
    simp only [this,aj,hl]
    cases hb:bad w with
    | true=>rw [if_pos rfl,if_pos (.inr (.inr rfl))]
    | false=>rw [if_neg (by simp),if_neg (by simp [h2,h3])]
   ·have:(fold w != w)=true:=by simpa using h3
    simp only [this,ak]
    rw [if_pos (.inr (.inl h3))]
def lD:List (List UInt8)→List (List UInt8)→Int
 | [],_=>0
 | w::ws,pre=>if wd w≠0 then wd w else if pre.contains w=true then 5 else lD ws (pre++[w])
def hP (r:ba):Int:=if r.1 < 1∨12 < r.1∨r.2.1 < 0∨999 < r.2.1 then 6 else if 20 < r.2.2.1.length then 3 else lD r.2.2.1 []
theorem ahS {α:Type} (pre ys:List α):((pre++ys).drop (0:Int).toNat).take ((pre.length:Int).toNat - (0:Int).toNat)=pre:=by simp
theorem avQ {R:Type} (k0:Int→Option R) (k1:ba→List (List UInt8)→Int→Int→Option R) (a b:Int):
  ∀ (ys pre:List (List UInt8)) (m:Nat),ys.length < m→(pre++ys).length≤20→(∀ a b c d,k1 a b c d=k0 0)→
    uH (cW 30000) (cX 30000) k0 k1 m (a,b,(pre++ys),()) (pre++ys) ((pre++ys).length:Int) (pre.length:Int)=k0 (lD ys pre):=by
 intro ys
 induction ys with
 | nil=>
   intro pre m hm hb hk
   cases m with
   | zero=>simp at hm
   | succ m=>
     unfold uH
     simp only [yF,yG,yM,yS,yT,yU,yV,yH,yJ,yI,yK,yL,yN,yO,yP,yQ,yR,tW,ep,aj,hk,lD]
 | cons y ys ih=>
   intro pre m hm hb hk
   cases m with
   | zero=>simp at hm
   | succ m=>
     have hb2:(pre++y::ys).length≤bF:=by unfold bF; omega
     have hq:(0:Int)≤0∧(0:Int)≤(pre.length:Int)∧(pre.length:Int)≤((pre++y::ys).length:Int)∧((pre++y::ys).length:Int)≤((pre++y::ys).length:Int):=by simp; omega
     have hpl:pre.length < 30000:=by simp at hb; omega
     unfold uH
     simp only [yF,yG,yM,yS,yT,yU,yV,yH,yJ,yI,yK,yL,yN,yO,yP,yQ,yR,tW,dU,dt,dp,if_true,ak,v56,ah,lD]
     by_cases h1:wd y=0
     ·have e1:(wd y != 0)=false:=by simpa using h1
      simp only [e1,aj,if_pos hq,ahS,v57 pre y hpl,ah]
      rw [if_neg (by simpa using h1)]
      cases hc:pre.contains y with
      | true=>simp only [ak,if_true]
      | false=>
        simp only [aj,bA,if_false,eS pre ys y hb2]
        rw [bP pre ys y,ih (pre++[y]) m (by simpa using hm) (by rw [←bP]; exact hb) hk]
     ·have e1:(wd y != 0)=true:=by simpa using h1
      simp only [e1,ak]
      rw [if_pos h1]
theorem v39 (r:ba):cS 30000 r=some (hP r):=by
 obtain ⟨a,b,ws,u⟩:=r
 unfold cS hP
 simp only [yF,yG,yM,yS,yT,yU,yV,yH,yJ,yI,yK,yL,yN,yO,yP,yQ,yR,tW]
 by_cases h1:a < 1
 ·simp only [h1,decide_true,ak,true_or,if_true]
 by_cases h2:a > 12
 ·simp only [h1,h2,decide_true,decide_false,ak,aj,true_or,or_true,if_true,false_or]
 by_cases h3:b < 0
 ·simp only [h1,h2,h3,decide_true,decide_false,ak,aj,true_or,or_true,if_true,false_or]
 by_cases h4:b > 999
 ·simp only [h1,h2,h3,h4,decide_true,decide_false,ak,aj,true_or,or_true,if_true,false_or]
 rw [if_neg (by omega)]
 simp only [h1,h2,h3,h4,decide_false,aj]
 by_cases h5:20 < ws.length
 ·have d:decide ((ws.length:Int) > 20)=true:=decide_eq_true (by omega)
  simp only [d,ak,if_pos h5]
 ·have d:decide ((ws.length:Int) > 20)=false:=decide_eq_false (by omega)
  have:=avQ (R:=Int) some (fun _ _ _ _=>some 0) a b ws [] 30000 (by omega) (by simpa using h5) (fun _ _ _ _=>rfl)
  simp only [d,aj,if_neg h5]
  simpa using this
theorem avR {R:Type} (k0:Int→Option R) (k1:ba→Int→Option R) (a b:Int):
  ∀ (ys pre:List (List UInt8)) (m:Nat),ys.length < m→(pre++ys).length≤20→(∀ a b,k1 a b=k0 0)→
    uI (cY 30000) (cZ 30000) k0 k1 m (a,b,(pre++ys),()) (pre.length:Int)=k0 (lD ys pre):=by
 intro ys
 induction ys with
 | nil=>
   intro pre m hm hb hk
   cases m with
   | zero=>simp at hm
   | succ m=>
     unfold uI
     simp only [yX,yY,zc,zh,zi,zj,zk,y8,yZ,y9,za,zb,zd,ze,zf,zg,tX,ep,aj,hk,lD]
 | cons y ys ih=>
   intro pre m hm hb hk
   cases m with
   | zero=>simp at hm
   | succ m=>
     have hb2:(pre++y::ys).length≤bF:=by unfold bF; omega
     have hq:(0:Int)≤0∧(0:Int)≤(pre.length:Int)∧(pre.length:Int)≤((pre++y::ys).length:Int)∧((pre++y::ys).length:Int)≤((pre++y::ys).length:Int):=by simp; omega
     have hpl:pre.length < 30000:=by simp at hb; omega
     unfold uI
     simp only [yX,yY,zc,zh,zi,zj,zk,y8,yZ,y9,za,zb,zd,ze,zf,zg,tX,dU,dt,dp,if_true,ak,v59,ah,lD]
     by_cases h1:wd y=0
     ·have e1:(wd y != 0)=false:=by simpa using h1
      simp only [e1,aj,if_pos hq,ahS,v60 pre y hpl,ah]
      rw [if_neg (by simpa using h1)]
      cases hc:pre.contains y with
      | true=>simp only [ak,if_true]
      | false=>
        simp only [aj,bA,if_false,eS pre ys y hb2]
        rw [bP pre ys y,ih (pre++[y]) m (by simpa using hm) (by rw [←bP]; exact hb) hk]
     ·have e1:(wd y != 0)=true:=by simpa using h1
      simp only [e1,ak]
      rw [if_pos h1]
theorem v41 (r:ba):cT 30000 r=some (hP r):=by
 obtain ⟨a,b,ws,u⟩:=r
 unfold cT hP
 simp only [yX,yY,zc,zh,zi,zj,zk,y8,yZ,y9,za,zb,zd,ze,zf,zg,tX]
 by_cases h1:a < 1
 ·simp only [h1,decide_true,ak,true_or,if_true]
 by_cases h2:a > 12
 ·simp only [h1,h2,decide_true,decide_false,ak,aj,true_or,or_true,if_true,false_or]
 by_cases h3:b < 0
 ·simp only [h1,h2,h3,decide_true,decide_false,ak,aj,true_or,or_true,if_true,false_or]
 by_cases h4:b > 999
 ·simp only [h1,h2,h3,h4,decide_true,decide_false,ak,aj,true_or,or_true,if_true,false_or]
 rw [if_neg (by omega)]
 simp only [h1,h2,h3,h4,decide_false,aj]
 by_cases h5:20 < ws.length
 ·have d:decide ((ws.length:Int) > 20)=true:=decide_eq_true (by omega)
  simp only [d,ak,if_pos h5]
 ·have d:decide ((ws.length:Int) > 20)=false:=decide_eq_false (by omega)
  have:=avR (R:=Int) some (fun _ _=>some 0) a b ws [] 30000 (by omega) (by simpa using h5) (fun _ _=>rfl)
  simp only [d,aj,if_neg h5]
  simpa using this
def lC:List ba→Int
 | []=>0
 | r::rs=>if hP r≠0 then hP r else lC rs
def ju (s:List UInt8):Bool:=match eY 30000 s with | some b=>b | none=>false
def dO (x:aZ):Int:=if ju x.1=false then 2 else if 30 < x.2.1.length then 3 else lC x.2.1
theorem ah9 (s:List UInt8):ft 30000 s=some (ju s)∧eY 30000 s=some (ju s):=by
 obtain ⟨b,h1,h2⟩:=v38 s
 have:ju s=b:=by unfold ju; rw [h2]
 rw [this]; exact ⟨h1,h2⟩
theorem avz {R:Type} (k0:Int→Option R) (k1:List ba→Int→Int→Option R):
  ∀ (ys pre:List ba) (m:Nat),ys.length < m→(pre++ys).length≤bF→(∀ a b c,k1 a b c=k0 0)→
    uA (cS 30000) k0 k1 m (pre++ys) ((pre++ys).length:Int) (pre.length:Int)=k0 (lC ys):=by
 intro ys
 induction ys with
 | nil=>
   intro pre m hm hb hk
   cases m with
   | zero=>simp at hm
   | succ m=>
     unfold uA
     simp only [wZ,xa,xf,xk,xl,xm,xn,xc,xb,xd,xe,xg,xi,xj,g13,ep,aj,hk,lC]
 | cons y ys ih=>
   intro pre m hm hb hk
   cases m with
   | zero=>simp at hm
   | succ m=>
     unfold uA
     simp only [wZ,xa,xf,xk,xl,xm,xn,xc,xb,xd,xe,xg,xi,xj,g13,dU,dt,dp,if_true,ak,v39,ah,lC]
     by_cases h1:hP y=0
     ·have e1:(hP y != 0)=false:=by simpa using h1
      simp only [e1,aj,eS pre ys y hb]
      rw [if_neg (by simpa using h1),bP pre ys y,ih (pre++[y]) m (by simpa using hm) (by rw [←bP]; exact hb) hk]
     ·have e1:(hP y != 0)=true:=by simpa using h1
      simp only [e1,ak]
      rw [if_pos h1]
theorem Si (x:aZ):bQ 30000 x=some (dO x):=by
 unfold bQ dO
 simp only [wZ,xa,xf,xk,xl,xm,xn,xc,xb,xd,xe,xg,xi,xj,g13,(ah9 x.1).1,ah]
 cases ju x.1 with
 | false=>simp only [cE,ak,if_true]
 | true=>
   simp only [cH,aj,Bool.true_eq_false,if_false]
   by_cases h5:30 < x.2.1.length
   ·have d:decide ((x.2.1.length:Int) > 30)=true:=decide_eq_true (by omega)
    simp only [d,ak,if_pos h5]
   ·have d:decide ((x.2.1.length:Int) > 30)=false:=decide_eq_false (by omega)
    have:=avz (R:=Int) some (fun _ _ _=>some 0) x.2.1 [] 30000 (by omega) (by unfold bF; simp; omega) (fun _ _ _=>rfl)
    simp only [d,aj,if_neg h5]
    simpa using this
theorem avA {R:Type} (k0:Int→Option R) (k1:aZ→Int→Option R) (nm:List UInt8):
  ∀ (ys pre:List ba) (m:Nat),ys.length < m→(pre++ys).length≤bF→(∀ a b,k1 a b=k0 0)→
    uB (cT 30000) k0 k1 m (nm,(pre++ys),()) (pre.length:Int)=k0 (lC ys):=by
 intro ys
 induction ys with
 | nil=>
   intro pre m hm hb hk
   cases m with
   | zero=>simp at hm
   | succ m=>
     unfold uB
     simp only [xo,xp,xz,xC,xD,xE,xF,xu,xr,xw,xx,xy,xA,xB,g14,ep,aj,hk,lC]
 | cons y ys ih=>
   intro pre m hm hb hk
   cases m with
   | zero=>simp at hm
   | succ m=>
     unfold uB
     simp only [xo,xp,xz,xC,xD,xE,xF,xu,xr,xw,xx,xy,xA,xB,g14,dU,dt,dp,if_true,ak,v41,ah,lC]
     by_cases h1:hP y=0
     ·have e1:(hP y != 0)=false:=by simpa using h1
      simp only [e1,aj,eS pre ys y hb]
      rw [if_neg (by simpa using h1),bP pre ys y,ih (pre++[y]) m (by simpa using hm) (by rw [←bP]; exact hb) hk]
     ·have e1:(hP y != 0)=true:=by simpa using h1
      simp only [e1,ak]
      rw [if_pos h1]
theorem Ii (x:aZ):bR 30000 x=some (dO x):=by
 obtain ⟨nm,rs,u⟩:=x
 unfold bR dO
 simp only [xo,xp,xz,xC,xD,xE,xF,xu,xr,xw,xx,xy,xA,xB,g14,(ah9 nm).2,ah]
 cases ju nm with
 | false=>simp only [cE,ak,if_true]
 | true=>
   simp only [cH,aj,Bool.true_eq_false,if_false]
   by_cases h5:30 < rs.length
   ·have d:decide ((rs.length:Int) > 30)=true:=decide_eq_true (by omega)
    simp only [d,ak,if_pos h5]
   ·have d:decide ((rs.length:Int) > 30)=false:=decide_eq_false (by omega)
    have:=avA (R:=Int) some (fun _ _=>some 0) nm rs [] 30000 (by omega) (by unfold bF; simp; omega) (fun _ _=>rfl)
    simp only [d,aj,if_neg h5]
    simpa using this
theorem aAu:∀ (ws:List (List UInt8)) (pre:List (List UInt8)),lD ws pre=0→∀ w∈ws,w.length≤16
 | [],_,_,w,hw=>by simp at hw
 | y::ws,pre,h,w,hw=>by
   simp only [lD] at h
   split at h
   ·rename_i h1; exact absurd h h1
   ·split at h
    ·simp at h
    ·rename_i h1 _
     rcases dG.1 hw with rfl | hw
     ·have h1:wd w=0:=by simpa using h1
      unfold wd at h1
      split at h1
      ·simp at h1
      ·omega
     ·exact aAu ws _ h w hw
theorem ahl:∀ (rs:List ba),lC rs=0→∀ r∈rs,r.2.2.1.length≤20
 | [],_,r,hr=>by simp at hr
 | y::rs,h,r,hr=>by
   simp only [lC] at h
   split at h
   ·rename_i h1; exact absurd h h1
   ·rename_i h1
    rcases dG.1 hr with rfl | hr
    ·have h1:hP r=0:=by simpa using h1
     unfold hP at h1
     split at h1
     ·simp at h1
     ·split at h1
      ·simp at h1
      ·omega
    ·exact ahl rs h r hr
theorem aNv {x:aZ} (h:dO x=0):x.2.1.length≤30∧∀ r∈x.2.1,r.2.2.1.length≤20:=by
 unfold dO at h
 split at h
 ·simp at h
 ·split at h
  ·simp at h
  ·exact ⟨by omega,ahl _ h⟩
def apps (r:ba) (w:List UInt8):Bool:=r.2.2.1.isEmpty || r.2.2.1.contains w
def Ie (k:Int) (w:List UInt8) (r:ba) (q:Int×Bool):Bool:=(r.1==k)&&(apps r w&&(!q.2 || decide (r.2.1 < q.1)))
def oU (k:Int) (w:List UInt8):List ba→Int×Bool→Int×Bool
 | [],q=>q
 | r::rs,q=>oU k w rs (cond (Ie k w r q) (r.2.1,true) q)
theorem avs {x:aZ} (z:gT reachBytes (.pair .str (.pair (.sl (.pair (.int .i64) (.pair (.int .i64) (.pair (.sl .str) .unit)))) .unit)) x):∀ r∈x.2.1,∀ w∈r.2.2.1,w.length≤140737488355328:=by
 intro r hr w hw
 have h1:w.length≤reachBytes:=(z.2.1 r hr).2.2.1 w hw
 have:=reachBytes_lt
 omega
theorem avW {R:Type} (k0:List (List UInt8)→Int→Int→Int→Option R):
  ∀ (ys pre:List (List UInt8)) (m:Nat) (n:Int),pre.length≤1501→1503≤m+pre.length→(pre.length:Int)≤n→n≤140737488400000→(∀ w∈ys,w.length≤140737488355328)→
    ∃ q i,uG k0 m (pre++ys) 1500 n (pre.length:Int)=k0 (pre++ys) 1500 q i∧n≤q∧q≤140737488400000∧(q≤1500→(ys.length:Int)≤q - n∧∀ w∈ys,(w.length:Int)≤q - n):=by
 intro ys
 induction ys with
 | nil=>
   intro pre m n h1 h2 h3 h4 hw
   cases m with
   | zero=>omega
   | succ m=>
     refine ⟨n,(pre.length:Int),?_,by omega,by omega,fun _=>⟨by simp,by simp⟩⟩
     unfold uG
     simp only [yx,yz,yA,yB,yC,yD,yE,yw,yy,tV,ep,aj]
 | cons y ys ih=>
   intro pre m n h1 h2 h3 h4 hw
   cases m with
   | zero=>omega
   | succ m=>
     unfold uG
     simp only [yx,yz,yA,yB,yC,yD,yE,yw,yy,tV,dU,dt,dp,if_true,ak]
     by_cases hn:n≤1500
     ·have hy:=hw y (by simp)
      have w1:IntKind.i64.wrap (n+1)=n+1:=dA (by omega)
      have w2:IntKind.i64.wrap (n+1+(y.length:Int))=n+1+(y.length:Int):=dA (by omega)
      have w3:IntKind.i64.wrap ((pre.length:Int)+1)=((pre++[y]).length:Int):=by
       rw [dA (by omega)]; simp
      obtain ⟨q,i,h,g1,g2,g3⟩:=ih (pre++[y]) m (n+1+(y.length:Int)) (by simp; omega) (by simp; omega) (by simp; omega) (by omega) (fun w hw'=>hw w (by simp [hw']))
      refine ⟨q,i,?_,by omega,g2,fun hq=>?_⟩
      ·simp only [hn,decide_true,ak,w1,w2,w3]
       rw [bP pre ys y]; exact h
      ·obtain ⟨g4,g5⟩:=g3 hq
       refine ⟨by simp only [aJ]; omega,fun w hw'=>?_⟩
       rcases dG.1 hw' with rfl | hw'
       ·omega
       ·have:=g5 w hw'; omega
     ·refine ⟨n,(pre.length:Int),?_,by omega,by omega,fun hq=>absurd hq hn⟩
      simp only [hn,decide_false,aj]
theorem v34 (l:List (List UInt8)) (hw:∀ w∈l,w.length≤140737488355328):∃ q:Int,cR 30000 l 1500=some q∧0≤q∧q≤140737488400000∧(q≤1500→(l.length:Int)≤q∧∀ w∈l,(w.length:Int)≤q):=by
 obtain ⟨q,i,h,g1,g2,g3⟩:=avW (R:=Int) (fun _ _ n _=>some n) l [] 30000 0 (by simp) (by simp) (by simp) (by omega) hw
 refine ⟨q,?_,g1,g2,by simpa using g3⟩
 unfold cR
 simp only [yx,yz,yA,yB,yC,yD,yE,yw,yy,tV]
 simpa using h
def ahI (n:Int) (r:ba):Prop:=(r.2.2.1.length:Int)≤n∧∀ w∈r.2.2.1,(w.length:Int)≤n
theorem avl {R:Type} (k0:aZ→Int→Int→Option R) (nm:List UInt8):
  ∀ (ys pre:List ba) (m:Nat) (n:Int),pre.length≤50→52≤m+pre.length→0≤n→n≤140737488355328+140737488400000 * pre.length→(∀ r∈ys,∀ w∈r.2.2.1,w.length≤140737488355328)→
    ∃ q i,ux (cR 30000) k0 m (nm,(pre++ys),()) n (pre.length:Int)=k0 (nm,(pre++ys),()) q i∧n≤q∧(q≤1500→(pre++ys).length≤40→∀ r∈ys,ahI 1500 r):=by
 intro ys
 induction ys with
 | nil=>
   intro pre m n h1 h2 h3 h4 hw
   cases m with
   | zero=>omega
   | succ m=>
     refine ⟨n,(pre.length:Int),?_,by omega,fun _ _=>by simp⟩
     unfold ux
     simp only [wH,wJ,wK,wL,wM,wN,wO,wG,wI,g10,ep,aj]
 | cons y ys ih=>
   intro pre m n h1 h2 h3 h4 hw
   cases m with
   | zero=>omega
   | succ m=>
     unfold ux
     simp only [wH,wJ,wK,wL,wM,wN,wO,wG,wI,g10,dU,dt,dp,if_true,ak]
     by_cases hp:(pre.length:Int) < 50
     ·obtain ⟨s,hs,g1,g2,g3⟩:=v34 y.2.2.1 (hw y (by simp))
      have w3:IntKind.i64.wrap ((pre.length:Int)+1)=((pre++[y]).length:Int):=by
       rw [dA (by omega)]; simp
      have hle:n+s≤140737488355328+140737488400000 * ((pre++[y]).length:Int):=by
       simp only [a8,aJ,bG,Int.natCast_add]; omega
      have w4:IntKind.i64.wrap (n+s)=n+s:=dA (by
       have:((pre++[y]).length:Int)≤50:=by simp; omega
       omega)
      obtain ⟨q,i,h,k1,k2⟩:=ih (pre++[y]) m (n+s) (by simp; omega) (by simp; omega) (by omega) hle (fun r hr=>hw r (by simp [hr]))
      refine ⟨q,i,?_,by omega,fun hq hl r hr=>?_⟩
      ·simp only [hp,decide_true,ak,hs,ah,w3,w4]
       rw [bP pre ys y]; exact h
      ·rcases dG.1 hr with rfl | hr
       ·obtain ⟨g4,g5⟩:=g3 (by omega)
        exact ⟨by omega,fun w hw=>by have:=g5 w hw; omega⟩
       ·exact k2 hq (by simpa using hl) r hr
     ·refine ⟨n,(pre.length:Int),?_,by omega,fun _ hl=>?_⟩
      ·simp only [hp,decide_false,aj]
      ·simp at hl; omega
theorem v10 (x:aZ) (hw:∀ r∈x.2.1,∀ w∈r.2.2.1,w.length≤140737488355328) (hn:x.1.length≤140737488355328):
  ∃ b,fH 30000 x=some b∧(b=true→x.2.1.length≤40∧x.1.length≤1500∧∀ r∈x.2.1,ahI 1500 r):=by
 obtain ⟨nm,rs,u⟩:=x
 obtain ⟨q,i,h,g1,g2⟩:=avl (R:=Bool) (fun x n _=>al (decide ((x.2.1.length:Int)≤(40:Int))) (some (decide (n≤(1500:Int)))) (some false)) nm rs [] 30000 (nm.length:Int) (by simp) (by simp) (by omega) (by simp at hn ⊢; omega) hw
 unfold fH
 simp only [wH,wJ,wK,wL,wM,wN,wO,wG,wI,g10]
 simp only [eC,bG,oE] at h g2
 rw [h]
 by_cases h1:(rs.length:Int)≤40
 ·refine ⟨_,by simp only [h1,decide_true,ak]; rfl,fun hb=>?_⟩
  have hq:q≤1500:=of_decide_eq_true hb
  exact ⟨by show rs.length≤40; omega,by show nm.length≤1500; omega,g2 hq (by omega)⟩
 ·exact ⟨_,by simp only [h1,decide_false,aj]; rfl,fun hb=>by cases hb⟩
theorem avg {R:Type} (k0:Bool→Option R) (k1:List (List UInt8)→List (List UInt8)→Int→Option R) (hk:∀ a b c,k1 a b c=k0 true):
  ∀ (ys zs pre:List (List UInt8)) (m:Nat),ys.length=zs.length→ys.length < m→(pre++ys).length≤bF→
    ∀ pre2:List (List UInt8),pre2.length=pre.length→uF k0 k1 m (pre++ys) (pre2++zs) (pre.length:Int)=k0 (decide (ys=zs)):=by
 intro ys
 induction ys with
 | nil=>
   intro zs pre m hl hm hb pre2 hp
   cases zs with
   | cons=>simp at hl
   | nil=>
     cases m with
     | zero=>simp at hm
     | succ m=>
       unfold uF
       simp only [yh,yi,yo,yp,yq,yr,yu,yj,yk,yl,ym,yn,tU,ep,aj,hk]
       rfl
 | cons y ys ih=>
   intro zs pre m hl hm hb pre2 hp
   cases zs with
   | nil=>simp at hl
   | cons z zs=>
     cases m with
     | zero=>simp at hm
     | succ m=>
       have i2:(0≤(pre.length:Int)∧(pre.length:Int) < ((pre2++z::zs).length:Int))=True:=by rw [←hp]; exact dt ..
       have a2:(pre2++z::zs).getD (eB (pre.length:Int)) []=z:=by rw [←hp]; exact dp ..
       unfold uF
       simp only [yh,yi,yo,yp,yq,yr,yu,yj,yk,yl,ym,yn,tU,dU,dt,dp,i2,a2,if_true,ak,eS pre ys y hb]
       by_cases h:y=z
       ·subst h
        have e1:(y != y)=false:=by simp
        simp only [e1,aj]
        rw [bP pre ys y,bP pre2 zs y,ih zs (pre++[y]) m (by simpa using hl) (by simpa using hm) (by rw [←bP]; exact hb) (pre2++[y]) (by simp [hp])]
        simp
       ·have e1:(y != z)=true:=by simpa using h
        simp only [e1,ak]
        have:decide (y::ys=z::zs)=false:=by simp [h]
        rw [this]
theorem v29 (a b:List (List UInt8)) (h:a.length < 30000):cQ 30000 a b=some (decide (a=b)):=by
 unfold cQ
 simp only [yh,yi,yo,yp,yq,yr,yu,yj,yk,yl,ym,yn,tU]
 by_cases hl:a.length=b.length
 ·have e1:((a.length:Int) != (b.length:Int))=false:=by simp [hl]
  have:=avg (R:=Bool) some (fun _ _ _=>some true) (fun _ _ _=>rfl) a b [] 30000 hl h (by unfold bF; simp; omega) [] rfl
  simp only [e1,aj]
  simpa using this
 ·have e1:((a.length:Int) != (b.length:Int))=true:=by simp; omega
  have:decide (a=b)=false:=by
   simp only [decide_eq_false_iff_not]; rintro rfl; exact hl rfl
  simp only [e1,ak,this]
def lW:List ba→List ba→Bool
 | [],[]=>true
 | r::rs,s::ss=>(r.1==s.1&&(r.2.1==s.2.1&&decide (r.2.2.1=s.2.2.1)))&&lW rs ss
 | _,_=>false
theorem ahu:∀ {rs ss:List ba},lW rs ss=true→rs=ss
 | [],[],_=>rfl
 | (a,b,c,u)::rs,(a',b',c',u')::ss,h=>by
   simp only [lW,aB,beq_iff_eq,decide_eq_true_eq] at h
   obtain ⟨⟨h1,h2,h3⟩,h4⟩:=h
   rw [ahu h4,h1,h2,h3]
 | [],_::_,h | _::_,[],h=>by simp [lW] at h
theorem ahw:∀ rs:List ba,lW rs rs=true
 | []=>rfl
 | r::rs=>by simp [lW,ahw rs]
theorem avS {R:Type} (k0:Bool→Option R) (k1:aZ→aZ→Int→Option R) (hk:∀ a b c,k1 a b c=k0 true) (nm nm2:List UInt8):
  ∀ (ys zs pre:List ba) (m:Nat),ys.length=zs.length→ys.length < m→(pre++ys).length≤bF→(∀ r∈ys,r.2.2.1.length < 30000)→
    ∀ pre2:List ba,pre2.length=pre.length→uX (cQ 30000) k0 k1 m (nm,(pre++ys),()) (nm2,(pre2++zs),()) (pre.length:Int)=k0 (lW ys zs):=by
 intro ys
 induction ys with
 | nil=>
   intro zs pre m hl hm hb hr pre2 hp
   cases zs with
   | cons=>simp at hl
   | nil=>
     cases m with
     | zero=>simp at hm
     | succ m=>
       unfold uX
       simp only [B9,Ca,Ci,Cj,Ck,Cb,Cl,Cc,Cd,Ce,Cf,Cg,g8,ep,aj,hk]
       rfl
 | cons y ys ih=>
   intro zs pre m hl hm hb hr pre2 hp
   cases zs with
   | nil=>simp at hl
   | cons z zs=>
     cases m with
     | zero=>simp at hm
     | succ m=>
       have i2:(0≤(pre.length:Int)∧(pre.length:Int) < ((pre2++z::zs).length:Int))=True:=by rw [←hp]; exact dt ..
       have a2:∀ d,(pre2++z::zs).getD (eB (pre.length:Int)) d=z:=fun d=>by rw [←hp]; exact dp ..
       have step:=ih zs (pre++[y]) m (by simpa using hl) (by simpa using hm) (by rw [←bP]; exact hb) (fun r h=>hr r (by simp [h])) (pre2++[z]) (by simp [hp])
       rw [←bP,←bP] at step
       unfold uX
       simp only [B9,Ca,Ci,Cj,Ck,Cb,Cl,Cc,Cd,Ce,Cf,Cg,g8,dU,dt,dp,i2,a2,if_true,ak,eS pre ys y hb,v29 y.2.2.1 z.2.2.1 (hr y (by simp)),ah]
       simp only [lW,bne]
       cases h1:(y.1==z.1) with
       | false=>simp only [cE,ak,lG]
       | true=>
         simp only [cH,aj,iX]
         cases h2:(y.2.1==z.2.1) with
         | false=>simp only [cE,ak,lG]
         | true=>
           simp only [cH,aj,iX]
           cases h3:decide (y.2.2.1=z.2.2.1) with
           | false=>simp only [cE,ak,lG]
           | true=>
             simp only [cH,aj,iX]
             exact step
def vo (x y:aZ):Bool:=decide (x.1=y.1)&&lW x.2.1 y.2.1
theorem ahv:∀ {rs ss:List ba},rs.length≠ss.length→lW rs ss=false
 | [],[],h=>absurd rfl h
 | _::rs,_::ss,h=>by simp only [lW,ahv (rs:=rs) (ss:=ss) (by simpa using h),Ss]
 | [],_::_,_ | _::_,[],_=>rfl
theorem v8 (x y:aZ) (h:x.2.1.length < 30000) (hr:∀ r∈x.2.1,r.2.2.1.length < 30000):S8 30000 x y=some (vo x y):=by
 obtain ⟨nm,rs,u⟩:=x
 obtain ⟨nm2,ss,u2⟩:=y
 replace h:rs.length < 30000:=h
 unfold S8 vo
 simp only [B9,Ca,Ci,Cj,Ck,Cb,Cl,Cc,Cd,Ce,Cf,Cg,g8]
 by_cases h1:nm=nm2
 ·subst h1
  have e1:(nm != nm)=false:=by simp
  simp only [e1,aj,decide_true,iX]
  by_cases hl:rs.length=ss.length
  ·have e2:((rs.length:Int) != (ss.length:Int))=false:=by simp [hl]
   have:=avS (R:=Bool) some (fun _ _ _=>some true) (fun _ _ _=>rfl) nm nm rs ss [] 30000 hl h (by unfold bF; simp; omega) hr [] rfl
   simp only [e2,aj]
   simpa using this
  ·have e2:((rs.length:Int) != (ss.length:Int))=true:=by simp; omega
   simp only [e2,ak,ahv hl]
 ·have e1:(nm != nm2)=true:=by simpa using h1
  simp only [e1,ak,h1,decide_false,lG]
theorem aNE {x y:aZ} (h:vo x y=true):x=y:=by
 obtain ⟨nm,rs,u⟩:=x
 obtain ⟨nm2,ss,u2⟩:=y
 simp only [vo,aB,decide_eq_true_eq] at h
 rw [h.1,ahu h.2]
theorem Sc (x:aZ):vo x x=true:=by simp [vo,ahw]
abbrev Tok:Type:=Int×(List UInt8×(Int×Unit))
def fm (c:UInt8):Bool:=sm (c.toNat:Int)
def bB (c:UInt8):Bool:=dg (c.toNat:Int)
def bO (c:UInt8):Bool:=decide ((c.toNat:Int)≥32)&&(decide ((c.toNat:Int)≤126)&&((c.toNat:Int) != 34))
def aS (p:UInt8→Bool):List UInt8→Nat
 | []=>0
 | c::s=>if p c then aS p s+1 else 0
def gD:List UInt8→Nat
 | []=>0
 | c::s=>if fm c || bB c then gD s+1 else if c.toNat=45 then (match s with
   | d::t=>if fm d || bB d then gD t+2 else 0
   | []=>0) else 0
def eW:List UInt8→Nat
 | []=>0
 | c::s=>if fm c then gD s+1 else 0
theorem oT (p:UInt8→Bool):∀ s,aS p s≤s.length
 | []=>b5 _
 | c::s=>by
   simp only [aS,aJ]
   split
   ·have:=oT p s; omega
   ·omega
theorem RT:∀ (n:Nat) (s:List UInt8),s.length≤n→gD s≤s.length
 | _,[],_=>b5 _
 | 0,_::_,h=>by simp at h
 | n+1,c::s,h=>by
   unfold gD
   simp only [aJ] at h ⊢
   split
   ·have:=RT n s (by omega); omega
   ·split
    ·split
     ·rename_i d t
      simp only [aJ] at h ⊢
      split
      ·have:=RT n t (by omega); omega
      ·omega
     ·omega
    ·omega
theorem agR (s:List UInt8):eW s≤s.length:=by
 cases s with
 | nil=>exact b5 _
 | cons c s=>
   simp only [eW,aJ]
   split
   ·have:=RT _ s (b5 _); omega
   ·omega
theorem aie (a b:Nat) (h:a+b≤bF):IntKind.i64.wrap ((a:Int)+(b:Int))=((a+b:Nat):Int):=by
 rw [dA (by unfold bF at h; omega)]; simp
theorem aid (a:Nat) (h:a+1≤bF):IntKind.i64.wrap ((a:Int)+1)=((a+1:Nat):Int):=aie a 1 h
theorem aNb (a:Nat) (h:a+2≤bF):IntKind.i64.wrap ((a:Int)+2)=((a+2:Nat):Int):=aie a 2 h
theorem avB {R:Type} (k0:List UInt8→Int→Option R):
  ∀ (n:Nat) (ys pre:List UInt8) (m:Nat),ys.length≤n→ys.length < m→(pre++ys).length≤1000000→
    jO (bT 30000) (bc 30000) k0 m (pre++ys) (pre.length:Int)=k0 (pre++ys) ((pre.length+gD ys:Nat):Int):=by
 intro n
 induction n with
 | zero=>
   intro ys pre m hn hm hb
   have:ys=[]:=l8.1 (by omega)
   subst this
   cases m with
   | zero=>simp at hm
   | succ m=>
     unfold jO
     simp only [nW,nX,n7,n8,n9,oc,od,nY,nZ,n0,n4,n5,n6,mV,ep,aj,gD,ff]
 | succ n ih=>
   intro ys pre m hn hm hb
   cases ys with
   | nil=>
     cases m with
     | zero=>simp at hm
     | succ m=>
       unfold jO
       simp only [nW,nX,n7,n8,n9,oc,od,nY,nZ,n0,n4,n5,n6,mV,ep,aj,gD,ff]
   | cons c s=>
     cases m with
     | zero=>simp at hm
     | succ m=>
       simp only [aJ,a8] at hn hm hb
       have hBIG:pre.length+2≤bF:=by unfold bF; omega
       have step1:=ih s (pre++[c]) m (by omega) (by omega) (by simp; omega)
       rw [←bP] at step1
       have e1:((pre++[c]).length:Int)=((pre.length+1:Nat):Int):=by simp
       rw [e1] at step1
       unfold jO
       simp only [nW,nX,n7,n8,n9,oc,od,nY,nZ,n0,n4,n5,n6,mV,dU,dt,dp,if_true,ak,C7,Ik,ah,aid pre.length (by omega),aNb pre.length hBIG]
       unfold gD
       have go:jO (bT 30000) (bc 30000) k0 m (pre++c::s) ((pre.length+1:Nat):Int)=k0 (pre++c::s) ((pre.length+(gD s+1):Nat):Int):=by
        rw [step1]; congr 2; simp; omega
       cases h1:sm (c.toNat:Int) with
       | true=>
         have:fm c=true:=h1
         simp only [ak,this,s0,if_true]
         exact go
       | false=>
         have h1':fm c=false:=h1
         simp only [aj,h1',vD]
         cases h2:dg (c.toNat:Int) with
         | true=>
           have:bB c=true:=h2
           simp only [ak,this,if_true]
           exact go
         | false=>
           have h2':bB c=false:=h2
           simp only [aj,h2',bA,if_false]
           by_cases h3:c.toNat=45
           ·have e3:((c.toNat:Int) != 45)=false:=by simp [h3]
            simp only [e3,aj,if_pos h3]
            cases s with
            | nil=>
              have e4:(((pre.length+1:Nat):Int)==((pre++[c]).length:Int))=true:=by simp
              simp only [e4,ak,ff]
            | cons d t=>
              have e4:(((pre.length+1:Nat):Int)==((pre++c::d::t).length:Int))=false:=by
               simp only [beq_eq_false_iff_ne,ne_eq,a8,aJ]; omega
              have e5:(0≤((pre.length+1:Nat):Int)∧((pre.length+1:Nat):Int) < ((pre++c::d::t).length:Int))=True:=by
               simp only [a8,aJ,eq_iff_iff,iff_true]; omega
              have e6:(pre++c::d::t).getD (eB ((pre.length+1:Nat):Int)) 0=d:=by
               rw [bP pre (d::t) c]
               have:=dp (pre++[c]) t d 0
               rw [e1] at this; exact this
              simp only [e4,aj,e5,e6,if_true]
              simp only [aJ] at hn hm hb
              have step2:=ih t ((pre++[c])++[d]) m (by omega) (by omega) (by simp; omega)
              rw [←bP,←bP] at step2
              have e7:((pre++[c]++[d]).length:Int)=((pre.length+2:Nat):Int):=by simp
              rw [e7] at step2
              have go2:jO (bT 30000) (bc 30000) k0 m (pre++c::d::t) ((pre.length+2:Nat):Int)=k0 (pre++c::d::t) ((pre.length+(gD t+2):Nat):Int):=by
               rw [step2]; congr 2; simp; omega
              cases h4:sm (d.toNat:Int) with
              | true=>
                have:fm d=true:=h4
                simp only [cH,aj,this,s0,if_true]
                exact go2
              | false=>
                have h4':fm d=false:=h4
                simp only [cE,ak,h4',vD]
                cases h5:dg (d.toNat:Int) with
                | true=>
                  have:bB d=true:=h5
                  simp only [cH,aj,this,if_true]
                  exact go2
                | false=>
                  have:bB d=false:=h5
                  simp only [cE,ak,this,bA,if_false,ff]
           ·have e3:((c.toNat:Int) != 45)=true:=by
             simp only [bne_iff_ne,ne_eq]; omega
            simp only [e3,ak,if_neg h3,ff]
theorem vnm (s:List UInt8) (hs:s.length < 30000):cK 30000 s=some (eW s:Int)∧cL 30000 s=some (eW s:Int):=by
 have hb:s.length≤bF:=by unfold bF; omega
 have e1:=agH s hb (R:=Int) some 30000 1 (by omega) (by omega)
 unfold cK cL
 simp only [Ah,Ai,Ao,Ar,As,At,Au,Av,Aj,Ak,Al,Am,An,Ap,Aq,ud,nW,nX,n7,n8,n9,oc,od,nY,nZ,n0,n4,n5,n6,mV,Ij,C7,ah]
 cases s with
 | nil=>exact ⟨rfl,rfl⟩
 | cons c s=>
   have h0:((c::s)==([]:List UInt8))=false:=rfl
   have hb0:(0:Int)≤0∧(0:Int) < ((c::s).length:Int):=by simp only [aJ]; omega
   have hc:(((c::s).getD (0:Int).toNat 0).toNat:Int)=(c.toNat:Int):=rfl
   have e2:=avB (R:=Int) (fun _ i=>some i) s.length s [c] 30000 (b5 _) (by simp at hs; omega) (by simp at hs ⊢; omega)
   have e3:((([c]:List UInt8).length:Nat):Int)=1:=rfl
   rw [e3] at e2
   have e4:[c]++s=c::s:=rfl
   rw [e4] at e2
   simp only [h0,aj,if_pos hb0,hc,eW]
   cases hsm:sm (c.toNat:Int) with
   | false=>
     have:fm c=false:=hsm
     simp only [cE,ak,this,bA,if_false]
     exact ⟨rfl,rfl⟩
   | true=>
     have h9:fm c=true:=hsm
     have e5:(([c].length+gD s:Nat):Int)=((gD s+1:Nat):Int):=by simp; omega
     rw [e5] at e2
     simp only [cH,aj,h9,if_true]
     exact ⟨e1.trans e2,e2⟩
theorem ldigits {R:Type} (k0:List UInt8→Int→Option R):
  ∀ (ys pre:List UInt8) (m:Nat),ys.length < m→(pre++ys).length≤1000000→
    uP (aW 30000) k0 m (pre++ys) (pre.length:Int)=k0 (pre++ys) ((pre.length+aS bB ys:Nat):Int):=by
 intro ys
 induction ys with
 | nil=>
   intro pre m hm hb
   cases m with
   | zero=>simp at hm
   | succ m=>
     unfold uP
     simp only [AW,AY,AZ,A0,A1,A2,AX,ug,ep,aj,aS,ff]
 | cons y ys ih=>
   intro pre m hm hb
   cases m with
   | zero=>simp at hm
   | succ m=>
     have hb':(pre++y::ys).length≤bF:=by unfold bF; omega
     unfold uP
     simp only [AW,AY,AZ,A0,A1,A2,AX,ug,dU,dt,dp,if_true,ak,Sj,ah,eS pre ys y hb',aS]
     cases h:dg (y.toNat:Int) with
     | false=>
       have:bB y=false:=h
       simp only [aj,this,bA,if_false,ff]
     | true=>
       have h':bB y=true:=h
       simp only [ak,h',if_true]
       rw [bP pre ys y,ih (pre++[y]) m (by simpa using hm) (by rw [←bP]; exact hb)]
       congr 2; simp; omega
theorem ava {R:Type} (k0:List UInt8→Int→Option R):
  ∀ (ys pre:List UInt8) (m:Nat),ys.length < m→(pre++ys).length≤1000000→
    uR (bc 30000) k0 m (pre++ys) (pre.length:Int)=k0 (pre++ys) ((pre.length+aS bB ys:Nat):Int):=by
 intro ys
 induction ys with
 | nil=>
   intro pre m hm hb
   cases m with
   | zero=>simp at hm
   | succ m=>
     unfold uR
     simp only [Be,Bg,Bh,Bi,Bj,Bk,Bf,ui,ep,aj,aS,ff]
 | cons y ys ih=>
   intro pre m hm hb
   cases m with
   | zero=>simp at hm
   | succ m=>
     have hb':(pre++y::ys).length≤bF:=by unfold bF; omega
     unfold uR
     simp only [Be,Bg,Bh,Bi,Bj,Bk,Bf,ui,dU,dt,dp,if_true,ak,Ik,ah,eS pre ys y hb',aS]
     cases h:dg (y.toNat:Int) with
     | false=>
       have:bB y=false:=h
       simp only [aj,this,bA,if_false,ff]
     | true=>
       have h':bB y=true:=h
       simp only [ak,h',if_true]
       rw [bP pre ys y,ih (pre++[y]) m (by simpa using hm) (by rw [←bP]; exact hb)]
       congr 2; simp; omega
theorem vdg (s:List UInt8) (hs:s.length < 30000):de 30000 s=some (aS bB s:Int)∧dh 30000 s=some (aS bB s:Int):=by
 have e1:=ldigits (R:=Int) (fun _ i=>some i) s [] 30000 hs (by simp; omega)
 have e2:=ava (R:=Int) (fun _ i=>some i) s [] 30000 hs (by simp; omega)
 unfold de dh
 simp only [AW,AY,AZ,A0,A1,A2,AX,ug,Be,Bg,Bh,Bi,Bj,Bk,Bf,ui]
 simp only [eC,bG,Nat.zero_add] at e1 e2
 exact ⟨e1,e2⟩
theorem ah7 (c:UInt8):da 30000 (c.toNat:Int)=some (bO c)∧db 30000 (c.toNat:Int)=some (bO c):=by
 unfold da db bO
 simp only [Q1,Q2,Hu,Q3,Q4,Hv]
 cases decide ((c.toNat:Int)≥32)<;>cases decide ((c.toNat:Int)≤126)<;>exact ⟨rfl,rfl⟩
theorem avO {R:Type} (k0:List UInt8→Int→Option R):
  ∀ (ys pre:List UInt8) (m:Nat),ys.length < m→(pre++ys).length≤1000000→
    uQ (da 30000) k0 m (pre++ys) (pre.length:Int)=k0 (pre++ys) ((pre.length+aS bO ys:Nat):Int):=by
 intro ys
 induction ys with
 | nil=>
   intro pre m hm hb
   cases m with
   | zero=>simp at hm
   | succ m=>
     unfold uQ
     simp only [A7,A9,Ba,Bb,Bc,Bd,A3,A4,A5,A6,A8,uh,ep,aj,aS,ff]
 | cons y ys ih=>
   intro pre m hm hb
   cases m with
   | zero=>simp at hm
   | succ m=>
     have hb':(pre++y::ys).length≤bF:=by unfold bF; omega
     unfold uQ
     simp only [A7,A9,Ba,Bb,Bc,Bd,A3,A4,A5,A6,A8,uh,dU,dt,dp,if_true,ak,(ah7 y).1,ah,eS pre ys y hb',aS]
     cases h:bO y with
     | false=>simp only [aj,bA,if_false,ff]
     | true=>
       simp only [ak,if_true]
       rw [bP pre ys y,ih (pre++[y]) m (by simpa using hm) (by rw [←bP]; exact hb)]
       congr 2; simp; omega
theorem avP {R:Type} (k0:List UInt8→Tok→Int→Option R) (z:Tok):
  ∀ (ys pre:List UInt8) (m:Nat),ys.length < m→(pre++ys).length≤1000000→
    uS (db 30000) k0 m (pre++ys) z (pre.length:Int)=k0 (pre++ys) z ((pre.length+aS bO ys:Nat):Int):=by
 intro ys
 induction ys with
 | nil=>
   intro pre m hm hb
   cases m with
   | zero=>simp at hm
   | succ m=>
     unfold uS
     simp only [Bp,Br,Bs,Bt,Bu,Bv,Bl,Bm,Bn,Bo,Bq,uj,ep,aj,aS,ff]
 | cons y ys ih=>
   intro pre m hm hb
   cases m with
   | zero=>simp at hm
   | succ m=>
     have hb':(pre++y::ys).length≤bF:=by unfold bF; omega
     unfold uS
     simp only [Bp,Br,Bs,Bt,Bu,Bv,Bl,Bm,Bn,Bo,Bq,uj,dU,dt,dp,if_true,ak,(ah7 y).2,ah,eS pre ys y hb',aS]
     cases h:bO y with
     | false=>simp only [aj,bA,if_false,ff]
     | true=>
       simp only [ak,if_true]
       rw [bP pre ys y,ih (pre++[y]) m (by simpa using hm) (by rw [←bP]; exact hb)]
       congr 2; simp; omega
def qv (c:UInt8):Bool:=match fu 30000 (c.toNat:Int) with | some b=>b | none=>false
theorem aAV:((oJ 256).all fun n=>(match df 30000 ([123,125,40,41,91,93,47,59,58,126,64,61,94,44,46,124,43,42,60,62,45]:List UInt8) (n:Int) with | some r=>decide (r≥(0:Int))==qv (gd n) | none=>false)&&(fu 30000 (n:Int)==some (qv (gd n))))=true:=by kernel_rfl
theorem aM4 (c:UInt8):(∃ r:Int,df 30000 ([123,125,40,41,91,93,47,59,58,126,64,61,94,44,46,124,43,42,60,62,45]:List UInt8) (c.toNat:Int)=some r∧decide (r≥(0:Int))=qv c)∧fu 30000 (c.toNat:Int)=some (qv c):=by
 have h:=gl.1 aAV c.toNat (oI.2 c.toNat_lt)
 simp only [aB,beq_iff_eq] at h
 obtain ⟨h1,h2⟩:=h
 have e:gd c.toNat=c:=by simp
 rw [e] at h1 h2
 refine ⟨?_,h2⟩
 split at h1
 ·rename_i r hr
  exact ⟨r,hr,by simpa using h1⟩
 ·cases h1
def fe (t:List UInt8):Int×List UInt8:=
 match t.drop (aS bO t) with
 | c::_=>if c.toNat≠34 then (2,[]) else if 60 < aS bO t then (3,[]) else (0,t.take (aS bO t))
 | []=>(2,[])
theorem Ob (p:UInt8→Bool) (t:List UInt8):(t.drop (aS p t)=[]↔aS p t=t.length)∧∀ c r,t.drop (aS p t)=c::r→aS p t < t.length∧t.getD (aS p t) 0=c:=by
 refine ⟨⟨fun h=>?_,fun h=>by rw [h]; simp⟩,fun c r h=>?_⟩
 ·have:=List.drop_eq_nil_iff.1 h
  have:=oT p t
  omega
 ·have hl:aS p t < t.length:=by
   rcases Nat.lt_or_ge (aS p t) t.length with h1 | h1
   ·exact h1
   ·rw [List.drop_eq_nil_iff.2 h1] at h; cases h
  refine ⟨hl,?_⟩
  rw [Sz hl] at h
  rw [Dm,fr hl]
  simp only [iZ] at h
  simpa using h.1
theorem aM2 (c:UInt8) (t:List UInt8) (hs:(c::t).length < 30000):S64 30000 (c::t)=some ((fe t).2,(fe t).1):=by
 have e1:=avO (R:=List UInt8×Int) (fun s n=>al (n==(s.length:Int)) (some (([]:List UInt8),(2:Int))) (if 0≤n∧n < (s.length:Int) then
   al (((s.getD n.toNat 0).toNat:Int) != (34:Int)) (some ([],2)) (al (decide ((IntKind.i64.wrap (n - 1)) > (60:Int))) (some ([],3)) (if 0≤(1:Int)∧(1:Int)≤n∧n≤(s.length:Int) then some (((s.drop (1:Int).toNat).take (n.toNat - (1:Int).toNat)),0) else none)) else none)) t [c] 30000 (by simp at hs; omega) (by simp at hs ⊢; omega)
 unfold S64
 simp only [A7,A9,Ba,Bb,Bc,Bd,A3,A4,A5,A6,A8,uh]
 have e3:((([c]:List UInt8).length:Nat):Int)=1:=rfl
 have e4:[c]++t=c::t:=rfl
 rw [e3,e4] at e1
 refine e1.trans ?_
 have hle:=oT bO t
 have hd:=Ob bO t
 have e5:([c].length+aS bO t:Nat)=aS bO t+1:=by simp; omega
 rw [e5]
 unfold fe
 cases hdr:t.drop (aS bO t) with
 | nil=>
   have h1:=hd.1.1 hdr
   have:(((aS bO t+1:Nat):Int)==((c::t).length:Int))=true:=by simp [h1]
   simp only [this,ak]
 | cons d r=>
   obtain ⟨h1,h2⟩:=hd.2 d r hdr
   have q1:(((aS bO t+1:Nat):Int)==((c::t).length:Int))=false:=by
    simp only [beq_eq_false_iff_ne,ne_eq,aJ]; omega
   have q2:0≤((aS bO t+1:Nat):Int)∧((aS bO t+1:Nat):Int) < ((c::t).length:Int):=by
    simp only [aJ]; omega
   have q3:(c::t).getD (eB ((aS bO t+1:Nat):Int)) 0=d:=by rw [jY,List.getD_cons_succ]; exact h2
   simp only [q1,aj,if_pos q2,q3]
   by_cases h3:d.toNat=34
   ·have q4:((d.toNat:Int) != 34)=false:=by simp [h3]
    have w:IntKind.i64.wrap (((aS bO t+1:Nat):Int) - 1)=(aS bO t:Int):=by
     rw [dA (by simp at hs; omega)]; omega
    have n34:¬ (d.toNat≠34):=by simpa using h3
    simp only [q4,aj,w,if_neg n34]
    by_cases h4:60 < aS bO t
    ·have q5:decide ((aS bO t:Int) > 60)=true:=decide_eq_true (by omega)
     simp only [q5,ak,if_pos h4]
    ·have q5:decide ((aS bO t:Int) > 60)=false:=decide_eq_false (by omega)
     have q6:0≤(1:Int)∧(1:Int)≤((aS bO t+1:Nat):Int)∧((aS bO t+1:Nat):Int)≤((c::t).length:Int):=by
      simp only [aJ]; omega
     have q7:((c::t).drop (1:Int).toNat).take (eB ((aS bO t+1:Nat):Int) - (1:Int).toNat)=t.take (aS bO t):=by
      rw [jY]; rfl
     simp only [q5,aj,if_pos q6,if_neg h4,q7]
   ·have q4:((d.toNat:Int) != 34)=true:=by simp only [bne_iff_ne,ne_eq]; omega
    have n34:d.toNat≠34:=h3
    simp only [q4,ak,if_pos n34]
theorem aMZ (c:UInt8) (t:List UInt8) (hs:(c::t).length < 30000):
  fN 30000 (c::t)=some (if (fe t).1=0 then ((3,((fe t).2,((0:Int),()))),(((fe t).2.length+2:Nat):Int),0) else (((0:Int),([],((0:Int),()))),0,(fe t).1)):=by
 have e1:=avP (R:=Tok×Int×Int) (fun s z n=>al (n==(s.length:Int)) (some (((0:Int),([],((0:Int),()))),(0:Int),(2:Int))) (if 0≤n∧n < (s.length:Int) then
   al (((s.getD n.toNat 0).toNat:Int) != (34:Int)) (some (((0:Int),([],((0:Int),()))),(0:Int),(2:Int))) (al (decide ((IntKind.i64.wrap (n - 1)) > (60:Int))) (some (((0:Int),([],((0:Int),()))),(0:Int),(3:Int))) (if 0≤(1:Int)∧(1:Int)≤n∧n≤(s.length:Int) then some (((3:Int),((s.drop (1:Int).toNat).take (n.toNat - (1:Int).toNat)),(0:Int),()),IntKind.i64.wrap (n+1),(0:Int)) else none)) else none)) ((0:Int),([],((0:Int),()))) t [c] 30000 (by simp at hs; omega) (by simp at hs ⊢; omega)
 unfold fN
 simp only [Bp,Br,Bs,Bt,Bu,Bv,Bl,Bm,Bn,Bo,Bq,uj]
 have e3:((([c]:List UInt8).length:Nat):Int)=1:=rfl
 have e4:[c]++t=c::t:=rfl
 rw [e3,e4] at e1
 refine e1.trans ?_
 have hle:=oT bO t
 have hd:=Ob bO t
 have e5:([c].length+aS bO t:Nat)=aS bO t+1:=by simp; omega
 rw [e5]
 unfold fe
 cases hdr:t.drop (aS bO t) with
 | nil=>
   have h1:=hd.1.1 hdr
   have:(((aS bO t+1:Nat):Int)==((c::t).length:Int))=true:=by simp [h1]
   simp only [this,ak]
   rfl
 | cons d r=>
   obtain ⟨h1,h2⟩:=hd.2 d r hdr
   have q1:(((aS bO t+1:Nat):Int)==((c::t).length:Int))=false:=by
    simp only [beq_eq_false_iff_ne,ne_eq,aJ]; omega
   have q2:0≤((aS bO t+1:Nat):Int)∧((aS bO t+1:Nat):Int) < ((c::t).length:Int):=by
    simp only [aJ]; omega
   have q3:(c::t).getD (eB ((aS bO t+1:Nat):Int)) 0=d:=by rw [jY,List.getD_cons_succ]; exact h2
   simp only [q1,aj,if_pos q2,q3]
   by_cases h3:d.toNat=34
   ·have q4:((d.toNat:Int) != 34)=false:=by simp [h3]
    have w:IntKind.i64.wrap (((aS bO t+1:Nat):Int) - 1)=(aS bO t:Int):=by
     rw [dA (by simp at hs; omega)]; omega
    have w2:IntKind.i64.wrap (((aS bO t+1:Nat):Int)+1)=((aS bO t+2:Nat):Int):=by
     rw [dA (by simp at hs; omega)]; omega
    have n34:¬ (d.toNat≠34):=by simpa using h3
    simp only [q4,aj,w,w2,if_neg n34]
    by_cases h4:60 < aS bO t
    ·have q5:decide ((aS bO t:Int) > 60)=true:=decide_eq_true (by omega)
     have n3:¬ ((3:Int)=0):=by decide
     simp only [q5,ak,if_pos h4,if_neg n3]
    ·have q5:decide ((aS bO t:Int) > 60)=false:=decide_eq_false (by omega)
     have q6:0≤(1:Int)∧(1:Int)≤((aS bO t+1:Nat):Int)∧((aS bO t+1:Nat):Int)≤((c::t).length:Int):=by
      simp only [aJ]; omega
     have q7:((c::t).drop (1:Int).toNat).take (eB ((aS bO t+1:Nat):Int) - (1:Int).toNat)=t.take (aS bO t):=by
      rw [jY]; rfl
     have q8:(t.take (aS bO t)).length=aS bO t:=by rw [ja]; omega
     simp only [q5,aj,if_pos q6,if_neg h4,q7,if_true,q8]
   ·have q4:((d.toNat:Int) != 34)=true:=by simp only [bne_iff_ne,ne_eq]; omega
    have n34:d.toNat≠34:=h3
    have n2:¬ ((2:Int)=0):=by decide
    simp only [q4,ak,if_pos n34,if_neg n2]
def qk:List UInt8→Int→Int
 | [],a=>a
 | c::s,a=>qk s (10 * a+((c.toNat:Int) - 48))
def ov (s:List UInt8):Bool:=!(s==[])&&(decide (s.length≤6)&&((aS bB s==s.length)&&!(decide (1 < s.length)&&((s.headD 0).toNat==48))))
theorem ET {c:UInt8} (h:bB c=true):48≤c.toNat∧c.toNat≤57:=by
 unfold bB dg at h
 simp only [aB,decide_eq_true_eq] at h
 omega
theorem N4 (p:UInt8→Bool):∀ {s:List UInt8},aS p s=s.length→∀ c∈s,p c=true
 | [],_,c,hc=>by simp at hc
 | d::s,h,c,hc=>by
   have hle:=oT p s
   simp only [aS,aJ] at h
   split at h
   ·rename_i hd
    rcases dG.1 hc with rfl | hc
    ·exact hd
    ·exact N4 p (by omega) c hc
   ·omega
theorem ahV {c:UInt8} (h:bB c=true):IntKind.u8.wrap ((c.toNat:Int) - 48)=(c.toNat:Int) - 48:=by
 have:=ET h
 have w:∀ n:Int,0≤n→n≤255→IntKind.u8.wrap n=n:=by
  intro n h0 h1
  simp only [IntKind.wrap,IntKind.signed,IntKind.bits]
  simp
  omega
 exact w _ (by omega) (by omega)
theorem ahc (k:Nat):(10:Int) ^ (k+1)=10 * 10 ^ k:=by rw [Int.pow_succ]; omega
theorem ahb {k:Nat} (h:k≤6):(10:Int) ^ k≤1000000:=by
 have:k=0∨k=1∨k=2∨k=3∨k=4∨k=5∨k=6:=by omega
 rcases this with rfl | rfl | rfl | rfl | rfl | rfl | rfl<;>decide
theorem avD {R:Type} (k0:Int→List Int→Int→Int→Option R):
  ∀ (ys pre:List UInt8) (m:Nat) (a:Int),(∀ c∈ys,bB c=true)→pre.length+ys.length≤6→ys.length < m→0≤a→a < 10 ^ pre.length→
    uK k0 m a ((pre++ys).map fun b=>(b.toNat:Int)) (((pre++ys).map fun b=>(b.toNat:Int)).length:Int) (pre.length:Int)=k0 (qk ys a) ((pre++ys).map fun b=>(b.toNat:Int)) (((pre++ys).map fun b=>(b.toNat:Int)).length:Int) ((pre++ys).length:Int):=by
 intro ys
 induction ys with
 | nil=>
   intro pre m a hd hl hm h0 h1
   cases m with
   | zero=>simp at hm
   | succ m=>
     have d:decide ((pre.length:Int) < (((pre++[]).map fun b:UInt8=>(b.toNat:Int)).length:Int))=false:=by simp
     unfold uK
     simp only [zB,zC,zJ,zK,zL,zM,zD,zE,zF,zG,zH,zI,tZ,d,aj,qk]
     simp
 | cons y ys ih=>
   intro pre m a hd hl hm h0 h1
   cases m with
   | zero=>simp at hm
   | succ m=>
     simp only [aJ] at hl hm
     have hy:=hd y (by simp)
     have hr:=ET hy
     have hp:(10:Int) ^ pre.length≤1000000:=ahb (by omega)
     have hL:(((pre++y::ys).map fun b:UInt8=>(b.toNat:Int)).length:Int)=((pre++y::ys).length:Int):=by simp
     have d:decide ((pre.length:Int) < (((pre++y::ys).map fun b:UInt8=>(b.toNat:Int)).length:Int))=true:=by rw [hL]; exact dU ..
     have i1:(0≤(pre.length:Int)∧(pre.length:Int) < (((pre++y::ys).map fun b:UInt8=>(b.toNat:Int)).length:Int))=True:=by rw [hL]; exact dt ..
     have i2:(eB (pre.length:Int) < ((pre++y::ys).map fun b:UInt8=>(b.toNat:Int)).length)=True:=by simp
     have e1:((pre++y::ys).map fun b:UInt8=>(b.toNat:Int)).getD (eB (pre.length:Int)) 0=(y.toNat:Int):=by simp
     have w1:IntKind.i64.wrap (10 * a)=10 * a:=dA (by omega)
     have w2:IntKind.i64.wrap ((y.toNat:Int) - 48)=(y.toNat:Int) - 48:=dA (by omega)
     have w3:IntKind.i64.wrap (10 * a+((y.toNat:Int) - 48))=10 * a+((y.toNat:Int) - 48):=dA (by omega)
     have w4:IntKind.i64.wrap ((pre.length:Int)+1)=((pre++[y]).length:Int):=by rw [dA (by omega)]; simp
     unfold uK
     simp only [zB,zC,zJ,zK,zL,zM,zD,zE,zF,zG,zH,zI,tZ,d,ak,i1,i2,if_true,e1,ahV hy,w1,w2,w3,w4,qk]
     rw [bP pre ys y]
     exact ih (pre++[y]) m (10 * a+((y.toNat:Int) - 48)) (fun c hc=>hd c (by simp [hc])) (by simp; omega) (by omega) (by omega) (by
      simp only [a8,aJ,bG]; rw [ahc]; omega)
theorem avE {R:Type} (k0:List UInt8→Int→Int→Option R):
  ∀ (ys pre:List UInt8) (m:Nat) (a:Int),(∀ c∈ys,bB c=true)→pre.length+ys.length≤6→ys.length < m→0≤a→a < 10 ^ pre.length→
    uM k0 m (pre++ys) a (pre.length:Int)=k0 (pre++ys) (qk ys a) ((pre++ys).length:Int):=by
 intro ys
 induction ys with
 | nil=>
   intro pre m a hd hl hm h0 h1
   cases m with
   | zero=>simp at hm
   | succ m=>
     unfold uM
     simp only [zY,zZ,Ac,Ad,Ae,Af,Ag,z6,z7,z8,Aa,Ab,uc,ep,aj,qk]
     simp
 | cons y ys ih=>
   intro pre m a hd hl hm h0 h1
   cases m with
   | zero=>simp at hm
   | succ m=>
     simp only [aJ] at hl hm
     have hy:=hd y (by simp)
     have hr:=ET hy
     have hp:(10:Int) ^ pre.length≤1000000:=ahb (by omega)
     have w1:IntKind.i64.wrap (10 * a)=10 * a:=dA (by omega)
     have w2:IntKind.i64.wrap ((y.toNat:Int) - 48)=(y.toNat:Int) - 48:=dA (by omega)
     have w3:IntKind.i64.wrap (10 * a+((y.toNat:Int) - 48))=10 * a+((y.toNat:Int) - 48):=dA (by omega)
     have w4:IntKind.i64.wrap ((pre.length:Int)+1)=((pre++[y]).length:Int):=by rw [dA (by omega)]; simp
     unfold uM
     simp only [zY,zZ,Ac,Ad,Ae,Af,Ag,z6,z7,z8,Aa,Ab,uc,dU,dt,dp,ak,if_true,ahV hy,w1,w2,w3,w4,qk]
     rw [bP pre ys y]
     exact ih (pre++[y]) m (10 * a+((y.toNat:Int) - 48)) (fun c hc=>hd c (by simp [hc])) (by simp; omega) (by omega) (by omega) (by
      simp only [a8,aJ,bG]; rw [ahc]; omega)
def iW (s:List UInt8):Int×Bool:=cond (ov s) (qk s 0,true) (0,false)
theorem Im (s:List UInt8) (hs:s.length < 30000):cU 30000 s=some (iW s)∧fM 30000 s=some (iW s):=by
 have hd:=vdg s hs
 have a1:=avD (R:=Int×Bool) (fun n _ _ _=>some (n,true)) s [] 30000 0
 have a2:=avE (R:=Int×Bool) (fun _ n _=>some (n,true)) s [] 30000 0
 unfold cU fM iW ov
 simp only [zB,zC,zJ,zK,zL,zM,zD,zE,zF,zG,zH,zI,tZ,zY,zZ,Ac,Ad,Ae,Af,Ag,z6,z7,z8,Aa,Ab,uc,hd.1,hd.2,ah]
 cases s with
 | nil=>exact ⟨rfl,rfl⟩
 | cons c t=>
   have h0:((c::t)==([]:List UInt8))=false:=rfl
   have hz:0≤(0:Int)∧(0:Int) < ((c::t).length:Int):=by simp only [aJ]; omega
   have hc:(((c::t).getD (0:Int).toNat 0).toNat:Int)=(c.toNat:Int):=rfl
   have hh:((c::t).headD 0).toNat=c.toNat:=rfl
   simp only [h0,aj,cE,iX,if_pos hz,hc,hh]
   by_cases h1:(c::t).length≤6
   ·have d1:decide (((c::t).length:Int) > 6)=false:=decide_eq_false (by omega)
    have d2:decide ((c::t).length≤6)=true:=decide_eq_true h1
    simp only [d1,d2,aj,iX]
    by_cases h2:aS bB (c::t)=(c::t).length
    ·have d3:((aS bB (c::t):Int) != ((c::t).length:Int))=false:=by rw [h2]; simp
     have d4:(aS bB (c::t)==(c::t).length)=true:=by simpa using h2
     simp only [d3,d4,aj,iX]
     have hall:=N4 bB h2
     have a1:=a1 hall (by simpa using h1) (by omega) (by omega) (by decide)
     have a2:=a2 hall (by simpa using h1) (by omega) (by omega) (by decide)
     simp only [eC,bG,oE] at a1 a2
     by_cases h3:1 < (c::t).length
     ·have d5:decide (((c::t).length:Int) > 1)=true:=decide_eq_true (by omega)
      have d6:decide (1 < (c::t).length)=true:=decide_eq_true h3
      by_cases h4:c.toNat=48
      ·have d7:((c.toNat:Int)==48)=true:=by simp [h4]
       have d8:(c.toNat==48)=true:=by simp [h4]
       simp only [d5,d6,d7,d8,ak,aj,iX,cH,cond_false]
       exact ⟨trivial,trivial⟩
      ·have d7:((c.toNat:Int)==48)=false:=by simp only [beq_eq_false_iff_ne,ne_eq]; omega
       have d8:(c.toNat==48)=false:=by simpa using h4
       simp only [d5,d6,d7,d8,ak,aj,Ss,cE,cond_true]
       exact ⟨a1,a2⟩
     ·have d5:decide (((c::t).length:Int) > 1)=false:=decide_eq_false (by omega)
      have d6:decide (1 < (c::t).length)=false:=decide_eq_false h3
      cases h4:((c.toNat:Int)==48) with
      | true=>
        simp only [d5,d6,h4,ak,aj,lG,cE,cond_true]
        exact ⟨a1,a2⟩
      | false=>
        simp only [d5,d6,h4,ak,aj,lG,cE,cond_true]
        exact ⟨a1,a2⟩
    ·have hle:=oT bB (c::t)
     have d3:((aS bB (c::t):Int) != ((c::t).length:Int))=true:=by simp only [bne_iff_ne,ne_eq]; omega
     have d4:(aS bB (c::t)==(c::t).length)=false:=by simpa using h2
     simp only [d3,d4,ak,lG,cond_false]
     exact ⟨trivial,trivial⟩
   ·have d1:decide (((c::t).length:Int) > 6)=true:=decide_eq_true (by omega)
    have d2:decide ((c::t).length≤6)=false:=decide_eq_false h1
    simp only [d1,d2,ak,lG,cond_false]
    exact ⟨trivial,trivial⟩
def nx:List UInt8→Sum Int (Int×(List UInt8×Nat))
 | []=>.inl 2
 | c::t=>
   if fm c then (if 20 < eW (c::t) then .inl 3 else .inr (1,(c::t).take (eW (c::t)),eW (c::t)))
   else if bB c then (if 6 < aS bB (c::t) then .inl 3 else if c.toNat=48∧1 < aS bB (c::t) then .inl 2 else .inr (2,(c::t).take (aS bB (c::t)),aS bB (c::t)))
   else if c.toNat=34 then (if (fe t).1=0 then .inr (3,(fe t).2,(fe t).2.length+2) else .inl (fe t).1)
   else if qv c then .inr (4,[c],1) else .inl 2
def CO (s:List UInt8) (r:Option (Tok×Int×Int)):Prop:=match nx s with
 | .inl e=>e≠0∧∃ t n,r=some (t,n,e)
 | .inr (k,x,n)=>0 < n∧n≤s.length∧r=some ((k,(x,((0:Int),()))),(n:Int),0)
theorem ahh (t:List UInt8):(fe t).1=0→(fe t).2.length+1≤t.length:=by
 intro h
 unfold fe at h ⊢
 have hd:=Ob bO t
 cases hdr:t.drop (aS bO t) with
 | nil=>rw [hdr] at h; simp at h
 | cons d r=>
   obtain ⟨h1,_⟩:=hd.2 d r hdr
   rw [hdr] at h
   simp only at h ⊢
   split at h
   ·simp at h
   ·rename_i h3
    rw [if_neg h3]
    split at h
    ·simp at h
    ·rename_i h4
     rw [if_neg h4,ja]; omega
theorem adJ (p:UInt8→Bool):∀ s:List UInt8,aS p (s.take (aS p s))=aS p s
 | []=>rfl
 | c::s=>by
   by_cases h:p c=true
   ·simp only [aS,h,if_true,List.take_succ_cons,adJ p s]
   ·simp only [aS,h,bA,if_false,List.take_zero,aS]
theorem aia (c:UInt8) (t:List UInt8) (hs:(c::t).length < 30000):CO (c::t) (cq 30000 (c::t))∧CO (c::t) (cV 30000 (c::t)):=by
 have hn:=vnm (c::t) hs
 have hd:=vdg (c::t) hs
 have hnl:=agR (c::t)
 have hdl:=oT bB (c::t)
 obtain ⟨⟨r,hr1,hr2⟩,hsg⟩:=aM4 c
 have hz:0≤(0:Int)∧(0:Int) < ((c::t).length:Int):=by simp only [aJ]; omega
 have hc:(((c::t).getD (0:Int).toNat 0).toNat:Int)=(c.toNat:Int):=rfl
 have hq1:0≤(0:Int)∧(0:Int)≤(1:Int)∧(1:Int)≤((c::t).length:Int):=by simp only [aJ]; omega
 have ht1:((c::t).drop (0:Int).toNat).take ((1:Int).toNat - (0:Int).toNat)=[c]:=rfl
 have htk:∀ n:Nat,((c::t).drop (0:Int).toNat).take (eB (n:Int) - (0:Int).toNat)=(c::t).take n:=fun n=>by rw [jY]; rfl
 have hrg:∀ n:Nat,n≤(c::t).length→(0≤(0:Int)∧(0:Int)≤(n:Int)∧(n:Int)≤((c::t).length:Int))=True:=fun n h=>by simp only [eq_iff_iff,iff_true]; omega
 have hnum:=Im ((c::t).take (aS bB (c::t))) (by rw [ja]; omega)
 unfold cq cV CO
 simp only [PR,PS,PZ,P3,P6,P7,P8,P9,Qa,PT,PU,PW,PV,PX,PY,P0,P1,P2,P4,P5,Hl,Qd,Qu,Qq,Qs,Qt,Qj,Qe,Qf,Qg,Qh,Qi,Qk,Ql,Qm,Qn,Qo,Qp,Hn,Ij,Sj,hn.1,hn.2,hd.1,hd.2,ah,if_pos hz,hc,hr1,hr2,hsg,htk,hrg _ hnl,hrg _ hdl,hnum.1,if_true,if_pos hq1,ht1,nx]
 cases h1:sm (c.toNat:Int) with
 | true=>
   have h1':fm c=true:=h1
   have hp:0 < eW (c::t):=by simp only [eW,h1',if_true]; omega
   have d0:decide ((eW (c::t):Int) > 0)=true:=decide_eq_true (by omega)
   simp only [h1',if_true,ak,d0]
   by_cases h2:20 < eW (c::t)
   ·have d1:decide ((eW (c::t):Int) > 20)=true:=decide_eq_true (by omega)
    simp only [d1,ak,if_pos h2]
    exact ⟨⟨by decide,_,_,rfl⟩,by decide,_,_,rfl⟩
   ·have d1:decide ((eW (c::t):Int) > 20)=false:=decide_eq_false (by omega)
    simp only [d1,aj,if_neg h2]
    exact ⟨⟨hp,hnl,by first | rfl | trivial⟩,hp,hnl,by first | rfl | trivial⟩
 | false=>
   have h1':fm c=false:=h1
   have hp:eW (c::t)=0:=by simp only [eW,h1',bA,if_false]
   have d0:decide ((eW (c::t):Int) > 0)=false:=decide_eq_false (by omega)
   simp only [h1',bA,if_false,aj,d0]
   cases h2:dg (c.toNat:Int) with
   | true=>
     have h2':bB c=true:=h2
     have hp2:0 < aS bB (c::t):=by simp only [aS,h2',if_true]; omega
     have d2:decide ((aS bB (c::t):Int) > 0)=true:=decide_eq_true (by omega)
     simp only [h2',if_true,ak,d2]
     by_cases h3:6 < aS bB (c::t)
     ·have d1:decide ((aS bB (c::t):Int) > 6)=true:=decide_eq_true (by omega)
      simp only [d1,ak,if_pos h3]
      exact ⟨⟨by decide,_,_,rfl⟩,by decide,_,_,rfl⟩
     ·have d1:decide ((aS bB (c::t):Int) > 6)=false:=decide_eq_false (by omega)
      have hlen:((c::t).take (aS bB (c::t))).length=aS bB (c::t):=by rw [ja]; omega
      have hne:((c::t).take (aS bB (c::t))==([]:List UInt8))=false:=by
       simp only [beq_eq_false_iff_ne,ne_eq]; intro h; rw [h] at hlen; simp at hlen; omega
      have hhd:((c::t).take (aS bB (c::t))).headD 0=c:=by
       obtain ⟨k,hk⟩:∃ k,aS bB (c::t)=k+1:=⟨aS bB (c::t) - 1,by omega⟩
       rw [hk]; rfl
      have hok:(iW ((c::t).take (aS bB (c::t)))).2=!(decide (1 < aS bB (c::t))&&(c.toNat==48)):=by
       unfold iW ov
       rw [hne,hlen,adJ,hhd]
       have d3:decide (aS bB (c::t)≤6)=true:=decide_eq_true (by omega)
       have d4:(aS bB (c::t)==aS bB (c::t))=true:=by simp
       rw [d3,d4]
       cases h:(decide (1 < aS bB (c::t))&&(c.toNat==48))<;>rfl
      simp only [d1,aj,if_neg h3,hok,Bool.not_not]
      by_cases h4:c.toNat=48∧1 < aS bB (c::t)
      ·have d5:(decide (1 < aS bB (c::t))&&(c.toNat==48))=true:=by simp [h4.1,h4.2]
       have d6:((c.toNat:Int)==48)=true:=by simp [h4.1]
       have d7:decide ((aS bB (c::t):Int) > 1)=true:=decide_eq_true (by omega)
       simp only [d5,d6,d7,ak,if_pos h4]
       exact ⟨⟨by decide,_,_,rfl⟩,by decide,_,_,rfl⟩
      ·have d5:(decide (1 < aS bB (c::t))&&(c.toNat==48))=false:=by
        cases h5:decide (1 < aS bB (c::t)) with
        | false=>rfl
        | true=>
          have h5:=of_decide_eq_true h5
          simp only [iX,beq_eq_false_iff_ne,ne_eq]
          exact fun h6=>h4 ⟨h6,h5⟩
       simp only [d5,aj,if_neg h4]
       refine ⟨⟨hp2,hdl,by first | rfl | trivial⟩,hp2,hdl,?_⟩
       by_cases h6:c.toNat=48
       ·have d6:((c.toNat:Int)==48)=true:=by simp [h6]
        have d7:decide ((aS bB (c::t):Int) > 1)=false:=decide_eq_false (by have:=fun h=>h4 ⟨h6,h⟩; omega)
        simp only [d6,d7,ak,aj]
       ·have d6:((c.toNat:Int)==48)=false:=by simp only [beq_eq_false_iff_ne,ne_eq]; omega
        simp only [d6,aj]
   | false=>
     have h2':bB c=false:=h2
     have hp2:aS bB (c::t)=0:=by simp only [aS,h2',bA,if_false]
     have d2:decide ((aS bB (c::t):Int) > 0)=false:=decide_eq_false (by omega)
     simp only [h2',bA,if_false,aj,d2]
     by_cases h3:c.toNat=34
     ·have d3:((c.toNat:Int)==34)=true:=by simp [h3]
      simp only [d3,ak,if_pos h3,aM2 c t hs,aMZ c t hs,ah]
      have hql:=ahh t
      have he:(fe t).1=0∨(fe t).1=2∨(fe t).1=3:=by
       unfold fe
       split
       ·split
        ·exact .inr (.inl rfl)
        ·split
         ·exact .inr (.inr rfl)
         ·exact .inl rfl
       ·exact .inr (.inl rfl)
      by_cases h4:(fe t).1=0
      ·have hl:=hql h4
       have w:IntKind.i64.wrap (((fe t).2.length:Int)+2)=(((fe t).2.length+2:Nat):Int):=by
        rw [dA (by simp at hs; omega)]; omega
       simp only [if_pos h4]
       exact ⟨⟨by omega,by simp only [aJ]; omega,by rw [w,h4]⟩,by omega,by simp only [aJ]; omega,by first | rfl | trivial⟩
      ·simp only [if_neg h4]
       have:(fe t).1≠0:=h4
       exact ⟨⟨this,_,_,rfl⟩,this,_,_,rfl⟩
     ·have d3:((c.toNat:Int)==34)=false:=by simp only [beq_eq_false_iff_ne,ne_eq]; omega
      simp only [d3,aj,if_neg h3]
      cases h4:qv c with
      | true=>
        simp only [ak,if_true]
        exact ⟨⟨by omega,by simp,rfl⟩,by omega,by simp,rfl⟩
      | false=>
        simp only [aj,bA,if_false]
        exact ⟨⟨by decide,_,_,rfl⟩,by decide,_,_,rfl⟩
def dV:List UInt8→List UInt8
 | []=> []
 | c::s=>if c.toNat=10 then c::s else dV s
theorem qz:∀ s,(dV s).length≤s.length
 | []=>b5 _
 | c::s=>by
   simp only [dV]
   split
   ·exact b5 _
   ·have:=qz s; simp only [aJ]; omega
def eG (c:UInt8):Bool:=(c.toNat==32) || ((c.toNat==9) || (c.toNat==13))
def dz:Nat→Int→List UInt8→Sum (Int×Int) (List Tok)
 | _,_,[]=>.inr []
 | 0,_,_::_=>.inr []
 | f+1,l,c::s=>
   if c.toNat=10 then dz f (l+1) s
   else if eG c then dz f l s
   else if c.toNat=35 then dz f l (dV s)
   else match nx (c::s) with
    | .inl e=>.inl (l,e)
    | .inr (k,x,n)=>match dz f l ((c::s).drop n) with
      | .inl q=>.inl q
      | .inr ts=>.inr ((k,(x,(l,())))::ts)
theorem agW {s:List UInt8} {k:Int} {x:List UInt8} {n:Nat} (h:nx s=.inr (k,x,n)):0 < n:=by
 unfold nx at h
 split at h
 ·cases h
 ·rename_i c t
  split at h
  ·rename_i h1
   split at h
   ·cases h
   ·cases h; simp only [eW,h1,if_true]; omega
  ·split at h
   ·rename_i h1
    split at h
    ·cases h
    ·split at h
     ·cases h
     ·cases h; simp only [aS,h1,if_true]; omega
   ·split at h
    ·split at h
     ·cases h; omega
     ·cases h
    ·split at h
     ·cases h; omega
     ·cases h
theorem sV:∀ (f g:Nat) (l:Int) (s:List UInt8),s.length≤f→s.length≤g→dz f l s=dz g l s
 | 0,g,l,[],_,_=>by cases g<;>rfl
 | 0,_,_,_::_,h,_=>by simp at h
 | f+1,0,l,[],_,_=>rfl
 | f+1,g+1,l,[],_,_=>rfl
 | _+1,0,_,_::_,_,h=>by simp at h
 | f+1,g+1,l,c::s,h1,h2=>by
   simp only [aJ] at h1 h2
   simp only [dz]
   rw [sV f g (l+1) s (by omega) (by omega),sV f g l s (by omega) (by omega),sV f g l (dV s) (by have:=qz s; omega) (by have:=qz s; omega)]
   split
   ·rfl
   ·split
    ·rfl
    ·split
     ·rfl
     ·split
      ·rfl
      ·rename_i k x n hn
       have hp:=agW hn
       have hl:((c::s).drop n).length≤s.length:=by rw [nz,aJ]; omega
       rw [sV f g l ((c::s).drop n) (by omega) (by omega)]
theorem Ih:∀ s:List UInt8,∃ q,s=q++dV s∧q.countP (fun c=>c.toNat==10)=0
 | []=>⟨[],rfl,rfl⟩
 | c::s=>by
   by_cases h:c.toNat=10
   ·exact ⟨[],by simp only [dV,if_pos h,eC],rfl⟩
   ·obtain ⟨q,h1,h2⟩:=Ih s
    refine ⟨c::q,?_,?_⟩
    ·simp only [dV,if_neg h,dQ]
     rw [←h1]
    ·rw [s4,h2]; simp [h]
theorem avT {R:Type} (k0:List UInt8→List Tok→Int→Int→Option R) (out:List Tok) (l:Int):
  ∀ (ys pre:List UInt8) (m:Nat),ys.length < m→(pre++ys).length≤1000000→
    uC k0 m (pre++ys) out l (pre.length:Int)=k0 (pre++ys) out l ((pre.length+(ys.length - (dV ys).length):Nat):Int):=by
 intro ys
 induction ys with
 | nil=>
   intro pre m hm hb
   cases m with
   | zero=>simp at hm
   | succ m=>
     unfold uC
     simp only [pb,pc,pk,pF,pH,pJ,pL,pd,pe,pf,pg,ph,pj,pn,po,pq,pt,pv,pw,px,pz,pA,pB,pC,pD,pE,pG,g18,ep,aj]
     simp
 | cons y ys ih=>
   intro pre m hm hb
   cases m with
   | zero=>simp at hm
   | succ m=>
     have hb':(pre++y::ys).length≤bF:=by unfold bF; omega
     unfold uC
     simp only [pb,pc,pk,pF,pH,pJ,pL,pd,pe,pf,pg,ph,pj,pn,po,pq,pt,pv,pw,px,pz,pA,pB,pC,pD,pE,pG,g18,dU,dt,dp,if_true,ak,eS pre ys y hb',dV]
     by_cases h:y.toNat=10
     ·have d:((y.toNat:Int) != 10)=false:=by simp [h]
      simp only [d,aj,if_pos h,IS,ff]
     ·have d:((y.toNat:Int) != 10)=true:=by simp only [bne_iff_ne,ne_eq]; omega
      simp only [d,ak,if_neg h]
      rw [bP pre ys y,ih (pre++[y]) m (by simpa using hm) (by rw [←bP]; exact hb)]
      have:=qz ys
      congr 2; simp; omega
theorem EX {α:Type} (pre ys:List α):((pre++ys).drop (eB (pre.length:Int))).take (eB ((pre++ys).length:Int) - eB (pre.length:Int))=ys:=by
 rw [jY,jY,vH]
 exact List.take_of_length_le (by simp)
theorem HE {α:Type} (pre ys:List α):(0≤(pre.length:Int)∧(pre.length:Int)≤((pre++ys).length:Int)∧((pre++ys).length:Int)≤((pre++ys).length:Int))=True:=by
 simp only [a8,eq_iff_iff,iff_true]; omega
theorem awI {R:Type} (k0:List Tok→Int→Int→Option R) (kk:List Tok→Option R):
  ∀ (f:Nat) (ys pre:List UInt8) (out:List Tok) (l:Int) (m:Nat),ys.length≤f→ys.length < m→(pre++ys).length < 30000→0≤l→l+ys.length≤1000000000→out.length+ys.length≤1000000000→
    lR 30000 (cq 30000) k0 (fun _ o _ _=>kk o) m (pre++ys) out l (pre.length:Int)=
     match dz f l ys with | .inl (l',e)=>k0 [] l' e | .inr ts=>kk (out++ts):=by
 intro f
 induction f with
 | zero=>
   intro ys pre out l m hf hm hb h0 h1 h2
   have:ys=[]:=l8.1 (by omega)
   subst this
   cases m with
   | zero=>simp at hm
   | succ m=>
     unfold lR
     simp only [pb,pc,pk,pF,pH,pJ,pL,pd,pe,pf,pg,ph,pj,pn,po,pq,pt,pv,pw,px,pz,pA,pB,pC,pD,pE,pG,g18,ep,aj,dz]
     rw [fZ]
 | succ f ih=>
   intro ys pre out l m hf hm hb h0 h1 h2
   cases ys with
   | nil=>
     cases m with
     | zero=>simp at hm
     | succ m=>
       unfold lR
       simp only [pb,pc,pk,pF,pH,pJ,pL,pd,pe,pf,pg,ph,pj,pn,po,pq,pt,pv,pw,px,pz,pA,pB,pC,pD,pE,pG,g18,ep,aj,dz]
       rw [fZ]
   | cons c s=>
     cases m with
     | zero=>simp at hm
     | succ m=>
       simp only [aJ,a8] at hf hm hb h1 h2
       have hbg:(pre++c::s).length≤bF:=by unfold bF; simp; omega
       have w1:IntKind.i64.wrap (l+1)=l+1:=dA (by omega)
       have hgo:∀ (out:List Tok) (l:Int),0≤l→l+s.length≤1000000000→out.length+s.length≤1000000000→
         lR 30000 (cq 30000) k0 (fun _ o _ _=>kk o) m (pre++c::s) out l ((pre++[c]).length:Int)=match dz f l s with | .inl (l',e)=>k0 [] l' e | .inr ts=>kk (out++ts):=by
        intro out l g0 g1 g2
        rw [bP pre s c]
        exact ih s (pre++[c]) out l m (by omega) (by omega) (by simp; omega) g0 g1 g2
       have hsk:=avT (R:=R) (lR 30000 (cq 30000) k0 (fun _ o _ _=>kk o) m) out l (c::s) pre 30000 (by simp; omega) (by simp; omega)
       have hnx:=(aia c s (by simp; omega)).1
       unfold lR
       simp only [pb,pc,pk,pF,pH,pJ,pL,pd,pe,pf,pg,ph,pj,pn,po,pq,pt,pv,pw,px,pz,pA,pB,pC,pD,pE,pG,g18,dU,dt,dp,if_true,ak,w1,eS pre s c hbg,HE,EX,dz]
       by_cases c1:c.toNat=10
       ·have d1:((c.toNat:Int)==10)=true:=by simp [c1]
        simp only [d1,ak,if_pos c1]
        exact hgo out (l+1) (by omega) (by omega) (by omega)
       ·have d1:((c.toNat:Int)==10)=false:=by simp only [beq_eq_false_iff_ne,ne_eq]; omega
        simp only [d1,aj,if_neg c1]
        have go2:=hgo out l h0 (by omega) (by omega)
        by_cases c2:c.toNat=32
        ·have d2:((c.toNat:Int)==32)=true:=by simp [c2]
         have hw:eG c=true:=by unfold eG; simp [c2]
         simp only [d2,ak,hw,if_true]
         exact go2
        ·have d2:((c.toNat:Int)==32)=false:=by simp only [beq_eq_false_iff_ne,ne_eq]; omega
         simp only [d2,aj]
         by_cases c3:c.toNat=9
         ·have d3:((c.toNat:Int)==9)=true:=by simp [c3]
          have hw:eG c=true:=by unfold eG; simp [c3]
          simp only [d3,ak,hw,if_true]
          exact go2
         ·have d3:((c.toNat:Int)==9)=false:=by simp only [beq_eq_false_iff_ne,ne_eq]; omega
          simp only [d3,aj]
          by_cases c4:c.toNat=13
          ·have d4:((c.toNat:Int)==13)=true:=by simp [c4]
           have hw:eG c=true:=by unfold eG; simp [c4]
           simp only [d4,ak,hw,if_true]
           exact go2
          ·have d4:((c.toNat:Int)==13)=false:=by simp only [beq_eq_false_iff_ne,ne_eq]; omega
           have hw:eG c=false:=by unfold eG; simp [c2,c3,c4]
           simp only [d4,aj,hw,bA,if_false]
           by_cases c5:c.toNat=35
           ·have d5:((c.toNat:Int)==35)=true:=by simp [c5]
            simp only [d5,ak,if_pos c5]
            obtain ⟨q,hq,_⟩:=Ih s
            have hu:dV (c::s)=dV s:=by simp only [dV,if_neg c1]
            have hlq:s.length=q.length+(dV s).length:=by
             have:=congrArg lJ hq
             rw [a8] at this; exact this
            have hpre:pre++c::s=(pre++c::q)++dV s:=by
             rw [bX,dQ,←hq]
            rw [hu] at hsk
            have hix:((pre.length+((c::s).length - (dV s).length):Nat):Int)=((pre++c::q).length:Int):=by
             simp only [aJ,a8]; omega
            rw [hix] at hsk
            have:=ih (dV s) (pre++c::q) out l m (by omega) (by omega) (by simp; omega) h0 (by omega) (by omega)
            rw [←hpre] at this
            have e:(fun (y0:List UInt8) (y1:List Tok) (y2 y3:Int)=>lR 30000 (cq 30000) k0 (fun _ o _ _=>kk o) m y0 y1 y2 y3)=lR 30000 (cq 30000) k0 (fun _ o _ _=>kk o) m:=rfl
            exact hsk.trans this
           ·have d5:((c.toNat:Int)==35)=false:=by simp only [beq_eq_false_iff_ne,ne_eq]; omega
            simp only [d5,aj,if_neg c5]
            unfold CO at hnx
            cases hx:nx (c::s) with
            | inl e=>
              rw [hx] at hnx
              obtain ⟨he,t,n,hr⟩:=hnx
              have d6:(e != 0)=true:=by simpa using he
              simp only [hr,ah,d6,ak]
            | inr q=>
              obtain ⟨k,x,n⟩:=q
              rw [hx] at hnx
              obtain ⟨hp,hle,hr⟩:=hnx
              have d6:((0:Int) != 0)=false:=rfl
              simp only [aJ] at hle
              have w2:IntKind.i64.wrap ((pre.length:Int)+(n:Int))=((pre++(c::s).take n).length:Int):=by
               rw [dA (by omega),a8,ja,aJ]; omega
              have hl:out.length+[(k,(x,(l,())))].length≤4398046511104:=by simp; omega
              simp only [hr,ah,d6,aj,if_pos hl,w2]
              have hpre:pre++c::s=(pre++(c::s).take n)++(c::s).drop n:=by rw [bX,qG]
              have hdl:((c::s).drop n).length=s.length+1 - n:=by rw [nz,aJ]
              have:=ih ((c::s).drop n) (pre++(c::s).take n) (out++[(k,(x,(l,())))]) l m (by omega) (by omega) (by rw [←hpre]; simp; omega) h0 (by omega) (by simp only [a8,aJ,bG]; omega)
              rw [←hpre] at this
              refine this.trans ?_
              cases dz f l ((c::s).drop n) with
              | inl q=>rfl
              | inr ts=>simp
def gQ (s:List UInt8):Nat:=s.countP fun c=>c.toNat==10
theorem avk {R:Type} (k0:List UInt8→Int→Int→Option R):
  ∀ (ys pre:List UInt8) (m:Nat) (a:Nat),ys.length < m→(pre++ys).length≤1000000→a+ys.length≤1000000→
    sH k0 m (pre++ys) (a:Int) (pre.length:Int)=k0 (pre++ys) ((a+gQ ys:Nat):Int) ((pre++ys).length:Int):=by
 intro ys
 induction ys with
 | nil=>
   intro pre m a hm hb ha
   cases m with
   | zero=>simp at hm
   | succ m=>
     unfold sH
     simp only [zQ,zS,zT,zU,zV,zW,zX,zN,zO,zP,zR,ua,ep,aj]
     simp [gQ]
 | cons y ys ih=>
   intro pre m a hm hb ha
   cases m with
   | zero=>simp at hm
   | succ m=>
     have hb':(pre++y::ys).length≤bF:=by unfold bF; omega
     simp only [aJ] at ha
     have key:∀ a:Nat,a+ys.length≤1000000→sH k0 m (pre++y::ys) (a:Int) ((pre++[y]).length:Int)=k0 (pre++y::ys) ((a+gQ ys:Nat):Int) ((pre++y::ys).length:Int):=by
      intro a ha
      rw [bP pre ys y]
      exact ih (pre++[y]) m a (by simpa using hm) (by rw [←bP]; exact hb) ha
     unfold sH
     simp only [zQ,zS,zT,zU,zV,zW,zX,zN,zO,zP,zR,ua,dU,dt,dp,if_true,ak,eS pre ys y hb',aid a (by unfold bF; omega)]
     by_cases h:y.toNat=10
     ·have d:((y.toNat:Int)==10)=true:=by simp [h]
      simp only [d,ak]
      rw [key (a+1) (by omega)]
      have:gQ (y::ys)=gQ ys+1:=by unfold gQ; rw [s4]; simp [h]
      rw [this]; congr 2; omega
     ·have d:((y.toNat:Int)==10)=false:=by simp only [beq_eq_false_iff_ne,ne_eq]; omega
      simp only [d,aj]
      rw [key a (by omega)]
      have:gQ (y::ys)=gQ ys:=by unfold gQ; rw [s4]; simp [h]
      rw [this]
theorem v48 (s:List UInt8) (hs:s.length < 30000):cJ 30000 s=some (gQ s:Int):=by
 have:=avk (R:=Int) (fun _ n _=>some n) s [] 30000 0 hs (by simp; omega) (by omega)
 unfold cJ
 simp only [zQ,zS,zT,zU,zV,zW,zX,zN,zO,zP,zR,ua]
 simpa using this
def fX:Nat→List UInt8→Nat×List UInt8
 | _,[]=>(0,[])
 | 0,c::s=>(0,c::s)
 | f+1,c::s=>if c.toNat=10 then ((fX f s).1+1,(fX f s).2) else if eG c then fX f s else if c.toNat=35 then fX f (dV s) else (0,c::s)
theorem vr:∀ (f:Nat) (s:List UInt8),∃ q,s=q++(fX f s).2∧gQ q=(fX f s).1
 | 0,[]=>⟨[],rfl,rfl⟩
 | _+1,[]=>⟨[],rfl,rfl⟩
 | 0,c::s=>⟨[],rfl,rfl⟩
 | f+1,c::s=>by
   simp only [fX]
   split
   ·rename_i h
    obtain ⟨q,h1,h2⟩:=vr f s
    refine ⟨c::q,by simp only [dQ]; rw [←h1],?_⟩
    have:gQ (c::q)=gQ q+1:=by unfold gQ; rw [s4]; simp [h]
    rw [this,h2]
   ·rename_i h
    have hc:∀ q,gQ (c::q)=gQ q:=fun q=>by unfold gQ; rw [s4]; simp [h]
    split
    ·obtain ⟨q,h1,h2⟩:=vr f s
     exact ⟨c::q,by simp only [dQ]; rw [←h1],by rw [hc,h2]⟩
    ·split
     ·obtain ⟨q1,g1,g2⟩:=Ih s
      obtain ⟨q,h1,h2⟩:=vr f (dV s)
      refine ⟨c::(q1++q),?_,?_⟩
      ·simp only [dQ,bX]; rw [←h1,←g1]
      ·rw [hc]; unfold gQ; rw [List.countP_append,g2]; rw [Nat.zero_add]; exact h2
     ·exact ⟨[],rfl,rfl⟩
theorem H8:∀ (f:Nat) (s:List UInt8),s.length≤f→∀ c t,(fX f s).2=c::t→c.toNat≠10∧eG c=false∧c.toNat≠35
 | _,[],_,c,t,h=>by simp [fX] at h
 | 0,_::_,hl,_,_,_=>by simp at hl
 | f+1,d::s,hl,c,t,h=>by
   simp only [aJ] at hl
   simp only [fX] at h
   split at h
   ·exact H8 f s (by omega) c t h
   ·split at h
    ·exact H8 f s (by omega) c t h
    ·split at h
     ·exact H8 f (dV s) (by have:=qz s; omega) c t h
     ·rename_i h1 h2 h3
      cases h
      exact ⟨h1,by simpa using h2,h3⟩
theorem Ig:∀ (g f:Nat) (l:Int) (s:List UInt8),s.length≤g→s.length≤f→dz f l s=dz f (l+(fX g s).1) (fX g s).2
 | _,f,l,[],_,_=>by simp only [fX]; cases f<;>rfl
 | 0,_,_,_::_,h,_=>by simp at h
 | _,0,_,_::_,_,h=>by simp at h
 | g+1,f+1,l,c::s,h1,h2=>by
   simp only [aJ] at h1 h2
   have hu:=qz s
   simp only [fX]
   have up:∀ (l:Int) (t:List UInt8),t.length≤f→dz f l t=dz (f+1) l t:=fun l t h=>sV f (f+1) l t h (by omega)
   have sl:∀ (t:List UInt8),(fX g t).2.length≤t.length:=fun t=>by
    obtain ⟨q,e,_⟩:=vr g t
    have:=congrArg lJ e
    rw [a8] at this; omega
   by_cases c1:c.toNat=10
   ·rw [if_pos c1]
    simp only [dz,if_pos c1]
    rw [Ig g f (l+1) s (by omega) (by omega),up _ _ (by have:=sl s; omega)]
    congr 1
    simp only [Int.natCast_add]; omega
   ·rw [if_neg c1]
    by_cases c2:eG c=true
    ·rw [if_pos c2]
     simp only [dz,if_neg c1,if_pos c2]
     rw [Ig g f l s (by omega) (by omega),up _ _ (by have:=sl s; omega)]
    ·rw [if_neg c2]
     by_cases c3:c.toNat=35
     ·rw [if_pos c3]
      simp only [dz,if_neg c1,if_neg c2,if_pos c3]
      rw [Ig g f l (dV s) (by omega) (by omega),up _ _ (by have:=sl (dV s); omega)]
     ·rw [if_neg c3]; simp
theorem avU {R:Type} (k0:List UInt8→Int→Option R):
  ∀ (ys pre:List UInt8) (m:Nat),ys.length < m→(pre++ys).length≤1000000→
    uL k0 m (pre++ys) (pre.length:Int)=k0 (pre++ys) ((pre.length+(ys.length - (dV ys).length):Nat):Int):=by
 intro ys
 induction ys with
 | nil=>
   intro pre m hm hb
   cases m with
   | zero=>simp at hm
   | succ m=>
     unfold uL
     simp only [p5,pT,p7,p8,p9,qa,qb,pN,pO,pP,pQ,pR,pS,pU,pV,pX,pY,pZ,p6,nV,ep,aj]
     simp
 | cons y ys ih=>
   intro pre m hm hb
   cases m with
   | zero=>simp at hm
   | succ m=>
     have hb':(pre++y::ys).length≤bF:=by unfold bF; omega
     unfold uL
     simp only [p5,pT,p7,p8,p9,qa,qb,pN,pO,pP,pQ,pR,pS,pU,pV,pX,pY,pZ,p6,nV,dU,dt,dp,if_true,ak,eS pre ys y hb',dV]
     by_cases h:y.toNat=10
     ·have d:((y.toNat:Int) != 10)=false:=by simp [h]
      simp only [d,aj,if_pos h,IS,ff]
     ·have d:((y.toNat:Int) != 10)=true:=by simp only [bne_iff_ne,ne_eq]; omega
      simp only [d,ak,if_neg h]
      rw [bP pre ys y,ih (pre++[y]) m (by simpa using hm) (by rw [←bP]; exact hb)]
      have:=qz ys
      congr 2; simp; omega
theorem avV {R:Type} (kk:Int→Option R):
  ∀ (f:Nat) (ys pre:List UInt8) (m:Nat),ys.length≤f→ys.length < m→(pre++ys).length < 30000→
    oj 30000 kk (fun _ i=>kk i) m (pre++ys) (pre.length:Int)=kk ((pre.length+(ys.length - (fX f ys).2.length):Nat):Int):=by
 intro f
 induction f with
 | zero=>
   intro ys pre m hf hm hb
   have:ys=[]:=l8.1 (by omega)
   subst this
   cases m with
   | zero=>simp at hm
   | succ m=>
     unfold oj
     simp only [p5,pT,p7,p8,p9,qa,qb,pN,pO,pP,pQ,pR,pS,pU,pV,pX,pY,pZ,p6,nV,ep,aj]
     simp
 | succ f ih=>
   intro ys pre m hf hm hb
   cases ys with
   | nil=>
     cases m with
     | zero=>simp at hm
     | succ m=>
       unfold oj
       simp only [p5,pT,p7,p8,p9,qa,qb,pN,pO,pP,pQ,pR,pS,pU,pV,pX,pY,pZ,p6,nV,ep,aj]
       simp
   | cons c s=>
     cases m with
     | zero=>simp at hm
     | succ m=>
       simp only [aJ,a8] at hf hm hb
       have hbg:(pre++c::s).length≤bF:=by unfold bF; simp; omega
       have sl:∀ (t:List UInt8),(fX f t).2.length≤t.length:=fun t=>by
        obtain ⟨q,e,_⟩:=vr f t
        have:=congrArg lJ e
        rw [a8] at this; omega
       have hgo:oj 30000 kk (fun _ i=>kk i) m (pre++c::s) ((pre++[c]).length:Int)=kk ((pre.length+(s.length+1 - (fX f s).2.length):Nat):Int):=by
        rw [bP pre s c,ih s (pre++[c]) m (by omega) (by omega) (by simp; omega)]
        have:=sl s
        congr 2; simp; omega
       have hsk:=avU (R:=R) (oj 30000 kk (fun _ i=>kk i) m) (c::s) pre 30000 (by simp; omega) (by simp; omega)
       unfold oj
       simp only [p5,pT,p7,p8,p9,qa,qb,pN,pO,pP,pQ,pR,pS,pU,pV,pX,pY,pZ,p6,nV,dU,dt,dp,if_true,ak,eS pre s c hbg,fX,aJ]
       by_cases c2:c.toNat=32
       ·have d2:((c.toNat:Int)==32)=true:=by simp [c2]
        have hw:eG c=true:=by unfold eG; simp [c2]
        have c1:¬ c.toNat=10:=by omega
        simp only [d2,ak,hw,if_true,if_neg c1]
        exact hgo
       ·have d2:((c.toNat:Int)==32)=false:=by simp only [beq_eq_false_iff_ne,ne_eq]; omega
        simp only [d2,aj]
        by_cases c3:c.toNat=9
        ·have d3:((c.toNat:Int)==9)=true:=by simp [c3]
         have hw:eG c=true:=by unfold eG; simp [c3]
         have c1:¬ c.toNat=10:=by omega
         simp only [d3,ak,hw,if_true,if_neg c1]
         exact hgo
        ·have d3:((c.toNat:Int)==9)=false:=by simp only [beq_eq_false_iff_ne,ne_eq]; omega
         simp only [d3,aj]
         by_cases c1:c.toNat=10
         ·have d1:((c.toNat:Int)==10)=true:=by simp [c1]
          simp only [d1,ak,if_pos c1]
          exact hgo
         ·have d1:((c.toNat:Int)==10)=false:=by simp only [beq_eq_false_iff_ne,ne_eq]; omega
          simp only [d1,aj,if_neg c1]
          by_cases c4:c.toNat=13
          ·have d4:((c.toNat:Int)==13)=true:=by simp [c4]
           have hw:eG c=true:=by unfold eG; simp [c4]
           simp only [d4,ak,hw,if_true]
           exact hgo
          ·have d4:((c.toNat:Int)==13)=false:=by simp only [beq_eq_false_iff_ne,ne_eq]; omega
           have hw:eG c=false:=by unfold eG; simp [c2,c3,c4]
           simp only [d4,aj,hw,bA,if_false]
           by_cases c5:c.toNat=35
           ·have d5:((c.toNat:Int)==35)=true:=by simp [c5]
            simp only [d5,ak,if_pos c5]
            obtain ⟨q,hq,_⟩:=Ih s
            have hu:dV (c::s)=dV s:=by simp only [dV,if_neg c1]
            have hlq:s.length=q.length+(dV s).length:=by
             have:=congrArg lJ hq
             rw [a8] at this; exact this
            have hpre:pre++c::s=(pre++c::q)++dV s:=by
             rw [bX,dQ,←hq]
            rw [hu] at hsk
            have hix:((pre.length+((c::s).length - (dV s).length):Nat):Int)=((pre++c::q).length:Int):=by
             simp only [aJ,a8]; omega
            rw [hix] at hsk
            have:=ih (dV s) (pre++c::q) m (by omega) (by omega) (by simp; omega)
            rw [←hpre] at this
            refine hsk.trans (this.trans ?_)
            have h3:=sl (dV s)
            congr 2
            simp only [a8,aJ]; omega
           ·have d5:((c.toNat:Int)==35)=false:=by simp only [beq_eq_false_iff_ne,ne_eq]; omega
            simp only [d5,aj,if_neg c5,aJ,IS,ff]
theorem v47 (s:List UInt8) (hs:s.length < 30000):cI 30000 s=some ((s.length - (fX s.length s).2.length:Nat):Int):=by
 have:=avV (R:=Int) some s.length s [] 30000 (b5 _) hs (by simpa using hs)
 unfold cI
 simp only [p5,pT,p7,p8,p9,qa,qb,pN,pO,pP,pQ,pR,pS,pU,pV,pX,pY,pZ,p6,nV]
 simpa using this
theorem awH {R:Type} (k0:Int→Int→List Tok→Option R) (k1:List Tok→Int→Int→Option R):
  ∀ (f:Nat) (ys pre:List UInt8) (out:List Tok) (l:Int) (m:Nat),ys.length≤f→ys.length < m→(pre++ys).length < 30000→0≤l→l+ys.length≤1000000000→out.length+ys.length≤1000000000→
    uE (cI 30000) (cJ 30000) (cV 30000) k0 k1 m (pre++ys) out l (pre.length:Int)=
     match dz f l ys with | .inl (l',e)=>k1 [] l' e | .inr ts=>k0 0 0 (out++ts):=by
 intro f
 induction f with
 | zero=>
   intro ys pre out l m hf hm hb h0 h1 h2
   have:ys=[]:=l8.1 (by omega)
   subst this
   cases m with
   | zero=>simp at hm
   | succ m=>
     have i0:=HE pre ([]:List UInt8)
     have i1:=EX pre ([]:List UInt8)
     have hsp:cI 30000 ([]:List UInt8)=some 0:=v47 [] (by simp)
     have hfe:cJ 30000 ([]:List UInt8)=some 0:=v48 [] (by simp)
     have w0:IntKind.i64.wrap ((pre.length:Int)+0)=(pre.length:Int):=by rw [dA (by simp at hb; omega)]; simp
     have w1:IntKind.i64.wrap (l+0)=l:=by rw [dA (by omega)]; simp
     have i2:(0≤(pre.length:Int)∧(pre.length:Int)≤(pre.length:Int)∧(pre.length:Int)≤((pre++([]:List UInt8)).length:Int))=True:=by simp
     have i3:((pre++([]:List UInt8)).drop (eB (pre.length:Int))).take (eB (pre.length:Int) - eB (pre.length:Int))=[]:=by simp
     have i4:((pre.length:Int)==((pre++([]:List UInt8)).length:Int))=true:=by simp
     unfold uE
     simp only [xV,xW,ya,yf,yc,xX,xY,xZ,x8,x9,yb,yd,ye,yg,g24,i0,if_true,i1,hsp,ah,w0,i2,i3,hfe,w1,i4,ak,dz]
     rw [fZ]
 | succ f ih=>
   intro ys pre out l m hf hm hb h0 h1 h2
   cases m with
   | zero=>simp at hm
   | succ m=>
     have hyl:ys.length < 30000:=by simp at hb; omega
     obtain ⟨q,hq,hn⟩:=vr ys.length ys
     have hhd:=H8 ys.length ys (b5 _)
     have htk:=Ig ys.length (f+1) l ys (b5 _) hf
     have hsp:=v47 ys hyl
     generalize hr:(fX ys.length ys).2=rest at hq hhd htk hsp
     generalize (fX ys.length ys).1=c at hn htk
     have hlen:ys.length=q.length+rest.length:=by
      have:=congrArg lJ hq
      rw [a8] at this; exact this
     have hfe:=v48 q (by omega)
     have hn0:ys.length - rest.length=q.length:=by omega
     rw [hn0] at hsp
     have hcq:c≤q.length:=by rw [←hn]; exact List.countP_le_length
     have w0:IntKind.i64.wrap ((pre.length:Int)+(q.length:Int))=((pre++q).length:Int):=by
      rw [dA (by simp at hb; omega)]; simp
     have w1:IntKind.i64.wrap (l+(c:Int))=l+(c:Int):=dA (by omega)
     have i2:(0≤(pre.length:Int)∧(pre.length:Int)≤((pre++q).length:Int)∧((pre++q).length:Int)≤((pre++ys).length:Int))=True:=by
      simp only [a8,eq_iff_iff,iff_true]; omega
     have i3:((pre++ys).drop (eB (pre.length:Int))).take (eB ((pre++q).length:Int) - eB (pre.length:Int))=q:=by
      rw [jY,jY,vH,a8,Nat.add_sub_cancel_left]
      conv=>lhs; rw [hq]
      exact qH
     rw [hn] at hfe
     unfold uE
     simp only [xV,xW,ya,yf,yc,xX,xY,xZ,x8,x9,yb,yd,ye,yg,g24,HE,if_true,EX,hsp,ah,w0,i2,i3,hfe,w1]
     rw [htk]
     cases rest with
     | nil=>
       have i4:(((pre++q).length:Int)==((pre++ys).length:Int))=true:=by
        simp only [beq_iff_eq,a8]; simp at hlen; omega
       simp only [i4,ak,dz,fZ]
     | cons d t=>
       have i4:(((pre++q).length:Int)==((pre++ys).length:Int))=false:=by
        simp only [beq_eq_false_iff_ne,ne_eq,a8]; simp at hlen; omega
       obtain ⟨c1,c2,c3⟩:=hhd d t rfl
       have hpre:pre++ys=(pre++q)++d::t:=by rw [bX,←hq]
       have hnx:=(aia d t (by simp only [aJ] at hlen ⊢; omega)).2
       have c2':¬ eG d=true:=by rw [c2]; simp
       simp only [i4,aj,dz,if_neg c1,if_neg c2',if_neg c3]
       rw [hpre]
       simp only [HE,if_true,EX]
       unfold CO at hnx
       cases hx:nx (d::t) with
       | inl e=>
         rw [hx] at hnx
         obtain ⟨he,t',n,hr'⟩:=hnx
         have d6:(e != 0)=true:=by simpa using he
         simp only [hr',ah,d6,ak]
       | inr qq=>
         obtain ⟨k,x,n⟩:=qq
         rw [hx] at hnx
         obtain ⟨hp,hle,hr'⟩:=hnx
         have d6:((0:Int) != 0)=false:=rfl
         simp only [aJ] at hle hlen
         have hb2:pre.length+ys.length < 30000:=by simpa using hb
         have w2:IntKind.i64.wrap (((pre++q).length:Int)+(n:Int))=(((pre++q)++(d::t).take n).length:Int):=by
          rw [dA (by simp; omega),a8 (as:=pre++q),ja,aJ]; omega
         have hl:out.length+[(k,(x,(l+(c:Int),())))].length≤4398046511104:=by simp; omega
         simp only [hr',ah,d6,aj,if_pos hl,w2]
         have hpre2:(pre++q)++d::t=((pre++q)++(d::t).take n)++(d::t).drop n:=by rw [bX (pre++q),qG]
         have hdl:((d::t).drop n).length=t.length+1 - n:=by rw [nz,aJ]
         have:=ih ((d::t).drop n) ((pre++q)++(d::t).take n) (out++[(k,(x,(l+(c:Int),())))]) (l+(c:Int)) m (by omega) (by omega) (by rw [←hpre2]; simp; omega) (by omega) (by omega) (by simp only [a8,aJ,bG]; omega)
         rw [←hpre2] at this
         refine this.trans ?_
         cases dz f (l+(c:Int)) ((d::t).drop n) with
         | inl q=>rfl
         | inr ts=>simp
def tk (s:List UInt8):List Tok×(Int×Int):=match dz s.length 1 s with
 | .inl (l,e)=>([],l,e)
 | .inr ts=>(ts,0,0)
theorem ah3 (s:List UInt8) (hs:s.length < 30000) (h2:s.length≤20000):fJ 30000 s=some (tk s)∧fK 30000 s=some (tk s):=by
 have d:decide ((s.length:Int) > 20000)=false:=decide_eq_false (by omega)
 have a1:=awI (R:=List Tok×Int×Int) (fun a b c=>some (a,b,c)) (fun o=>some (o,0,0)) s.length s [] [] 1 30000 (b5 _) hs (by simpa using hs) (by omega) (by omega) (by simp; omega)
 have a2:=awH (R:=List Tok×Int×Int) (fun b c a=>some (a,b,c)) (fun a b c=>some (a,b,c)) s.length s [] [] 1 30000 (b5 _) hs (by simpa using hs) (by omega) (by omega) (by simp; omega)
 unfold fJ fK
 simp only [pb,pc,pk,pF,pH,pJ,pL,pd,pe,pf,pg,ph,pj,pn,po,pq,pt,pv,pw,px,pz,pA,pB,pC,pD,pE,pG,g18,xV,xW,ya,yf,yc,xX,xY,xZ,x8,x9,yb,yd,ye,yg,g24,d,aj]
 simp only [eC,bG,oE] at a1 a2
 unfold tk
 refine ⟨a1.trans ?_,a2.trans ?_⟩<;>cases dz s.length 1 s<;>rfl
abbrev jZ:Type:=List Tok×(Int×(Bool×Unit))
def bx (ts:List Tok) (k:Int) (s:List UInt8):Bool:=match ts with
 | []=>false
 | t::_=>(t.1==k)&&((s==[]) || (t.2.1==s))
def dN (ts:List Tok):Tok:=ts.headD ((0:Int),([],((0:Int),())))
def pos (L ts:List Tok):Int:=((L.length - ts.length:Nat):Int)
theorem ef {L ts:List Tok} (h:ts <:+L):ts.tail <:+L:=(List.tail_suffix ts).trans h
theorem jS {L ts:List Tok} (h:ts <:+L):ts.length≤L.length:=h.length_le
theorem vh {L ts:List Tok} (h:ts <:+L):decide (pos L ts < (L.length:Int))=!ts.isEmpty:=by
 have:=jS h
 unfold pos
 cases ts with
 | nil=>simp
 | cons t r=>simp only [aJ] at *; simp; omega
theorem sP {L r:List Tok} {t:Tok} (h:(t::r) <:+L):(0≤pos L (t::r)∧pos L (t::r) < (L.length:Int))=True:=by
 have:=jS h
 unfold pos
 simp only [aJ] at *
 simp only [eq_iff_iff,iff_true]; omega
theorem qM {L r:List Tok} {t:Tok} (h:(t::r) <:+L) (d:Tok):L.getD (eB (pos L (t::r))) d=t:=by
 obtain ⟨p,rfl⟩:=h
 unfold pos
 rw [jY,a8,Nat.add_sub_cancel]
 simp
theorem sQ {L r:List Tok} {t:Tok} (h:(t::r) <:+L) (hL:L.length≤1000000):IntKind.i64.wrap (pos L (t::r)+1)=pos L r:=by
 have:=jS h
 unfold pos
 simp only [aJ] at *
 rw [dA (by omega)]; omega
theorem aym {L r:List Tok} {t:Tok} (h:(t::r) <:+L) (hL:L.length≤1000000):IntKind.i64.wrap (pos L r - 1)=pos L (t::r):=by
 have:=jS h
 unfold pos
 simp only [aJ] at *
 rw [dA (by omega)]; omega
theorem jy {L ts:List Tok} (h:ts <:+L) (b:Bool) (k:Int) (s:List UInt8):aL 30000 (L,(pos L ts,(b,()))) k s=some (bx ts k s):=by
 unfold aL
 simp only [Pl,Pm,g20,vh h]
 cases ts with
 | nil=>rfl
 | cons t r=>
   simp only [vJ,cE,ak,sP h,if_true,qM h,bx]
   cases (t.1==k) with
   | false=>simp only [aj,lG]
   | true=>
     simp only [ak,iX]
     cases (s==([]:List UInt8)) with
     | true=>simp only [ak,s0]
     | false=>simp only [aj,vD]
theorem lu {ts:List Tok} {k:Int} {s:List UInt8} (h:bx ts k s=true):∃ t r,ts=t::r:=by
 cases ts with
 | nil=>simp [bx] at h
 | cons t r=>exact ⟨t,r,rfl⟩
theorem oA {L ts:List Tok} (h:ts <:+L) (hL:L.length≤1000000) {k:Int} {s:List UInt8} (hi:bx ts k s=true):
  bn 30000 (L,(pos L ts,(false,()))) k s=some ((L,(pos L ts.tail,(false,()))),(dN ts).2.1):=by
 obtain ⟨t,r,rfl⟩:=lu hi
 unfold bn
 simp only [xG,xH,xI,xJ,xK,g19,jy h,hi,ah,aj,cH,sQ h hL,aym h hL,sP h,if_true,qM h]
 rfl
theorem qp {L ts:List Tok} (h:ts <:+L) {k:Int} {s:List UInt8} (hi:bx ts k s=false):
  bn 30000 (L,(pos L ts,(false,()))) k s=some ((L,(pos L ts,(true,()))),[]):=by
 unfold bn
 simp only [xG,xH,xI,xJ,xK,g19,jy h,hi,ah,aj,cE,ak]
theorem lU (L:List Tok) (i:Int) (k:Int) (s:List UInt8):
  bn 30000 (L,(i,(true,()))) k s=some ((L,(i,(true,()))),[]):=by
 unfold bn
 simp only [xG,xH,xI,xJ,xK,g19,ak]
theorem ahd (x:jZ):bV 30000 x=bn 30000 x 3 []:=by
 unfold bV
 simp only [Qb,Qc,Hm]
 cases bn 30000 x 3 []<;>rfl
def nb (L ts:List Tok):Int:=match ts with
 | t::_=>t.2.2.1
 | []=>match L.getLast? with
   | some t=>t.2.2.1
   | none=>1
theorem agC (L:List Tok) (h:L≠[]) (d:Tok):∃ t,L.getLast?=some t∧L.getD (L.length - 1) d=t:=by
 refine ⟨L.getLast h,List.getLast?_eq_some_getLast h,?_⟩
 rw [Dm,fr (by have:=Dn.2 h; omega),Option.getD_some,List.getLast_eq_getElem]
theorem nj {L ts:List Tok} (h:ts <:+L) (hL:L.length≤1000000) (b:Bool):bY 30000 (L,(pos L ts,(b,())))=some (nb L ts):=by
 unfold bY
 simp only [Pn,Po,Pp,Pq,Pr,Ps,Pt,g21,vh h]
 cases ts with
 | cons t r=>simp only [vJ,cE,ak,sP h,if_true,qM h,nb]
 | nil=>
   simp only [IK,cH,aj,nb]
   by_cases hn:L=[]
   ·subst hn; rfl
   ·have hp:=Dn.2 hn
    obtain ⟨t,h1,h2⟩:=agC L hn ((0:Int),([],((0:Int),())))
    have d:decide ((L.length:Int) > 0)=true:=decide_eq_true (by omega)
    have w:IntKind.i64.wrap ((L.length:Int) - 1)=((L.length - 1:Nat):Int):=by rw [dA (by omega)]; omega
    have hb:0≤((L.length - 1:Nat):Int)∧((L.length - 1:Nat):Int) < (L.length:Int):=by omega
    simp only [d,ak,w,if_pos hb,jY,h2,h1]
def pW:List Tok→Sum (List Tok) (List (List UInt8)×List Tok)
 | c::q::r=>if bx (c::q::r) 4 [44] then (if bx (q::r) 3 [] then (match pW r with
    | .inl f=>.inl f
    | .inr (ws,r')=>.inr (q.2.1::ws,r')) else .inl (q::r)) else .inr ([],c::q::r)
 | [c]=>if bx [c] 4 [44] then .inl [] else .inr ([],[c])
 | []=>.inr ([],[])
def Ic {α:Type} (L:List Tok):Sum (List Tok) (α×List Tok)→Prop
 | .inl f=>f <:+L
 | .inr q=>q.2 <:+L
theorem HS {L:List Tok}:∀ (n:Nat) (ts:List Tok),ts.length≤n→ts <:+L→Ic L (pW ts)
 | _,[],_,h=>h
 | _,[c],_,h=>by
   simp only [pW]
   split
   ·exact ef h
   ·exact h
 | 0,_::_::_,hn,_=>by simp at hn
 | n+1,c::q::r,hn,h=>by
   have h1:(q::r) <:+L:=ef h
   have h2:r <:+L:=ef h1
   have ih:=HS (L:=L) n r (by simp at hn; omega) h2
   simp only [pW]
   split
   ·split
    ·cases hp:pW r with
     | inl f=>rw [hp] at ih; exact ih
     | inr x=>rw [hp] at ih; exact ih
    ·exact h1
   ·exact h
theorem awK {R:Type} (k0:jZ→ba→ba→List UInt8→Option R) (L:List Tok) (hL:L.length≤1000000) (x1:ba) (x3:List UInt8):
  ∀ (n:Nat) (ts:List Tok) (m:Nat) (r:ba),ts.length≤n→n < m→ts <:+L→r.2.2.1.length+ts.length≤2000000→
    match pW ts with
    | .inl f=>∃ r',jN (aL 30000) (bV 30000) k0 m (L,(pos L ts,(false,()))) x1 r x3=k0 (L,(pos L f,(true,()))) x1 r' x3
    | .inr (ws,r2)=>jN (aL 30000) (bV 30000) k0 m (L,(pos L ts,(false,()))) x1 r x3=k0 (L,(pos L r2,(false,()))) x1 (r.1,(r.2.1,(r.2.2.1++ws,r.2.2.2))) x3:=by
 intro n
 induction n with
 | zero=>
   intro ts m r hn hm hs hr
   have:ts=[]:=l8.1 (by omega)
   subst this
   cases m with
   | zero=>omega
   | succ m=>
     simp only [pW]
     unfold jN
     simp only [nR,nT,nO,nU,nL,nM,nN,nP,nQ,nS,g22,jy hs,bx,ah,aj,fZ]
 | succ n ih=>
   intro ts m r hn hm hs hr
   cases m with
   | zero=>omega
   | succ m=>
     have bad:∀ (f:List Tok) (r':ba),f <:+L→0 < m→jN (aL 30000) (bV 30000) k0 m (L,(pos L f,(true,()))) x1 r' x3=k0 (L,(pos L f,(true,()))) x1 r' x3:=by
      intro f r' hf hm
      obtain ⟨m,rfl⟩:∃ k,m=k+1:=⟨m - 1,by omega⟩
      unfold jN
      simp only [nR,nT,nO,nU,nL,nM,nN,nP,nQ,nS,g22,jy hf,ah]
      cases bx f 4 [44] with
      | true=>simp only [ak,cH,aj]
      | false=>simp only [aj]
     cases ts with
     | nil=>
       simp only [pW]
       unfold jN
       simp only [nR,nT,nO,nU,nL,nM,nN,nP,nQ,nS,g22,jy hs,bx,ah,aj,fZ]
     | cons c ts=>
       have hs1:ts <:+L:=ef hs
       simp only [aJ] at hn hr
       cases hi:bx (c::ts) 4 [44] with
       | false=>
         have hpw:pW (c::ts)=.inr ([],c::ts):=by
          cases ts with
          | nil=>simp only [pW,hi,bA,if_false]
          | cons q rr=>simp only [pW,hi,bA,if_false]
         rw [hpw]
         unfold jN
         simp only [nR,nT,nO,nU,nL,nM,nN,nP,nQ,nS,g22,jy hs,hi,ah,aj,fZ]
       | true=>
         unfold jN
         simp only [nR,nT,nO,nU,nL,nM,nN,nP,nQ,nS,g22,jy hs,hi,ah,ak,cE,sQ hs hL,ahd]
         have hlim:∀ w:List UInt8,r.2.2.1.length+[w].length≤8796093022208:=fun w=>by simp; omega
         cases hq:bx ts 3 [] with
         | false=>
           have hpw:pW (c::ts)=.inl ts:=by
            cases ts with
            | nil=>simp only [pW,hi,if_true]
            | cons q rr=>simp only [pW,hi,hq,bA,if_false,if_true]
           rw [hpw]
           simp only [qp hs1 hq,ah,if_pos (hlim _)]
           exact ⟨_,bad ts _ hs1 (by omega)⟩
         | true=>
           obtain ⟨q,rr,rfl⟩:=lu hq
           have hs2:rr <:+L:=ef hs1
           simp only [aJ] at hn hr
           simp only [oA hs1 hL hq,ah,if_pos (hlim _),SH,pW,hi,hq,if_true]
           have:=ih rr m (r.1,(r.2.1,((r.2.2.1++[(dN (q::rr)).2.1]),r.2.2.2))) (by omega) (by omega) hs2 (by simp; omega)
           cases hp:pW rr with
           | inl f=>
             rw [hp] at this
             exact this
           | inr x=>
             obtain ⟨ws,r2⟩:=x
             rw [hp] at this
             simp only at this ⊢
             rw [this]
             have e:(dN (q::rr)).2.1=q.2.1:=rfl
             rw [e,bX,qF]
def qo (r2:List Tok):Sum (List Tok) (List (List UInt8)×List Tok):=
 if bx r2 1 [105,110]=true then (if bx r2.tail 3 []=true then (match pW r2.tail.tail with
  | .inl f=>.inl f
  | .inr (ws,r)=>.inr ((dN r2.tail).2.1::ws,r)) else .inl r2.tail) else .inr ([],r2)
def ij (ts:List Tok):Sum (List Tok) ((List UInt8×(Int×List (List UInt8)))×List Tok):=
 if bx ts 1 []=true then (if bx ts.tail 2 []=true then (match qo ts.tail.tail with
  | .inl f=>.inl f
  | .inr (ws,r)=>if bx r 4 [59]=true then .inr (((dN ts).2.1,((iW (dN ts.tail).2.1).1,ws)),r.tail) else .inl r) else .inl ts.tail) else .inl ts
theorem R1 {L ts:List Tok} (h:ts <:+L):Ic L (qo ts):=by
 unfold qo
 split
 ·split
  ·have:=HS (L:=L) _ ts.tail.tail (b5 _) (ef (ef h))
   cases hp:pW ts.tail.tail with
   | inl f=>rw [hp] at this; exact this
   | inr x=>rw [hp] at this; exact this
  ·exact ef h
 ·exact h
theorem HR {L ts:List Tok} (h:ts <:+L):Ic L (ij ts):=by
 unfold ij
 split
 ·split
  ·have:=R1 (ef (ef h))
   cases hp:qo ts.tail.tail with
   | inl f=>rw [hp] at this; exact this
   | inr x=>
     rw [hp] at this
     obtain ⟨ws,r⟩:=x
     simp only
     split
     ·exact ef this
     ·exact this
  ·exact ef h
 ·exact h
theorem afM {L ts:List Tok} (h:ts <:+L) {k:Int} {s:List UInt8} (hi:bx ts k s=true):dN ts∈L:=by
 obtain ⟨t,r,rfl⟩:=lu hi
 exact h.mem (oH ..)
theorem ptl (ts:List Tok):ts.tail=ts.tail:=rfl
theorem ahe {L ts:List Tok} (h:ts <:+L) (hL:L.length < 30000) (hx:∀ t∈L,t.2.1.length < 30000):
  match ij ts with
  | .inl f=>∃ r' nm,ca 30000 (L,(pos L ts,(false,())))=some ((L,(pos L f,(true,()))),r',nm)
  | .inr ((nm,(c,ws)),r)=>ca 30000 (L,(pos L ts,(false,())))=some ((L,(pos L r,(false,()))),(0,(c,(ws,()))),nm):=by
 have hL':L.length≤1000000:=by omega
 have hnil:cU 30000 ([]:List UInt8)=some (iW []):=(Im [] (by simp)).1
 -- what follows the cost, if something went wrong
 have bad:∀ (f:List Tok) (nm:List UInt8) (c:Int),f <:+L→∃ (q:Option (jZ×ba×List UInt8)) (r':ba),q=some ((L,(pos L f,(true,()))),r',nm):=fun f nm c _=>⟨_,(0,(c,([],()))),rfl⟩
 unfold ca
 simp only [nR,nT,nO,nU,nL,nM,nN,nP,nQ,nS,g22]
 unfold ij
 cases h1:bx ts 1 [] with
 | false=>
   simp only [qp h h1,lU,hnil,ah,jy h,bA,if_false]
   cases bx ts 1 [105,110] with
   | true=>exact ⟨_,_,by simp only [ak,cH,aj]; rfl⟩
   | false=>exact ⟨_,_,by simp only [aj]; rfl⟩
 | true=>
   have g1:ts.tail <:+L:=ef h
   simp only [oA h hL' h1,ah,if_true]
   cases h2:bx ts.tail 2 [] with
   | false=>
     simp only [qp g1 h2,lU,hnil,ah,jy g1,bA,if_false]
     cases bx ts.tail 1 [105,110] with
     | true=>exact ⟨_,_,by simp only [ak,cH,aj]; rfl⟩
     | false=>exact ⟨_,_,by simp only [aj]; rfl⟩
   | true=>
     have g2:ts.tail.tail <:+L:=ef g1
     have hnm:=(Im (dN ts.tail).2.1 (hx _ (afM g1 h2))).1
     simp only [oA g1 hL' h2,hnm,ah,if_true,jy g2]
     have hps:=R1 g2
     have fin:∀ (r:List Tok) (c:Int) (ws:List (List UInt8)) (nm:List UInt8),r <:+L→∀ k:Option (jZ×ba×List UInt8),
       k=((bn 30000 (L,(pos L r,(false,()))) 4 [59]).bind fun q=>some (q.1,((0:Int),(c,(ws,()))),nm))→
       match (if bx r 4 [59]=true then Sum.inr ((nm,(c,ws)),r.tail) else Sum.inl r:Sum (List Tok) ((List UInt8×(Int×List (List UInt8)))×List Tok)) with
       | .inl f=>∃ (r':ba) (nm':List UInt8),k=some ((L,(pos L f,(true,()))),r',nm')
       | .inr ((nm,(c,ws)),r')=>k=some ((L,(pos L r',(false,()))),(0,(c,(ws,()))),nm):=by
      intro r c ws nm hr k hk
      subst hk
      cases h6:bx r 4 [59] with
      | true=>simp only [if_true,oA hr hL' h6,ah]
      | false=>
        simp only [bA,if_false,qp hr h6,ah]
        exact ⟨_,_,rfl⟩
     unfold qo at hps ⊢
     cases h3:bx ts.tail.tail 1 [105,110] with
     | false=>
       simp only [aj,bA,if_false]
       exact fin ts.tail.tail (iW (dN ts.tail).2.1).1 [] (dN ts).2.1 g2 _ rfl
     | true=>
       have g3:ts.tail.tail.tail <:+L:=ef g2
       obtain ⟨t0,r0,e0⟩:=lu h3
       have hsuc:IntKind.i64.wrap (pos L ts.tail.tail+1)=pos L ts.tail.tail.tail:=by
        rw [e0]; exact sQ (by rw [←e0]; exact g2) hL'
       have hlim:∀ w:List UInt8,([]:List (List UInt8)).length+[w].length≤8796093022208:=fun w=>by simp
       simp only [ak,cE,if_true,hsuc,ahd]
       cases h4:bx ts.tail.tail.tail 3 [] with
       | false=>
         simp only [qp g3 h4,ah,if_pos (hlim _),bA,if_false]
         have hb:∀ (r':ba) (x1:ba) (nm:List UInt8) (k0:jZ→ba→ba→List UInt8→Option (jZ×ba×List UInt8)),jN (aL 30000) (bV 30000) k0 30000 (L,(pos L ts.tail.tail.tail,(true,()))) x1 r' nm=k0 (L,(pos L ts.tail.tail.tail,(true,()))) x1 r' nm:=by
          intro r' x1 nm k0
          unfold jN
          simp only [nR,nT,nO,nU,nL,nM,nN,nP,nQ,nS,g22,jy g3,ah]
          cases bx ts.tail.tail.tail 4 [44] with
          | true=>simp only [ak,cH,aj]
          | false=>simp only [aj]
         refine ⟨((0:Int),((iW (dN ts.tail).2.1).1,([]++[[]],()))),(dN ts).2.1,Eq.trans (hb _ _ _ _) ?_⟩
         show Option.bind (bn 30000 (L,(pos L ts.tail.tail.tail,(true,()))) 4 [59]) _=_
         rw [lU]
         rfl
       | true=>
         have g4:ts.tail.tail.tail.tail <:+L:=ef g3
         simp only [oA g3 hL' h4,ah,if_pos (hlim _),if_true]
         have hlen:=jS g4
         have hw:=awK (R:=jZ×ba×List UInt8) (fun x0 x1 x2 x3=>(bn 30000 x0 4 [59]).bind fun r=>some (r.1,x2,x3)) L hL' ((0:Int),((0:Int),([],()))) (dN ts).2.1 ts.tail.tail.tail.tail.length ts.tail.tail.tail.tail 30000 ((0:Int),((iW (dN ts.tail).2.1).1,(([]++[(dN ts.tail.tail.tail).2.1]),()))) (b5 _) (by omega) g4 (by simp only [eC,IL]; omega)
         have hws:=HS (L:=L) _ ts.tail.tail.tail.tail (b5 _) g4
         cases hp:pW ts.tail.tail.tail.tail with
         | inl f=>
           rw [hp] at hw hws
           obtain ⟨r',hw⟩:=hw
           refine ⟨r',(dN ts).2.1,?_⟩
           refine Eq.trans hw ?_
           simp only [lU,ah]
         | inr x=>
           obtain ⟨ws,r⟩:=x
           rw [hp] at hw hws
           simp only at hw hws ⊢
           exact fin r (iW (dN ts.tail).2.1).1 ((dN ts.tail.tail.tail).2.1::ws) (dN ts).2.1 hws _ hw
abbrev Qr:Type:=List UInt8×(Int×List (List UInt8))
theorem Rn (k:Int) (s:List UInt8):bx [] k s=false:=rfl
theorem HQ {ts r:List Tok} {q:Qr} (h:ij ts=.inr (q,r)):r.length < ts.length∧bx ts 1 []=true∧q.1=(dN ts).2.1:=by
 unfold ij at h
 split at h
 ·rename_i h1
  split at h
  ·rename_i h2
   have hs:=R1 (L:=ts.tail.tail) (ts:=ts.tail.tail) (SG _)
   split at h
   ·cases h
   ·rename_i ws r0 he
    rw [he] at hs
    have hl:=jS hs
    simp only [IM] at hl
    obtain ⟨t,r',rfl⟩:=lu h1
    split at h
    ·cases h
     exact ⟨by simp only [aJ,IM] at *; omega,h1,rfl⟩
    ·cases h
  ·cases h
 ·cases h
def gR:Nat→List Tok→Sum (List Tok) (List (Int×Qr)×List Tok)
 | 0,ts=>.inl ts
 | n+1,ts=>if bx ts 4 [125]=true then .inr ([],ts) else match ij ts with
   | .inl f=>.inl f
   | .inr (q,r)=>match gR n r with
     | .inl f=>.inl f
     | .inr (qs,r')=>.inr (((dN ts).2.2.1,q)::qs,r')
theorem R2 {L:List Tok}:∀ (n:Nat) (ts:List Tok),ts <:+L→(match gR n ts with
  | .inl f=>f <:+L
  | .inr (qs,r)=>r <:+L∧bx r 4 [125]=true∧qs.length+r.length≤ts.length)
 | 0,ts,h=>h
 | n+1,ts,h=>by
   unfold gR
   by_cases h0:bx ts 4 [125]=true
   ·rw [if_pos h0]; exact ⟨h,h0,by simp⟩
   ·rw [if_neg h0]
    have h1:=HR h
    cases hp:ij ts with
    | inl f=>rw [hp] at h1; exact h1
    | inr x=>
      obtain ⟨q,r⟩:=x
      rw [hp] at h1
      have hd:=(HQ hp).1
      have:=R2 n r h1
      simp only
      cases hq:gR n r with
      | inl f=>rw [hq] at this; exact this
      | inr y=>
        obtain ⟨qs,r'⟩:=y
        rw [hq] at this
        exact ⟨this.1,this.2.1,by have:=this.2.2; simp only [aJ]; omega⟩
def kN:List (List UInt8):=[[109,117,116,101],[110,101,120,116],[98,114,101,118,105,115],[105,110,100,105,102,102,101,114,101,110,116],[108,101,110,103,116,104,101,110],[115,104,111,114,116,101,110],[115,121,110,105,122,101,115,105,115],[101,108,105,115,105,111,110],[101,99,116,104,108,105,112,115,105,115],[112,114,111,100,101,108,105,115,105,111,110],[104,105,97,116,117,115],[99,111,114,114,101,112,116,105,111,110]]
def qd (s:List UInt8):List (List UInt8)→Int→Int
 | [],_=>0
 | n::r,k=>if n=s then k else qd s r (k+1)
def fy (s:List UInt8):Int:=qd s kN 1
def eA (qs:List (Int×Qr)):List ba:=qs.map fun q=>(0,(q.2.2.1,(q.2.2.2,())))
def ee (qs:List (Int×Qr)):List ba:=qs.map fun q=>(fy q.2.1,(q.2.2.1,(q.2.2.2,())))
def fc (qs:List (Int×Qr)):List (List UInt8):=qs.map fun q=>q.2.1
def fB (qs:List (Int×Qr)):List Int:=qs.map fun q=>q.1
def pK:List (Int×Qr)→Option Int
 | []=>none
 | q::r=>if fy q.2.1=0 then some q.1 else pK r
theorem avN {R:Type} (k0:aZ→List Tok→aZ→List (List UInt8)→List Int→jZ→Option R) (z:aZ) (nm:List UInt8) {L:List Tok} (hL:L.length < 30000) (hx:∀ t∈L,t.2.1.length < 30000):
  ∀ (n:Nat) (ts:List Tok) (m:Nat) (rs:List ba) (ns:List (List UInt8)) (ls:List Int),ts.length≤n→n+1 < m→ts <:+L→rs.length+ts.length≤100000→ns.length+ts.length≤100000→ls.length+ts.length≤100000→
    match gR n ts with
    | .inl f=>∃ x2 x3 x4,ic (aL 30000) (bY 30000) (ca 30000) k0 m z L (nm,(rs,())) ns ls (L,(pos L ts,(false,())))=k0 z L x2 x3 x4 (L,(pos L f,(true,())))
    | .inr (qs,r)=>ic (aL 30000) (bY 30000) (ca 30000) k0 m z L (nm,(rs,())) ns ls (L,(pos L ts,(false,())))=k0 z L (nm,(rs++eA qs,())) (ns++fc qs) (ls++fB qs) (L,(pos L r,(false,()))):=by
 have hL':L.length≤1000000:=by omega
 have bad:∀ (f:List Tok) (m:Nat) (x2:aZ) (x3:List (List UInt8)) (x4:List Int),0 < m→ic (aL 30000) (bY 30000) (ca 30000) k0 m z L x2 x3 x4 (L,(pos L f,(true,())))=k0 z L x2 x3 x4 (L,(pos L f,(true,()))):=by
  intro f m x2 x3 x4 hm
  obtain ⟨m,rfl⟩:∃ k,m=k+1:=⟨m - 1,by omega⟩
  unfold ic
  simp only [iT,iC,iJ,iS,iz,iA,iB,iD,iE,iF,iG,iH,iI,iL,iK,iM,iN,iO,iQ,iP,iR,iU,g6,cH,aj]
 -- a rule that fails
 have fl:∀ (ts f:List Tok) (m:Nat) (rs:List ba) (ns:List (List UInt8)) (ls:List Int),0 < m→ts <:+L→bx ts 4 [125]=false→ij ts=.inl f→rs.length≤100000→ns.length≤100000→ls.length≤100000→
   ∃ x2 x3 x4,ic (aL 30000) (bY 30000) (ca 30000) k0 (m+1) z L (nm,(rs,())) ns ls (L,(pos L ts,(false,())))=k0 z L x2 x3 x4 (L,(pos L f,(true,()))):=by
  intro ts f m rs ns ls hm hs h0 hp hr hn hl
  have hr1:=ahe hs hL hx
  rw [hp] at hr1
  obtain ⟨r',nm',hr1⟩:=hr1
  have c1:∀ x:Int,ls.length+[x].length≤17592186044416:=fun x=>by simp; omega
  have c2:∀ x:ba,rs.length+[x].length≤3518437208883:=fun x=>by simp; omega
  have c3:∀ x:List UInt8,ns.length+[x].length≤8796093022208:=fun x=>by simp; omega
  unfold ic
  simp only [iT,iC,iJ,iS,iz,iA,iB,iD,iE,iF,iG,iH,iI,iL,iK,iM,iN,iO,iQ,iP,iR,iU,g6,cE,ak,jy hs,h0,ah,nj hs hL',hr1,if_pos (c1 _),if_pos (c2 _),if_pos (c3 _)]
  exact ⟨_,_,_,bad f m _ _ _ hm⟩
 intro n
 induction n with
 | zero=>
   intro ts m rs ns ls hn hm hs hr1 hr2 hr3
   have:ts=[]:=l8.1 (by omega)
   subst this
   obtain ⟨m,rfl⟩:∃ k,m=k+1:=⟨m - 1,by omega⟩
   simp only [gR]
   exact fl [] [] m rs ns ls (by omega) hs rfl rfl (by omega) (by omega) (by omega)
 | succ n ih=>
   intro ts m rs ns ls hn hm hs hr1 hr2 hr3
   obtain ⟨m,rfl⟩:∃ k,m=k+1:=⟨m - 1,by omega⟩
   unfold gR
   cases h0:bx ts 4 [125] with
   | true=>
     simp only [if_true]
     unfold ic
     simp only [iT,iC,iJ,iS,iz,iA,iB,iD,iE,iF,iG,iH,iI,iL,iK,iM,iN,iO,iQ,iP,iR,iU,g6,cE,ak,jy hs,h0,ah,cH,aj,eA,fc,fB,l9,fZ]
   | false=>
     simp only [bA,if_false]
     cases hp:ij ts with
     | inl f=>exact fl ts f m rs ns ls (by omega) hs h0 hp (by omega) (by omega) (by omega)
     | inr x=>
       obtain ⟨⟨nm',c,ws⟩,r⟩:=x
       have hr1':=ahe hs hL hx
       rw [hp] at hr1'
       have hd:=HQ hp
       have hrs:r <:+L:=by have:=HR hs; rw [hp] at this; exact this
       have hln:nb L ts=(dN ts).2.2.1:=by
        obtain ⟨t,r',rfl⟩:=lu hd.2.1; rfl
       have c1:∀ x:Int,ls.length+[x].length≤17592186044416:=fun x=>by simp; omega
       have c2:∀ x:ba,rs.length+[x].length≤3518437208883:=fun x=>by simp; omega
       have c3:∀ x:List UInt8,ns.length+[x].length≤8796093022208:=fun x=>by simp; omega
       have hst:∀ y,y=ic (aL 30000) (bY 30000) (ca 30000) k0 (m+1) z L (nm,(rs,())) ns ls (L,(pos L ts,(false,())))→
         y=ic (aL 30000) (bY 30000) (ca 30000) k0 m z L (nm,(rs++[(0,(c,(ws,())))],())) (ns++[nm']) (ls++[(dN ts).2.2.1]) (L,(pos L r,(false,()))):=by
        intro y hy
        rw [hy]
        conv=>lhs; unfold ic
        simp only [iT,iC,iJ,iS,iz,iA,iB,iD,iE,iF,iG,iH,iI,iL,iK,iM,iN,iO,iQ,iP,iR,iU,g6,cE,ak,jy hs,h0,ah,nj hs hL',hr1',if_pos (c1 _),if_pos (c2 _),if_pos (c3 _),hln]
       have hi:=ih r m (rs++[(0,(c,(ws,())))]) (ns++[nm']) (ls++[(dN ts).2.2.1]) (by omega) (by omega) hrs (by simp; omega) (by simp; omega) (by simp; omega)
       simp only
       cases hq:gR n r with
       | inl f=>
         rw [hq] at hi
         obtain ⟨x2,x3,x4,hi⟩:=hi
         exact ⟨x2,x3,x4,(hst _ rfl).trans hi⟩
       | inr x=>
         obtain ⟨qs,r'⟩:=x
         rw [hq] at hi
         refine ((hst _ rfl).trans hi).trans ?_
         simp only [eA,fc,fB,fG,bX,qF]
theorem aoo:((oJ 12).all fun n=>bw 30000 ((n+1:Nat):Int)==some (kN.getD n [])&&aV 30000 ((n+1:Nat):Int)==some (kN.getD n []))=true:=by kernel_rfl
theorem Il (n:Nat) (h:n < 12):bw 30000 ((n+1:Nat):Int)=some (kN.getD n [])∧aV 30000 ((n+1:Nat):Int)=some (kN.getD n []):=by
 have:=gl.1 aoo n (oI.2 h)
 rw [aB,beq_iff_eq,beq_iff_eq] at this
 exact this
theorem avx {R:Type} (k0:Int→Option R) (k1:List UInt8→Int→Option R) (s:List UInt8) (hk:∀ i,k1 s i=k0 0):
  ∀ (d n m:Nat),n+d=12→d < m→uD (bw 30000) k0 k1 m s ((n+1:Nat):Int)=k0 (qd s (kN.drop n) ((n+1:Nat):Int)):=by
 intro d
 induction d with
 | zero=>
   intro n m hn hm
   have:n=12:=by omega
   subst this
   obtain ⟨m,rfl⟩:∃ k,m=k+1:=⟨m - 1,by omega⟩
   unfold uD
   have d:decide (((12+1:Nat):Int)≤12)=false:=by decide
   simp only [xL,xM,xQ,xR,xS,xT,xU,xN,xO,xP,g23,d,aj,hk]
   rfl
 | succ d ih=>
   intro n m hn hm
   obtain ⟨m,rfl⟩:∃ k,m=k+1:=⟨m - 1,by omega⟩
   unfold uD
   have dd:decide (((n+1:Nat):Int)≤12)=true:=decide_eq_true (by omega)
   have hl:n < kN.length:=by show n < 12; omega
   have w:IntKind.i64.wrap (((n+1:Nat):Int)+1)=((n+1+1:Nat):Int):=by rw [dA (by omega)]; omega
   have hd:kN.drop n=kN.getD n []::kN.drop (n+1):=by
    rw [Sz hl,Dm,fr hl]; rfl
   simp only [xL,xM,xQ,xR,xS,xT,xU,xN,xO,xP,g23,dd,ak,(Il n (by omega)).1,ah,w]
   rw [hd]
   simp only [qd]
   by_cases he:kN.getD n []=s
   ·have e1:(kN.getD n []==s)=true:=by simpa using he
    rw [if_pos he,e1,ak]
   ·have e1:(kN.getD n []==s)=false:=by simpa using he
    rw [if_neg he,e1,aj,ih (n+1) m (by omega) (by omega)]
    congr 2
theorem aM0 (s:List UInt8):cy 30000 s=some (fy s):=by
 have:=avx (R:=Int) some (fun _ _=>some 0) s (fun _=>rfl) 12 0 30000 rfl (by omega)
 unfold cy
 simp only [xL,xM,xQ,xR,xS,xT,xU,xN,xO,xP,g23]
 exact this
theorem avy {R:Type} (k0:aZ→Int→Int→Option R) (k1:aZ→aZ→List (List UInt8)→List Int→Int→Int→Option R) (z:aZ) (nm:List UInt8):
  ∀ (ys pre:List (Int×Qr)) (m:Nat),ys.length < m→(pre++ys).length≤100000→
    match pK ys with
    | some ln=>om (cy 30000) k0 k1 m z (nm,(ee pre++eA ys,())) (fc pre++fc ys) (fB pre++fB ys) ((pre++ys).length:Int) (pre.length:Int)=k0 ([],([],())) ln 9
    | none=>om (cy 30000) k0 k1 m z (nm,(ee pre++eA ys,())) (fc pre++fc ys) (fB pre++fB ys) ((pre++ys).length:Int) (pre.length:Int)=k1 z (nm,(ee (pre++ys),())) (fc (pre++ys)) (fB (pre++ys)) ((pre++ys).length:Int) ((pre++ys).length:Int):=by
 intro ys
 induction ys with
 | nil=>
   intro pre m hm hb
   obtain ⟨m,rfl⟩:∃ k,m=k+1:=⟨m - 1,by simp at hm; omega⟩
   simp only [pK]
   unfold om
   simp only [iT,iC,iJ,iS,iz,iA,iB,iD,iE,iF,iG,iH,iI,iL,iK,iM,iN,iO,iQ,iP,iR,iU,g6,ep,aj,fZ,eA,fc,fB,l9]
   have:decide ((pre.length:Int) < (pre.length:Int))=false:=decide_eq_false (by omega)
   rw [this,aj]
 | cons y ys ih=>
   intro pre m hm hb
   obtain ⟨m,rfl⟩:∃ k,m=k+1:=⟨m - 1,by simp at hm; omega⟩
   have hl1:(ee pre).length=pre.length:=by simp [ee]
   have hl2:(fc pre).length=pre.length:=by simp [fc]
   have hl3:(fB pre).length=pre.length:=by simp [fB]
   have e1:eA (y::ys)=(0,(y.2.2.1,(y.2.2.2,())))::eA ys:=rfl
   have e2:fc (y::ys)=y.2.1::fc ys:=rfl
   have e3:fB (y::ys)=y.1::fB ys:=rfl
   have i1:∀ (a b:List ba) (r:ba),a.length=pre.length→(0≤(pre.length:Int)∧(pre.length:Int) < ((a++r::b).length:Int))=True:=by intro a b r h; rw [←h]; exact dt ..
   have i2:∀ (a b:List (List UInt8)) (r:List UInt8),a.length=pre.length→(0≤(pre.length:Int)∧(pre.length:Int) < ((a++r::b).length:Int))=True:=by intro a b r h; rw [←h]; exact dt ..
   have i3:∀ (a b:List Int) (r:Int),a.length=pre.length→(0≤(pre.length:Int)∧(pre.length:Int) < ((a++r::b).length:Int))=True:=by intro a b r h; rw [←h]; exact dt ..
   have t1:∀ (a b:List ba) (r:ba),a.length=pre.length→((pre.length:Int).toNat < (a++r::b).length)=True:=by intro a b r h; rw [←h]; exact qh ..
   have t2:∀ (a b:List (List UInt8)) (r:List UInt8),a.length=pre.length→((pre.length:Int).toNat < (a++r::b).length)=True:=by intro a b r h; rw [←h]; exact qh ..
   have t3:∀ (a b:List Int) (r:Int),a.length=pre.length→((pre.length:Int).toNat < (a++r::b).length)=True:=by intro a b r h; rw [←h]; exact qh ..
   have s1:∀ (a b:List ba) (r q:ba),a.length=pre.length→(a++r::b).set (pre.length:Int).toNat q=a++q::b:=by intro a b r q h; rw [←h]; exact H2 ..
   have g1:∀ (a b:List ba) (r q:ba),a.length=pre.length→(a++r::b).getD (pre.length:Int).toNat q=r:=by intro a b r q h; rw [←h]; exact dp ..
   have g2:∀ (a b:List (List UInt8)) (r q:List UInt8),a.length=pre.length→(a++r::b).getD (pre.length:Int).toNat q=r:=by intro a b r q h; rw [←h]; exact dp ..
   have g3:∀ (a b:List Int) (r q:Int),a.length=pre.length→(a++r::b).getD (pre.length:Int).toNat q=r:=by intro a b r q h; rw [←h]; exact dp ..
   have f1:ee pre++(fy y.2.1,(y.2.2.1,(y.2.2.2,())))::eA ys=ee (pre++[y])++eA ys:=by simp [ee]
   have f2:fc pre++y.2.1::fc ys=fc (pre++[y])++fc ys:=by simp [fc]
   have f3:fB pre++y.1::fB ys=fB (pre++[y])++fB ys:=by simp [fB]
   have lc:decide ((pre.length:Int) < ((pre++y::ys).length:Int))=true:=dU ..
   rw [e1,e2,e3]
   have hst:∀ o,o=om (cy 30000) k0 k1 (m+1) z (nm,(ee pre++(0,(y.2.2.1,(y.2.2.2,())))::eA ys,())) (fc pre++y.2.1::fc ys) (fB pre++y.1::fB ys) ((pre++y::ys).length:Int) (pre.length:Int)→
     o=al (fy y.2.1==0) (k0 ([],([],())) y.1 9) (om (cy 30000) k0 k1 m z (nm,(ee (pre++[y])++eA ys,())) (fc (pre++[y])++fc ys) (fB (pre++[y])++fB ys) (((pre++[y])++ys).length:Int) ((pre++[y]).length:Int)):=by
    intro o ho
    rw [ho]
    conv=>lhs; unfold om
    simp only [iT,iC,iJ,iS,iz,iA,iB,iD,iE,iF,iG,iH,iI,iL,iK,iM,iN,iO,iQ,iP,iR,iU,g6,lc,ak,i1 _ _ _ hl1,i2 _ _ _ hl2,i3 _ _ _ hl3,t1 _ _ _ hl1,t2 _ _ _ hl2,t3 _ _ _ hl3,s1 _ _ _ _ hl1,g1 _ _ _ _ hl1,g2 _ _ _ _ hl2,g3 _ _ _ _ hl3,if_true,aM0,ah,eS pre ys y (by unfold bF; omega)]
    rw [f1,f2,f3,←bP pre ys y]
   have hi:=ih (pre++[y]) m (by simpa using hm) (by rw [←bP]; exact hb)
   simp only [pK]
   by_cases hz:fy y.2.1=0
   ·have eb:(fy y.2.1==0)=true:=by simpa using hz
    rw [if_pos hz]
    simp only
    refine (hst _ rfl).trans ?_
    rw [eb,ak]
   ·have eb:(fy y.2.1==0)=false:=by simpa using hz
    rw [if_neg hz]
    cases hp:pK ys with
    | some ln=>
      rw [hp] at hi
      refine (hst _ rfl).trans ?_
      rw [eb,aj]; exact hi
    | none=>
      rw [hp] at hi
      refine (hst _ rfl).trans ?_
      rw [eb,aj]
      refine hi.trans ?_
      rw [←bP]
def CR (L:List Tok):Sum (List Tok) (List UInt8×List (Int×Qr)):=
 if bx L 1 [108,105,99,101,110,99,101]=true then (if bx L.tail 1 []=true then (if bx L.tail.tail 4 [123]=true then (match gR L.length L.tail.tail.tail with
  | .inl f=>.inl f
  | .inr (qs,r)=>if r.tail=[] then .inr ((dN L.tail).2.1,qs) else .inl r.tail) else .inl L.tail.tail) else .inl L.tail) else .inl L
def CS (x:List UInt8×List (Int×Qr)):aZ×(Int×Int):=match pK x.2 with
 | some ln=>(([],([],())),ln,9)
 | none=>if dO (x.1,(ee x.2,()))=0 then ((x.1,(ee x.2,())),0,0) else (([],([],())),0,dO (x.1,(ee x.2,())))
def lB (s:List UInt8):aZ×(Int×Int):=
 if (tk s).2.2=0 then (match CR (tk s).1 with
  | .inl f=>(([],([],())),nb (tk s).1 f,2)
  | .inr x=>CS x) else (([],([],())),(tk s).2.1,(tk s).2.2)
theorem awT {s:List UInt8} {k:Int} {x:List UInt8} {n:Nat} (h:nx s=.inr (k,x,n)):x.length≤n∧n≤s.length:=by
 unfold nx at h
 split at h
 ·cases h
 ·rename_i c t
  have n1:=agR (c::t)
  have n2:=oT bB (c::t)
  split at h
  ·split at h
   ·cases h
   ·cases h; exact ⟨by rw [ja]; omega,n1⟩
  ·split at h
   ·split at h
    ·cases h
    ·split at h
     ·cases h
     ·cases h; exact ⟨by rw [ja]; omega,n2⟩
   ·split at h
    ·split at h
     ·rename_i hq
      cases h
      have:=ahh t hq
      simp only [aJ]; omega
     ·cases h
    ·split at h
     ·cases h; simp
     ·cases h
theorem C4:∀ (f:Nat) (l:Int) (s:List UInt8) (ts:List Tok),dz f l s=.inr ts→ts.length≤s.length∧∀ t∈ts,t.2.1.length≤s.length
 | f,l,[],ts,h=>by
   have:ts=[]:=by cases f<;>(simp only [dz] at h; cases h; rfl)
   subst this; simp
 | 0,l,c::s,ts,h=>by
   simp only [dz] at h; cases h; simp
 | f+1,l,c::s,ts,h=>by
   simp only [dz] at h
   have up:∀ (a:List UInt8),a.length≤s.length→ts.length≤a.length∧(∀ t∈ts,t.2.1.length≤a.length)→ts.length≤(c::s).length∧∀ t∈ts,t.2.1.length≤(c::s).length:=by
    intro a ha hh
    simp only [aJ]
    exact ⟨by omega,fun t ht=>by have:=hh.2 t ht; omega⟩
   split at h
   ·exact up s (b5 _) (C4 f _ s ts h)
   ·split at h
    ·exact up s (b5 _) (C4 f _ s ts h)
    ·split at h
     ·exact up _ (qz s) (C4 f _ _ ts h)
     ·split at h
      ·cases h
      ·rename_i k x n hn
       have hp:=agW hn
       have hb:=awT hn
       cases hr:dz f l ((c::s).drop n) with
       | inl q=>rw [hr] at h; cases h
       | inr tt=>
         rw [hr] at h
         cases h
         have ih:=C4 f _ _ tt hr
         rw [nz] at ih
         simp only [aJ] at ih hb ⊢
         refine ⟨by omega,?_⟩
         intro t ht
         rcases dG.1 ht with rfl | ht
         ·simp only; omega
         ·have:=ih.2 t ht; omega
theorem ahT (s:List UInt8):(tk s).1.length≤s.length∧∀ t∈(tk s).1,t.2.1.length≤s.length:=by
 unfold tk
 cases h:dz s.length 1 s with
 | inl q=>simp
 | inr ts=>exact C4 _ _ _ _ h
theorem R5 (L:List Tok):pos L L=0:=by unfold pos; simp
theorem fin (l:aZ) (e:Int):al (e != 0) (some ((([],([],())):aZ),((0:Int),e))) (some (l,((0:Int),(0:Int))))=some (if e=0 then (l,(0,0)) else (([],([],())),(0,e))):=by
 by_cases h:e=0
 ·subst h; rfl
 ·have e1:(e != 0)=true:=by simpa using h
  rw [if_neg h,e1,ak]
theorem ah2 (s:List UInt8) (hs:s.length+2 < 30000) (h2:s.length≤20000):S6 30000 s=some (lB s):=by
 have hbd:=ahT s
 have hL2:(tk s).1.length+2 < 30000:=by omega
 have hL:(tk s).1.length < 30000:=by omega
 have hL':(tk s).1.length≤1000000:=by omega
 have hx:∀ t∈(tk s).1,t.2.1.length < 30000:=fun t ht=>by have:=hbd.2 t ht; omega
 unfold S6 lB
 simp only [iT,iC,iJ,iS,iz,iA,iB,iD,iE,iF,iG,iH,iI,iL,iK,iM,iN,iO,iQ,iP,iR,iU,g6,(ah3 s (by omega) h2).1,ah]
 by_cases he:(tk s).2.2=0
 ·have e1:((tk s).2.2 != 0)=false:=by simpa using he
  rw [if_pos he]
  simp only [e1,aj]
  generalize (tk s).1=L at hL hL2 hL' hx
  clear hbd he e1
  have hs0:L <:+L:=SG L
  have hs1:L.tail <:+L:=ef hs0
  have hs2:L.tail.tail <:+L:=ef hs1
  have hs3:L.tail.tail.tail <:+L:=ef hs2
  have p0:(L,((0:Int),(false,())))=((L,(pos L L,(false,()))):jZ):=by rw [R5]
  rw [p0]
  -- the loop at once at its end
  have bad:∀ (k0:aZ→List Tok→aZ→List (List UInt8)→List Int→jZ→Option (aZ×Int×Int)) (z:aZ) (f:List Tok) (x2:aZ) (x3:List (List UInt8)) (x4:List Int),ic (aL 30000) (bY 30000) (ca 30000) k0 30000 z L x2 x3 x4 (L,(pos L f,(true,())))=k0 z L x2 x3 x4 (L,(pos L f,(true,()))):=by
   intro k0 z f x2 x3 x4
   conv=>lhs; unfold ic
   simp only [iT,iC,iJ,iS,iz,iA,iB,iD,iE,iF,iG,iH,iI,iL,iK,iM,iN,iO,iQ,iP,iR,iU,g6,cH,aj]
  unfold CR
  cases h1:bx L 1 [108,105,99,101,110,99,101] with
  | false=>
    simp only [qp hs0 h1,lU,ah,bad,ak,nj hs0 hL',bA,if_false]
    simp only [iT,iC,iJ,iS,iz,iA,iB,iD,iE,iF,iG,iH,iI,iL,iK,iM,iN,iO,iQ,iP,iR,iU,g6,lU,ah,ak,nj hs0 hL']
  | true=>
    simp only [oA hs0 hL' h1,ah,if_true]
    cases h2:bx L.tail 1 [] with
    | false=>
      simp only [qp hs1 h2,lU,ah,bad,ak,nj hs1 hL',bA,if_false]
      simp only [iT,iC,iJ,iS,iz,iA,iB,iD,iE,iF,iG,iH,iI,iL,iK,iM,iN,iO,iQ,iP,iR,iU,g6,lU,ah,ak,nj hs1 hL']
    | true=>
      simp only [oA hs1 hL' h2,ah,if_true]
      cases h3:bx L.tail.tail 4 [123] with
      | false=>
        simp only [qp hs2 h3,lU,ah,bad,ak,nj hs2 hL',bA,if_false]
        simp only [iT,iC,iJ,iS,iz,iA,iB,iD,iE,iF,iG,iH,iI,iL,iK,iM,iN,iO,iQ,iP,iR,iU,g6,lU,ah,ak,nj hs2 hL']
      | true=>
        simp only [oA hs2 hL' h3,ah,if_true]
        have hlen:=jS hs3
        have hp:=fun (k0:aZ→List Tok→aZ→List (List UInt8)→List Int→jZ→Option (aZ×Int×Int)) (z:aZ) (nm:List UInt8)=>avN k0 z nm hL hx L.length L.tail.tail.tail 30000 [] [] [] (jS hs3) (by omega) hs3 (by simp only [bG]; omega) (by simp only [bG]; omega) (by simp only [bG]; omega)
        have hsf:=R2 L.length L.tail.tail.tail hs3
        cases hq:gR L.length L.tail.tail.tail with
        | inl f=>
          rw [hq] at hsf
          simp only [hq] at hp
          have hf:∀ (k0:aZ→List Tok→aZ→List (List UInt8)→List Int→jZ→Option (aZ×Int×Int)) (z:aZ) (nm:List UInt8) (o:Option (aZ×Int×Int)),(∀ x2 x3 x4,k0 z L x2 x3 x4 (L,(pos L f,(true,())))=o)→ic (aL 30000) (bY 30000) (ca 30000) k0 30000 z L (nm,([],())) [] [] (L,(pos L L.tail.tail.tail,(false,())))=o:=by
           intro k0 z nm o ho
           obtain ⟨x2,x3,x4,h⟩:=hp k0 z nm
           rw [h,ho]
          refine hf _ _ _ _ ?_
          intro x2 x3 x4
          simp only [iT,iC,iJ,iS,iz,iA,iB,iD,iE,iF,iG,iH,iI,iL,iK,iM,iN,iO,iQ,iP,iR,iU,g6,lU,ah,ak,nj hsf hL']
        | inr x=>
          obtain ⟨qs,r⟩:=x
          rw [hq] at hsf
          simp only [hq] at hp
          obtain ⟨hr,hi,hql⟩:=hsf
          have hrt:r.tail <:+L:=ef hr
          refine (hp _ _ _).trans ?_
          simp only [iT,iC,iJ,iS,iz,iA,iB,iD,iE,iF,iG,iH,iI,iL,iK,iM,iN,iO,iQ,iP,iR,iU,g6,oA hr hL' hi,ah,aj,vh hrt,eC]
          have pl:=nj hrt hL' false
          cases hr0:r.tail with
          | cons t rr=>
            rw [hr0] at pl
            simp only [vJ,cE,ak,if_false,reduceCtorEq,pl,ah]
          | nil=>
            simp only [IK,cH,aj,if_true,CS]
            have hqn:(fc qs).length=qs.length:=by simp [fc]
            have hk:=fun (k0:aZ→Int→Int→Option (aZ×Int×Int)) (k1:aZ→aZ→List (List UInt8)→List Int→Int→Int→Option (aZ×Int×Int)) (z:aZ) (nm:List UInt8)=>avy k0 k1 z nm qs [] 30000 (by omega) (by simp only [eC]; omega)
            simp only [eC,ee,fc,fB,l9,bG,oE] at hk hqn ⊢
            rw [hqn]
            cases hz:pK qs with
            | some ln=>
              simp only [hz] at hk
              exact hk _ _ _ _
            | none=>
              simp only [hz] at hk
              refine (hk _ _ _ _).trans ?_
              simp only [Si,ah]
              exact fin _ _
 ·have e1:((tk s).2.2 != 0)=true:=by simpa using he
  rw [if_neg he]
  simp only [e1,ak]
theorem jz {L ts:List Tok} (h:ts <:+L) (k:Int) (s:List UInt8):aE 30000 L (pos L ts) k s=some (bx ts k s):=by
 unfold aE
 simp only [Pu,Pv,Hg,vh h]
 cases ts with
 | nil=>rfl
 | cons t r=>
   simp only [vJ,cE,ak,sP h,if_true,qM h,bx]
   cases (t.1==k) with
   | false=>simp only [aj,lG]
   | true=>
     simp only [ak,iX]
     cases (s==([]:List UInt8)) with
     | true=>simp only [ak,s0]
     | false=>simp only [aj,vD]
theorem CY {L ts:List Tok} (h:ts <:+L) (hL:L.length≤1000000):bD 30000 L (pos L ts)=some (([],([],())),nb L ts,2):=by
 unfold bD
 simp only [Pw,Px,Py,Pz,PA,PB,PC,Hh,vh h]
 cases ts with
 | cons t r=>simp only [vJ,cE,ak,sP h,if_true,qM h,nb]
 | nil=>
   simp only [IK,cH,aj,nb]
   by_cases hn:L=[]
   ·subst hn; rfl
   ·have hp:=Dn.2 hn
    obtain ⟨t,h1,h2⟩:=agC L hn ((0:Int),([],((0:Int),())))
    have d:decide ((L.length:Int) > 0)=true:=decide_eq_true (by omega)
    have w:IntKind.i64.wrap ((L.length:Int) - 1)=((L.length - 1:Nat):Int):=by rw [dA (by omega)]; omega
    have hb:0≤((L.length - 1:Nat):Int)∧((L.length - 1:Nat):Int) < (L.length:Int):=by omega
    simp only [d,ak,w,if_pos hb,jY,h2,h1]
theorem aha {L r:List Tok} {c t:Tok} (h:(c::t::r) <:+L) (hL:L.length≤1000000):IntKind.i64.wrap (pos L (c::t::r)+2)=pos L r:=by
 have:=jS h
 unfold pos
 simp only [aJ] at *
 rw [dA (by omega)]; omega
def pI (ts:List Tok):Sum (List Tok) (List (List UInt8)×List Tok):=if bx ts 3 []=true then (match pW ts.tail with
    | .inl f=>.inl f
    | .inr (ws,r)=>.inr ((dN ts).2.1::ws,r)) else .inl ts
theorem ayf {c:Tok} {ts:List Tok} (h:bx (c::ts) 4 [44]=true):pW (c::ts)=pI ts:=by
 cases ts with
 | nil=>simp only [pW,h,if_true,pI,Rn,bA,if_false]
 | cons q r=>simp only [pW,h,if_true,pI]; rfl
theorem aye {ts:List Tok} (h:bx ts 4 [44]=false):pW ts=.inr ([],ts):=by
 match ts,h with
 | [],_=>rfl
 | [c],h=>simp only [pW,h,bA,if_false]
 | c::q::r,h=>simp only [pW,h,bA,if_false]
theorem avM {R:Type} (k0:ba→Int→Bool→Option R) (k1:List Tok→Int→ba→ba→Option R) {L:List Tok} (hL:L.length≤1000000) (z:ba):
  ∀ (n:Nat) (ts:List Tok) (c:Tok) (m:Nat) (r:ba),ts.length≤n→n < m→(c::ts) <:+L→r.2.2.1.length+ts.length≤2000000→
    match pI ts with
    | .inl f=>∃ r',na (aE 30000) k0 k1 m L (pos L (c::ts)) z r=k0 r' (pos L f) false
    | .inr (ws,r2)=>na (aE 30000) k0 k1 m L (pos L (c::ts)) z r=k1 L (pos L r2) z (r.1,(r.2.1,(r.2.2.1++ws,r.2.2.2))):=by
 intro n
 induction n with
 | zero=>
   intro ts c m r hn hm hs hr
   have:ts=[]:=l8.1 (by omega)
   subst this
   obtain ⟨m,rfl⟩:∃ k,m=k+1:=⟨m - 1,by omega⟩
   have hs1:([]:List Tok) <:+L:=ef hs
   simp only [pI,Rn,bA,if_false]
   unfold na
   simp only [r7,rU,r9,sa,sc,r6,rP,rQ,rR,rS,rT,rV,rW,rX,rY,rZ,r8,pM,sQ hs hL,jz hs1,Rn,ah,cE,ak]
   exact ⟨_,rfl⟩
 | succ n ih=>
   intro ts c m r hn hm hs hr
   obtain ⟨m,rfl⟩:∃ k,m=k+1:=⟨m - 1,by omega⟩
   have hs1:ts <:+L:=ef hs
   cases hq:bx ts 3 [] with
   | false=>
     simp only [pI,hq,bA,if_false]
     unfold na
     simp only [r7,rU,r9,sa,sc,r6,rP,rQ,rR,rS,rT,rV,rW,rX,rY,rZ,r8,pM,sQ hs hL,jz hs1,hq,ah,cE,ak]
     exact ⟨_,rfl⟩
   | true=>
     obtain ⟨q,rr,rfl⟩:=lu hq
     have hs2:rr <:+L:=ef hs1
     simp only [aJ] at hn hr
     have hlim:∀ w:List UInt8,r.2.2.1.length+[w].length≤8796093022208:=fun w=>by simp; omega
     have hst:∀ o,o=na (aE 30000) k0 k1 (m+1) L (pos L (c::q::rr)) z r→
       o=al (!bx rr 4 [44]) (k1 L (pos L rr) z (r.1,(r.2.1,(r.2.2.1++[q.2.1],r.2.2.2)))) (na (aE 30000) k0 k1 m L (pos L rr) z (r.1,(r.2.1,(r.2.2.1++[q.2.1],r.2.2.2)))):=by
      intro o ho
      rw [ho]
      conv=>lhs; unfold na
      simp only [r7,rU,r9,sa,sc,r6,rP,rQ,rR,rS,rT,rV,rW,rX,rY,rZ,r8,pM,sQ hs hL,aha hs hL,jz hs1,jz hs2,hq,ah,cH,aj,sP hs1,qM hs1,if_true,if_pos (hlim _)]
     simp only [pI,hq,if_true,SH]
     cases hc:bx rr 4 [44] with
     | false=>
       rw [aye hc]
       simp only
       refine (hst _ rfl).trans ?_
       rw [hc,cE,ak]
       rfl
     | true=>
       obtain ⟨c2,ts2,rfl⟩:=lu hc
       rw [ayf hc]
       have hi:=ih ts2 c2 m (r.1,(r.2.1,(r.2.2.1++[q.2.1],r.2.2.2))) (by simp only [aJ] at hn; omega) (by omega) hs2 (by simp only [aJ,a8,bG] at hr ⊢; omega)
       cases hp:pI ts2 with
       | inl f=>
         rw [hp] at hi
         obtain ⟨r',hi⟩:=hi
         refine ⟨r',(hst _ rfl).trans ?_⟩
         rw [hc,cH,aj]; exact hi
       | inr x=>
         obtain ⟨ws,r2⟩:=x
         rw [hp] at hi
         refine (hst _ rfl).trans ?_
         rw [hc,cH,aj]
         refine hi.trans ?_
         simp only [bX,qF]
         rfl
theorem qy {L ts:List Tok} {k:Int} {s:List UInt8} (hi:bx ts k s=true) (h:ts <:+L) (hL:L.length≤1000000):
  IntKind.i64.wrap (pos L ts+1)=pos L ts.tail∧(0≤pos L ts∧pos L ts < (L.length:Int))∧∀ d,L.getD (eB (pos L ts)) d=dN ts:=by
 obtain ⟨t,r,rfl⟩:=lu hi
 exact ⟨sQ h hL,of_eq_true (sP h),fun d=>qM h d⟩
theorem aME {L ts:List Tok} {k k2:Int} {s s2:List UInt8} (hi:bx ts k s=true) (hi2:bx ts.tail k2 s2=true) (h:ts <:+L) (hL:L.length≤1000000):IntKind.i64.wrap (pos L ts+2)=pos L ts.tail.tail:=by
 obtain ⟨t,r,rfl⟩:=lu hi
 obtain ⟨t2,r2,e⟩:=lu hi2
 simp only [SH] at e ⊢
 subst e
 exact aha h hL
theorem ayb (r2:List Tok):qo r2=if bx r2 1 [105,110]=true then pI r2.tail else .inr ([],r2):=rfl
theorem aya {L ts:List Tok} (h:ts <:+L):Ic L (pI ts):=by
 unfold pI
 split
 ·have:=HS (L:=L) _ ts.tail (b5 _) (ef h)
  cases hp:pW ts.tail with
  | inl f=>rw [hp] at this; exact this
  | inr x=>rw [hp] at this; exact this
 ·exact h
theorem aho {L ts:List Tok} (h:ts <:+L) (hL:L.length < 30000) (hx:∀ t∈L,t.2.1.length < 30000):
  match ij ts with
  | .inl f=>∃ r',cg 30000 L (pos L ts)=some (r',pos L f,false)
  | .inr ((nm,(c,ws)),r)=>cg 30000 L (pos L ts)=some ((0,(c,(ws,()))),pos L r,true):=by
 have hL':L.length≤1000000:=by omega
 unfold cg
 simp only [r7,rU,r9,sa,sc,r6,rP,rQ,rR,rS,rT,rV,rW,rX,rY,rZ,r8,pM,jz h,ah]
 unfold ij
 rw [ayb]
 cases h1:bx ts 1 [] with
 | false=>
   simp only [cE,ak,bA,if_false]
   exact ⟨_,rfl⟩
 | true=>
   have g1:ts.tail <:+L:=ef h
   have w1:=(qy h1 h hL').1
   simp only [cH,aj,if_true,w1,jz g1,ah]
   cases h2:bx ts.tail 2 [] with
   | false=>
     simp only [cE,ak,bA,if_false]
     exact ⟨_,rfl⟩
   | true=>
     have g2:ts.tail.tail <:+L:=ef g1
     have hnm:=(Im (dN ts.tail).2.1 (hx _ (afM g1 h2))).2
     obtain ⟨_,i1,a1⟩:=qy h2 g1 hL'
     have w2:=aME h1 h2 h hL'
     simp only [cH,aj,if_true,if_pos i1,a1,hnm,ah,w2,jz g2]
     have fin:∀ (r:List Tok) (c:Int) (ws:List (List UInt8)) (nm:List UInt8),r <:+L→∀ k:Option (ba×Int×Bool),
       k=(al (!bx r 4 [59]) (some (((0:Int),(c,(ws,()))),pos L r,false)) (some (((0:Int),(c,(ws,()))),IntKind.i64.wrap (pos L r+1),true)))→
       match (if bx r 4 [59]=true then Sum.inr ((nm,(c,ws)),r.tail) else Sum.inl r:Sum (List Tok) ((List UInt8×(Int×List (List UInt8)))×List Tok)) with
       | .inl f=>∃ r':ba,k=some (r',pos L f,false)
       | .inr ((nm,(c,ws)),r')=>k=some ((0,(c,(ws,()))),pos L r',true):=by
      intro r c ws nm hr k hk
      subst hk
      cases h6:bx r 4 [59] with
      | true=>
        simp only [if_true,cH,aj,(qy h6 hr hL').1]
      | false=>
        simp only [bA,if_false,cE,ak]
        exact ⟨_,rfl⟩
     cases h3:bx ts.tail.tail 1 [105,110] with
     | false=>
       simp only [aj,bA,if_false]
       exact fin ts.tail.tail (iW (dN ts.tail).2.1).1 [] (dN ts).2.1 g2 _ rfl
     | true=>
       have g3:ts.tail.tail.tail <:+L:=ef g2
       simp only [ak,if_true]
       have hlen:=jS g3
       obtain ⟨t2,ts3,e3⟩:=lu h3
       have et:ts.tail.tail.tail=ts3:=by rw [e3]; rfl
       have hw:=fun (k0:ba→Int→Bool→Option (ba×Int×Bool)) (k1:List Tok→Int→ba→ba→Option (ba×Int×Bool)) (z r:ba) (hr:r.2.2.1=[])=>avM k0 k1 hL' z ts3.length ts3 t2 30000 r (b5 _) (by rw [←et]; omega) (by rw [←e3]; exact g2) (by rw [hr,←et]; simp only [bG]; omega)
       simp only [←e3] at hw
       simp only [←et] at hw
       have hsuf:=aya g3
       cases hp:pI ts.tail.tail.tail with
       | inl f=>
         simp only [hp] at hw
         refine hw _ _ _ _ ?_
         rfl
       | inr x=>
         obtain ⟨ws,r⟩:=x
         simp only [hp] at hw
         rw [hp] at hsuf
         refine fin r (iW (dN ts.tail).2.1).1 ws (dN ts).2.1 hsuf _ ?_
         refine Eq.trans (hw _ _ _ _ ?_) ?_
         ·rfl
         simp only [r7,rU,r9,sa,sc,r6,rP,rQ,rR,rS,rT,rV,rW,rX,rY,rZ,r8,pM,jz hsuf,ah,eC]
def ag9 (L:List Tok) (p:Int) (q:Int×Qr):Prop:=(0≤p∧p < (L.length:Int))∧(L.getD p.toNat ((0:Int),([],((0:Int),())))).2.1=q.2.1∧(L.getD p.toNat ((0:Int),([],((0:Int),())))).2.2.1=q.1
def CV (L:List Tok):List Int→List (Int×Qr)→Prop
 | [],[]=>True
 | p::ps,q::qs=>ag9 L p q∧CV L ps qs
 | _,_=>False
theorem ayl {L:List Tok}:∀ {ps:List Int} {qs:List (Int×Qr)},CV L ps qs→ps.length=qs.length
 | [],[],_=>rfl
 | _::ps,_::qs,h=>by simp only [aJ]; rw [ayl h.2]
 | [],_::_,h | _::_,[],h=>h.elim
theorem aAt {R:Type} (k0:aZ→Int→Int→Option R) (k1:aZ→List Tok→aZ→List Int→Int→Option R) (z:aZ) (nm:List UInt8) {L:List Tok} (hL:L.length < 30000) (hx:∀ t∈L,t.2.1.length < 30000):
  ∀ (n:Nat) (ts:List Tok) (m:Nat) (rs:List ba) (ns:List Int),ts.length≤n→n+1 < m→ts <:+L→rs.length+ts.length≤100000→ns.length+ts.length≤100000→
    match gR n ts with
    | .inl f=>lx (aE 30000) (bD 30000) (cg 30000) k0 k1 m z L (nm,(rs,())) ns (pos L ts)=k0 ([],([],())) (nb L f) 2
    | .inr (qs,r)=>∃ ps,CV L ps qs∧lx (aE 30000) (bD 30000) (cg 30000) k0 k1 m z L (nm,(rs,())) ns (pos L ts)=k1 z L (nm,(rs++eA qs,())) (ns++ps) (pos L r):=by
 have hL':L.length≤1000000:=by omega
 have fl:∀ (ts f:List Tok) (m:Nat) (rs:List ba) (ns:List Int),ts <:+L→bx ts 4 [125]=false→ij ts=.inl f→
   lx (aE 30000) (bD 30000) (cg 30000) k0 k1 (m+1) z L (nm,(rs,())) ns (pos L ts)=k0 ([],([],())) (nb L f) 2:=by
  intro ts f m rs ns hs h0 hp
  have hr1:=aho hs hL hx
  have hf:=HR hs
  rw [hp] at hr1 hf
  obtain ⟨r',hr1⟩:=hr1
  unfold lx
  simp only [lf,ky,kE,kV,k9,lh,lj,kp,kq,ld,kr,kx,kz,kA,kB,kC,kD,kG,kH,kI,kJ,kK,kL,kM,kO,kP,kQ,kR,kS,kT,kU,kW,kX,kY,la,kZ,lb,lg,g7,jz hs,h0,cE,ak,ah,hr1,CY hf hL']
 intro n
 induction n with
 | zero=>
   intro ts m rs ns hn hm hs hr1 hr2
   have:ts=[]:=l8.1 (by omega)
   subst this
   obtain ⟨m,rfl⟩:∃ k,m=k+1:=⟨m - 1,by omega⟩
   simp only [gR]
   exact fl [] [] m rs ns hs rfl rfl
 | succ n ih=>
   intro ts m rs ns hn hm hs hr1 hr2
   obtain ⟨m,rfl⟩:∃ k,m=k+1:=⟨m - 1,by omega⟩
   unfold gR
   cases h0:bx ts 4 [125] with
   | true=>
     simp only [if_true]
     refine ⟨[],trivial,?_⟩
     unfold lx
     simp only [lf,ky,kE,kV,k9,lh,lj,kp,kq,ld,kr,kx,kz,kA,kB,kC,kD,kG,kH,kI,kJ,kK,kL,kM,kO,kP,kQ,kR,kS,kT,kU,kW,kX,kY,la,kZ,lb,lg,g7,jz hs,h0,cH,aj,ah,eA,l9,fZ]
   | false=>
     simp only [bA,if_false]
     cases hp:ij ts with
     | inl f=>exact fl ts f m rs ns hs h0 hp
     | inr x=>
       obtain ⟨⟨nm',c,ws⟩,r⟩:=x
       have hr1':=aho hs hL hx
       rw [hp] at hr1'
       have hd:=HQ hp
       have hrs:r <:+L:=by have:=HR hs; rw [hp] at this; exact this
       have c1:∀ x:Int,ns.length+[x].length≤17592186044416:=fun x=>by simp; omega
       have c2:∀ x:ba,rs.length+[x].length≤3518437208883:=fun x=>by simp; omega
       have hst:∀ y,y=lx (aE 30000) (bD 30000) (cg 30000) k0 k1 (m+1) z L (nm,(rs,())) ns (pos L ts)→
         y=lx (aE 30000) (bD 30000) (cg 30000) k0 k1 m z L (nm,(rs++[(0,(c,(ws,())))],())) (ns++[pos L ts]) (pos L r):=by
        intro y hy
        rw [hy]
        conv=>lhs; unfold lx
        simp only [lf,ky,kE,kV,k9,lh,lj,kp,kq,ld,kr,kx,kz,kA,kB,kC,kD,kG,kH,kI,kJ,kK,kL,kM,kO,kP,kQ,kR,kS,kT,kU,kW,kX,kY,la,kZ,lb,lg,g7,jz hs,h0,cE,cH,ak,aj,ah,hr1',if_pos (c1 _),if_pos (c2 _)]
       have hi:=ih r m (rs++[(0,(c,(ws,())))]) (ns++[pos L ts]) (by omega) (by omega) hrs (by simp; omega) (by simp; omega)
       simp only
       cases hq:gR n r with
       | inl f=>
         rw [hq] at hi
         exact (hst _ rfl).trans hi
       | inr x=>
         obtain ⟨qs,r'⟩:=x
         rw [hq] at hi
         obtain ⟨ps,hps,hi⟩:=hi
         obtain ⟨_,i1,a1⟩:=qy hd.2.1 hs hL'
         refine ⟨pos L ts::ps,⟨⟨i1,?_,?_⟩,hps⟩,((hst _ rfl).trans hi).trans ?_⟩
         ·rw [a1]; exact hd.2.2.symm
         ·rw [a1]
         ·simp only [eA,fG,bX,qF]
def kF (s:List UInt8):List (List UInt8)→Int→Int→Int
 | [],_,c=>c
 | n::r,k,c=>kF s r (k+1) (if n=s then k else c)
theorem agb (s:List UInt8):∀ (l:List (List UInt8)) (k c:Int),s∉l→kF s l k c=c
 | [],_,_,_=>rfl
 | n::r,k,c,h=>by
   simp only [dG,not_or] at h
   simp only [kF]
   rw [if_neg (fun e=>h.1 e.symm),agb s r _ _ h.2]
theorem aga (s:List UInt8):∀ (l:List (List UInt8)) (k c:Int),l.Nodup→kF s l k c=if s∈l then qd s l k else c
 | [],_,_,_=>rfl
 | n::r,k,c,h=>by
   rw [List.nodup_cons] at h
   simp only [kF,qd]
   by_cases hn:n=s
   ·subst hn
    rw [if_pos rfl,if_pos rfl,if_pos (oH ..),agb n r _ _ h.1]
   ·rw [if_neg hn,if_neg hn,aga s r _ _ h.2]
    have:(s∈n::r)↔s∈r:=by
     rw [dG]
     exact ⟨fun h=>h.resolve_left fun e=>hn e.symm,Or.inr⟩
    by_cases hm:s∈r
    ·rw [if_pos hm,if_pos (this.2 hm)]
    ·rw [if_neg hm,if_neg (fun e=>hm (this.1 e))]
theorem agf (s:List UInt8):∀ (l:List (List UInt8)) (k:Int),s∉l→qd s l k=0
 | [],_,_=>rfl
 | n::r,k,h=>by
   simp only [dG,not_or] at h
   simp only [qd]
   rw [if_neg (fun e=>h.1 e.symm),agf s r _ h.2]
theorem aon (s:List UInt8):kF s kN 1 0=fy s:=by
 rw [aga s kN 1 0 (by decide)]
 unfold fy
 by_cases hm:s∈kN
 ·rw [if_pos hm]
 ·rw [if_neg hm,agf s kN 1 hm]
theorem aAr {R:Type} (k0:aZ→List Tok→aZ→List Int→Int→Int→Option R) (z:aZ) (L:List Tok) (nm:List UInt8) (pr ys:List ba) (np nps:List Int) (p:Int) (q:Int×Qr) (c:Int) (w:List (List UInt8)×Unit) (hp:ag9 L p q) (hl:np.length=pr.length):
  ∀ (d n m:Nat) (k:Int),n+d=12→d < m→
    uW (aV 30000) k0 m z L (nm,(pr++(k,(c,w))::ys,())) (np++p::nps) (pr.length:Int) ((n+1:Nat):Int)=k0 z L (nm,(pr++(kF q.2.1 (kN.drop n) ((n+1:Nat):Int) k,(c,w))::ys,())) (np++p::nps) (pr.length:Int) 13:=by
 have e1:(0≤(pr.length:Int)∧(pr.length:Int) < ((np++p::nps).length:Int))=True:=by rw [←hl]; exact dt ..
 have e2:((pr.length:Int).toNat < (np++p::nps).length)=True:=by rw [←hl]; exact qh ..
 have e3:∀ d,(np++p::nps).getD (pr.length:Int).toNat d=p:=fun d=>by rw [←hl]; exact dp ..
 intro d
 induction d with
 | zero=>
   intro n m k hn hm
   have:n=12:=by omega
   subst this
   obtain ⟨m,rfl⟩:∃ k,m=k+1:=⟨m - 1,by omega⟩
   unfold uW
   have d:decide (((12+1:Nat):Int)≤12)=false:=by decide
   simp only [lf,ky,kE,kV,k9,lh,lj,kp,kq,ld,kr,kx,kz,kA,kB,kC,kD,kG,kH,kI,kJ,kK,kL,kM,kO,kP,kQ,kR,kS,kT,kU,kW,kX,kY,la,kZ,lb,lg,g7,d,aj]
   rfl
 | succ d ih=>
   intro n m k hn hm
   obtain ⟨m,rfl⟩:∃ k,m=k+1:=⟨m - 1,by omega⟩
   have dd:decide (((n+1:Nat):Int)≤12)=true:=decide_eq_true (by omega)
   have hl2:n < kN.length:=by show n < 12; omega
   have wr:IntKind.i64.wrap (((n+1:Nat):Int)+1)=((n+1+1:Nat):Int):=by rw [dA (by omega)]; omega
   have hd:kN.drop n=kN.getD n []::kN.drop (n+1):=by
    rw [Sz hl2,Dm,fr hl2]; rfl
   rw [hd]
   simp only [kF]
   conv=>lhs; unfold uW
   simp only [lf,ky,kE,kV,k9,lh,lj,kp,kq,ld,kr,kx,kz,kA,kB,kC,kD,kG,kH,kI,kJ,kK,kL,kM,kO,kP,kQ,kR,kS,kT,kU,kW,kX,kY,la,kZ,lb,lg,g7,dd,ak,(Il n (by omega)).2,ah,e1,e2,e3,if_true,if_pos hp.1,hp.2.1,wr,dt,qh,dp,H2]
   by_cases he:kN.getD n []=q.2.1
   ·have eb:(kN.getD n []==q.2.1)=true:=by simpa using he
    rw [if_pos he,eb,ak]
    exact ih (n+1) m ((n+1:Nat):Int) (by omega) (by omega)
   ·have eb:(kN.getD n []==q.2.1)=false:=by simpa using he
    rw [if_neg he,eb,aj]
    exact ih (n+1) m k (by omega) (by omega)
theorem rkk {R:Type} (k0:aZ→Int→Int→Option R) (k1:aZ→List Tok→aZ→List Int→Int→Option R) (z:aZ) (L:List Tok) (nm:List UInt8):
  ∀ (ys pre:List (Int×Qr)) (pp py:List Int) (m:Nat),ys.length < m→(pre++ys).length≤100000→pp.length=pre.length→CV L py ys→
    match pK ys with
    | some ln=>ot 30000 (aV 30000) k0 k1 m z L (nm,(ee pre++eA ys,())) (pp++py) (pre.length:Int)=k0 ([],([],())) ln 9
    | none=>ot 30000 (aV 30000) k0 k1 m z L (nm,(ee pre++eA ys,())) (pp++py) (pre.length:Int)=k1 z L (nm,(ee (pre++ys),())) (pp++py) ((pre++ys).length:Int):=by
 intro ys
 induction ys with
 | nil=>
   intro pre pp py m hm hb hl hp
   cases py with
   | cons=>exact hp.elim
   | nil=>
     obtain ⟨m,rfl⟩:∃ k,m=k+1:=⟨m - 1,by simp at hm; omega⟩
     simp only [pK]
     unfold ot
     have:decide ((pre.length:Int) < (pp.length:Int))=false:=decide_eq_false (by omega)
     simp only [lf,ky,kE,kV,k9,lh,lj,kp,kq,ld,kr,kx,kz,kA,kB,kC,kD,kG,kH,kI,kJ,kK,kL,kM,kO,kP,kQ,kR,kS,kT,kU,kW,kX,kY,la,kZ,lb,lg,g7,fZ,this,aj,eA,l9]
 | cons y ys ih=>
   intro pre pp py m hm hb hl hp
   cases py with
   | nil=>exact hp.elim
   | cons p py=>
     obtain ⟨hp,hps⟩:=hp
     obtain ⟨m,rfl⟩:∃ k,m=k+1:=⟨m - 1,by simp at hm; omega⟩
     have hl1:(ee pre).length=pre.length:=by simp [ee]
     have e1:eA (y::ys)=(0,(y.2.2.1,(y.2.2.2,())))::eA ys:=rfl
     have lc:decide ((pre.length:Int) < ((pp++p::py).length:Int))=true:=decide_eq_true (by simp only [a8,aJ]; omega)
     have f1:ee pre++(fy y.2.1,(y.2.2.1,(y.2.2.2,())))::eA ys=ee (pre++[y])++eA ys:=by simp [ee]
     have f2:pp++p::py=(pp++[p])++py:=by simp
     have b1:(0≤(pre.length:Int)∧(pre.length:Int) < ((ee pre++(fy y.2.1,(y.2.2.1,(y.2.2.2,())))::eA ys).length:Int))=True:=by rw [←hl1]; exact dt ..
     have b2:((pre.length:Int).toNat < (ee pre++(fy y.2.1,(y.2.2.1,(y.2.2.2,())))::eA ys).length)=True:=by rw [←hl1]; exact qh ..
     have b3:∀ d,(ee pre++(fy y.2.1,(y.2.2.1,(y.2.2.2,())))::eA ys).getD (pre.length:Int).toNat d=(fy y.2.1,(y.2.2.1,(y.2.2.2,()))):=fun d=>by rw [←hl1]; exact dp ..
     have c1:(0≤(pre.length:Int)∧(pre.length:Int) < ((pp++p::py).length:Int))=True:=by rw [←hl]; exact dt ..
     have c2:((pre.length:Int).toNat < (pp++p::py).length)=True:=by rw [←hl]; exact qh ..
     have c3:∀ d,(pp++p::py).getD (pre.length:Int).toNat d=p:=fun d=>by rw [←hl]; exact dp ..
     have wr:IntKind.i64.wrap ((pre.length:Int)+1)=((pre++[y]).length:Int):=by rw [dA (by simp only [a8,aJ] at hb; omega)]; simp
     have hin:=fun k0=>aAr (R:=R) k0 z L nm (ee pre) (eA ys) pp py p y y.2.2.1 (y.2.2.2,()) hp (by rw [hl1,hl]) 12 0 30000 0 rfl (by omega)
     rw [List.drop_zero] at hin
     have k1e:kF y.2.1 kN ((0+1:Nat):Int) 0=fy y.2.1:=aon y.2.1
     simp only [k1e,hl1] at hin
     rw [e1]
     have hst:∀ o,o=ot 30000 (aV 30000) k0 k1 (m+1) z L (nm,(ee pre++(0,(y.2.2.1,(y.2.2.2,())))::eA ys,())) (pp++p::py) (pre.length:Int)→
       o=al (fy y.2.1==0) (k0 ([],([],())) y.1 9) (ot 30000 (aV 30000) k0 k1 m z L (nm,(ee (pre++[y])++eA ys,())) ((pp++[p])++py) ((pre++[y]).length:Int)):=by
      intro o ho
      rw [ho]
      conv=>lhs; unfold ot
      simp only [lf,ky,kE,kV,k9,lh,lj,kp,kq,ld,kr,kx,kz,kA,kB,kC,kD,kG,kH,kI,kJ,kK,kL,kM,kO,kP,kQ,kR,kS,kT,kU,kW,kX,kY,la,kZ,lb,lg,g7,lc,ak]
      refine (hin _).trans ?_
      simp only [lf,ky,kE,kV,k9,lh,lj,kp,kq,ld,kr,kx,kz,kA,kB,kC,kD,kG,kH,kI,kJ,kK,kL,kM,kO,kP,kQ,kR,kS,kT,kU,kW,kX,kY,la,kZ,lb,lg,g7,b1,b2,b3,c1,c2,c3,if_true,if_pos hp.1,hp.2.2,wr]
      rw [f1,f2]
     have hi:=ih (pre++[y]) (pp++[p]) py m (by simpa using hm) (by rw [←bP]; exact hb) (by simp [hl]) hps
     simp only [pK]
     by_cases hz:fy y.2.1=0
     ·have eb:(fy y.2.1==0)=true:=by simpa using hz
      rw [if_pos hz]
      simp only
      refine (hst _ rfl).trans ?_
      rw [eb,ak]
     ·have eb:(fy y.2.1==0)=false:=by simpa using hz
      rw [if_neg hz]
      cases hpk:pK ys with
      | some ln=>
        rw [hpk] at hi
        refine (hst _ rfl).trans ?_
        rw [eb,aj]; exact hi
      | none=>
        rw [hpk] at hi
        refine (hst _ rfl).trans ?_
        rw [eb,aj]
        refine hi.trans ?_
        rw [←bP,←bP]
theorem aMV (s:List UInt8) (hs:s.length+2 < 30000) (h2:s.length≤20000):S7 30000 s=some (lB s):=by
 have hbd:=ahT s
 have hL2:(tk s).1.length+2 < 30000:=by omega
 have hL:(tk s).1.length < 30000:=by omega
 have hL':(tk s).1.length≤1000000:=by omega
 have hx:∀ t∈(tk s).1,t.2.1.length < 30000:=fun t ht=>by have:=hbd.2 t ht; omega
 unfold S7 lB
 simp only [lf,ky,kE,kV,k9,lh,lj,kp,kq,ld,kr,kx,kz,kA,kB,kC,kD,kG,kH,kI,kJ,kK,kL,kM,kO,kP,kQ,kR,kS,kT,kU,kW,kX,kY,la,kZ,lb,lg,g7,(ah3 s (by omega) h2).2,ah]
 by_cases he:(tk s).2.2=0
 ·have e1:((tk s).2.2 != 0)=false:=by simpa using he
  rw [if_pos he]
  simp only [e1,aj]
  have hLs:(tk s).1.length≤20000:=by omega
  generalize (tk s).1=L at hL hL2 hL' hx hLs
  clear hbd he e1
  have hs0:L <:+L:=SG L
  have hs1:L.tail <:+L:=ef hs0
  have hs2:L.tail.tail <:+L:=ef hs1
  have hs3:L.tail.tail.tail <:+L:=ef hs2
  have i0:=jz hs0
  have f0:=CY hs0 hL'
  rw [R5] at i0 f0
  unfold CR
  simp only [i0,ah]
  cases h1:bx L 1 [108,105,99,101,110,99,101] with
  | false=>simp only [cE,ak,f0,ah,bA,if_false]
  | true=>
    have w1:=(qy h1 hs0 hL').1
    have p1:pos L L.tail=1:=by rw [←w1,R5]; rfl
    have i1:=jz hs1
    have f1:=CY hs1 hL'
    rw [p1] at i1 f1
    simp only [cH,aj,i1,ah,if_true]
    cases h2:bx L.tail 1 [] with
    | false=>simp only [cE,ak,f1,ah,bA,if_false]
    | true=>
      obtain ⟨w2,b2,a2⟩:=qy h2 hs1 hL'
      have p2:pos L L.tail.tail=2:=by rw [←w2,p1]; rfl
      have i2:=jz hs2
      have f2:=CY hs2 hL'
      rw [p2] at i2 f2
      rw [p1] at b2 a2
      simp only [cH,aj,i2,ah,if_true]
      cases h3:bx L.tail.tail 4 [123] with
      | false=>simp only [cE,ak,f2,ah,bA,if_false]
      | true=>
        obtain ⟨w3,_,_⟩:=qy h3 hs2 hL'
        have p3:pos L L.tail.tail.tail=3:=by rw [←w3,p2]; rfl
        simp only [cH,aj,if_true,if_pos b2,a2]
        have hlen:=jS hs3
        have hp:=fun (k0:aZ→Int→Int→Option (aZ×Int×Int)) (k1:aZ→List Tok→aZ→List Int→Int→Option (aZ×Int×Int)) (z:aZ) (nm:List UInt8)=>aAt k0 k1 z nm hL hx L.length L.tail.tail.tail 30000 [] [] (jS hs3) (by omega) hs3 (by simp only [bG]; omega) (by simp only [bG]; omega)
        have hsf:=R2 L.length L.tail.tail.tail hs3
        simp only [p3] at hp
        cases hq:gR L.length L.tail.tail.tail with
        | inl f=>
          simp only [hq] at hp
          exact hp _ _ _ _
        | inr x=>
          obtain ⟨qs,r⟩:=x
          rw [hq] at hsf
          simp only [hq] at hp
          obtain ⟨hr,hi,hql⟩:=hsf
          have hrt:r.tail <:+L:=ef hr
          obtain ⟨wr,_,_⟩:=qy hi hr hL'
          have hp2:∀ (k0:aZ→Int→Int→Option (aZ×Int×Int)) (k1:aZ→List Tok→aZ→List Int→Int→Option (aZ×Int×Int)) (z:aZ) (nm:List UInt8) (o:Option (aZ×Int×Int)),(∀ ps,CV L ps qs→k1 z L (nm,(eA qs,())) ps (pos L r)=o)→
            lx (aE 30000) (bD 30000) (cg 30000) k0 k1 30000 z L (nm,([],())) [] 3=o:=by
           intro k0 k1 z nm o ho
           obtain ⟨ps,h5,h6⟩:=hp k0 k1 z nm
           rw [h6]
           exact ho ps h5
          refine hp2 _ _ _ _ _ ?_
          intro ps hps
          simp only [lf,ky,kE,kV,k9,lh,lj,kp,kq,ld,kr,kx,kz,kA,kB,kC,kD,kG,kH,kI,kJ,kK,kL,kM,kO,kP,kQ,kR,kS,kT,kU,kW,kX,kY,la,kZ,lb,lg,g7,wr]
          have hpt:(pos L r.tail != (L.length:Int))=!r.tail.isEmpty:=by
           have:=vh hrt
           have hle:=jS hrt
           unfold pos
           cases r.tail with
           | nil=>simp
           | cons t q=>simp only [aJ] at *; simp; omega
          rw [hpt]
          have fl:=CY hrt hL'
          cases hr0:r.tail with
          | cons t rr=>
            rw [hr0] at fl
            simp only [vJ,cE,ak,if_false,reduceCtorEq,fl,ah]
          | nil=>
            simp only [IK,cH,aj,if_true,CS]
            have hk:=fun (k0:aZ→Int→Int→Option (aZ×Int×Int)) (k1:aZ→List Tok→aZ→List Int→Int→Option (aZ×Int×Int)) (z:aZ) (nm:List UInt8)=>rkk k0 k1 z L nm qs [] [] ps 30000 (by omega) (by simp only [eC]; omega) rfl hps
            simp only [eC,bG,oE] at hk
            have e0:ee []=[]:=rfl
            simp only [e0,eC] at hk
            cases hz:pK qs with
            | some ln=>
              simp only [hz] at hk
              exact hk _ _ _ _
            | none=>
              simp only [hz] at hk
              refine (hk _ _ _ _).trans ?_
              simp only [Ii,ah]
              exact fin _ _
 ·have e1:((tk s).2.2 != 0)=true:=by simpa using he
  rw [if_neg he]
  simp only [e1,ak]
theorem aok (s:List UInt8):ju s=(decide (s≠[])&&(decide (s.length≤20)&&decide (eW s=s.length))):=by
 unfold ju eY
 simp only [Hj,Hk,yW]
 by_cases h0:s=[]
 ·subst h0; rfl
 ·have e0:(s != ([]:List UInt8))=true:=by simpa using h0
  have e1:decide (s≠[])=true:=decide_eq_true h0
  simp only [e0,e1,ak,iX]
  by_cases h1:s.length≤20
  ·have d:decide ((s.length:Int)≤20)=true:=decide_eq_true (by omega)
   have e2:decide (s.length≤20)=true:=decide_eq_true h1
   simp only [d,e2,ak,iX,(vnm s (by omega)).2,ah]
   by_cases h2:eW s=s.length
   ·simp [h2]
   ·have:((eW s:Int)==(s.length:Int))=false:=by simpa using fun h=>h2 (by omega)
    rw [this,decide_eq_false h2]
  ·have d:decide ((s.length:Int)≤20)=false:=decide_eq_false (by omega)
   have e2:decide (s.length≤20)=false:=decide_eq_false h1
   simp only [d,e2,aj,lG]
theorem Rm {s:List UInt8} (h:ju s=true):s≠[]∧s.length≤20∧eW s=s.length:=by
 rw [aok] at h
 simpa using h
def jI:List UInt8→Bool
 | []=>true
 | c::_=>!fm c&&(!bB c&&(c.toNat != 45))
theorem agS {r:List UInt8} (h:jI r=true):gD r=0:=by
 cases r with
 | nil=>rfl
 | cons c t=>
   simp only [jI,aB,dX,bne_iff_ne,ne_eq] at h
   obtain ⟨h1,h2,h3⟩:=h
   unfold gD
   simp [h1,h2,h3]
theorem RS {r:List UInt8} (h:jI r=true):∀ (n:Nat) (p:List UInt8),p.length≤n→gD p=p.length→gD (p++r)=p.length
 | _,[],_,_=>agS h
 | 0,_::_,hn,_=>by simp at hn
 | n+1,[c],hn,hp=>by
   unfold gD at hp ⊢
   simp only [dQ,eC,IL]
   by_cases h1:(fm c || bB c)=true
   ·rw [if_pos h1,agS h]
   ·rw [if_neg h1] at hp
    split at hp<;>simp at hp
 | n+1,c::d::t,hn,hp=>by
   unfold gD at hp ⊢
   simp only [dQ,aJ] at hn hp ⊢
   by_cases h1:(fm c || bB c)=true
   ·rw [if_pos h1] at hp ⊢
    have:=RS h n (d::t) (by simp only [aJ]; omega) (by simp only [aJ]; omega)
    simp only [dQ,aJ] at this
    rw [this]
   ·rw [if_neg h1] at hp ⊢
    by_cases h2:c.toNat=45
    ·rw [if_pos h2] at hp ⊢
     by_cases h3:(fm d || bB d)=true
     ·simp only [h3,if_true] at hp ⊢
      rw [RS h n t (by omega) (by omega)]
     ·simp only [h3,bA,if_false] at hp
      omega
    ·rw [if_neg h2] at hp
     omega
theorem awR {p r:List UInt8} (h:jI r=true) (h0:p≠[]) (hp:eW p=p.length):eW (p++r)=p.length:=by
 cases p with
 | nil=>exact absurd rfl h0
 | cons c s=>
   simp only [eW,dQ,aJ] at hp ⊢
   split at hp
   ·rename_i h1
    rw [if_pos h1,RS h _ s (b5 _) (by omega)]
   ·omega
theorem Et (p:UInt8→Bool):∀ (a r:List UInt8),(∀ c∈a,p c=true)→(match r with | []=>true | c::_=>!p c)=true→aS p (a++r)=a.length
 | [],[],_,_=>rfl
 | [],c::r,_,h=>by
   simp only [dX] at h
   simp [aS,h]
 | c::a,r,ha,h=>by
   simp only [dQ,aS,ha c (by simp),if_true,aJ]
   rw [Et p a r (fun x hx=>ha x (by simp [hx])) h]
def Good (t:Int×List UInt8):Prop:=
 (t.1=1∧ju t.2=true)∨(t.1=2∧t.2≠[]∧t.2.length≤6∧(∀ c∈t.2,bB c=true)∧(2≤t.2.length→∀ c r,t.2=c::r→c.toNat≠48))∨
 (t.1=3∧(∀ c∈t.2,bO c=true)∧t.2.length≤60)∨(t.1=4∧∃ c,t.2=[c]∧qv c=true∧fm c=false∧bB c=false∧c.toNat≠34∧c.toNat≠10∧eG c=false∧c.toNat≠35)
def piece (t:Int×List UInt8):List UInt8:=if t.1=3 then 34::(t.2++[34]) else t.2
theorem aAX {c:UInt8} (h:fm c=true):bB c=false∧c.toNat≠34∧c.toNat≠10∧eG c=false∧c.toNat≠35:=by
 have:97≤c.toNat∧c.toNat≤122:=by
  unfold fm sm at h
  simp only [aB,decide_eq_true_eq] at h
  omega
 refine ⟨?_,by omega,by omega,?_,by omega⟩
 ·unfold bB dg
  have:decide ((c.toNat:Int)≤57)=false:=decide_eq_false (by omega)
  rw [this,Ss]
 ·unfold eG
  simp; omega
theorem aiX {c:UInt8} (h:bB c=true):fm c=false∧c.toNat≠34∧c.toNat≠10∧eG c=false∧c.toNat≠35:=by
 have:=ET h
 refine ⟨?_,by omega,by omega,?_,by omega⟩
 ·unfold fm sm
  have:decide ((c.toNat:Int)≥97)=false:=decide_eq_false (by omega)
  rw [this,lG]
 ·unfold eG
  simp; omega
theorem awU {t:Int×List UInt8} (h:Good t) {r:List UInt8} (hr:jI r=true):
  nx (piece t++r)=.inr (t.1,t.2,(piece t).length)∧∃ c q,piece t=c::q∧c.toNat≠10∧eG c=false∧c.toNat≠35:=by
 obtain ⟨k,x⟩:=t
 rcases h with ⟨h1,h2⟩ | ⟨h1,h2,h3,h4,h5⟩ | ⟨h1,h2,h3⟩ | ⟨h1,c,h2,h3,h4,h5,h6,h7,h8,h9⟩
 ·simp only at h1 h2
  subst h1
  obtain ⟨g1,g2,g3⟩:=Rm h2
  have e:piece (1,x)=x:=rfl
  rw [e]
  have hn:=awR hr g1 g3
  cases x with
  | nil=>exact absurd rfl g1
  | cons c q=>
    have hc:fm c=true:=by
     simp only [eW,aJ] at g3
     split at g3
     ·assumption
     ·omega
    have hs:=aAX hc
    refine ⟨?_,c,q,rfl,hs.2.2⟩
    simp only [dQ] at hn
    simp only [dQ,nx,hc,if_true,hn]
    rw [if_neg (by omega),←dQ,qH]
 ·simp only at h1 h2 h3 h4 h5
  subst h1
  have e:piece (2,x)=x:=rfl
  rw [e]
  have hn:=Et bB x r h4 (by
   cases r with
   | nil=>rfl
   | cons c t=>
     simp only [jI,aB] at hr
     exact hr.2.1)
  cases x with
  | nil=>exact absurd rfl h2
  | cons c q=>
    have hc:=h4 c (by simp)
    have hs:=aiX hc
    refine ⟨?_,c,q,rfl,hs.2.2⟩
    simp only [dQ] at hn
    simp only [dQ,nx,hc,hs.1,if_true,hn,bA,if_false]
    rw [if_neg (by omega),if_neg (by
     rintro ⟨a,b⟩
     exact h5 (by omega) c q rfl a),←dQ,qH]
 ·simp only at h1 h2 h3
  subst h1
  have e:piece (3,x)=34::(x++[34]):=rfl
  rw [e]
  have hn:=Et bO x (34::r) h2 rfl
  refine ⟨?_,34,_,rfl,by decide,by decide,by decide⟩
  have q1:fm 34=false:=by decide
  have q2:bB 34=false:=by decide
  have q3:(34:UInt8).toNat=34:=rfl
  have q4:fe (x++34::r)=(0,x):=by
   unfold fe
   rw [hn]
   simp only [vH,qH]
   rw [if_neg (by decide),if_neg (by omega)]
  simp only [dQ,bX,eC,nx,q1,q2,q3,q4,bA,if_false,if_true,aJ,a8,bG]
 ·simp only at h1 h2
  subst h1 h2
  have e:piece (4,[c])=[c]:=rfl
  rw [e]
  refine ⟨?_,c,[],rfl,h7,h8,h9⟩
  simp only [dQ,eC,nx,h3,h4,h5,h6,bA,if_false,if_true,IL]
def TK (s:List UInt8) (ks:List (Int×List UInt8)):Prop:=∀ l,∃ ts,dz s.length l s=.inr ts∧ts.map (fun t=>(t.1,t.2.1))=ks
theorem TK.nil:TK [] []:=fun l=>⟨[],rfl,rfl⟩
theorem TK.sp {s:List UInt8} {ks} (h:TK s ks):TK (32::s) ks:=by
 intro l
 obtain ⟨ts,h1,h2⟩:=h l
 exact ⟨ts,by simp only [aJ,dz]; exact h1,h2⟩
theorem TK.jT {s:List UInt8} {ks} (h:TK s ks):TK (9::s) ks:=by
 intro l
 obtain ⟨ts,h1,h2⟩:=h l
 exact ⟨ts,by simp only [aJ,dz]; exact h1,h2⟩
theorem TK.nl {s:List UInt8} {ks} (h:TK s ks):TK (10::s) ks:=by
 intro l
 obtain ⟨ts,h1,h2⟩:=h (l+1)
 exact ⟨ts,by simp only [aJ,dz]; exact h1,h2⟩
theorem TK.cm {s:List UInt8} {ks} (h:TK s ks):TK (35::32::99::10::s) ks:=by
 intro l
 obtain ⟨ts,h1,h2⟩:=h.nl l
 refine ⟨ts,?_,h2⟩
 rw [←h1]
 exact sV _ _ l (10::s) (by simp) (b5 _)
theorem TK.tok {t:Int×List UInt8} (hg:Good t) {r:List UInt8} {ks} (hr:jI r=true) (h:TK r ks):TK (piece t++r) (t::ks):=by
 intro l
 obtain ⟨ts,h1,h2⟩:=h l
 obtain ⟨hn,c,q,hq,g1,g2,g3⟩:=awU hg hr
 refine ⟨(t.1,(t.2,(l,())))::ts,?_,by simp [h2]⟩
 have hl:(piece t++r).length=(q++r).length+1:=by rw [hq]; simp
 have hd:(piece t++r).drop (piece t).length=r:=vH
 rw [hl]
 rw [hq] at hn hd ⊢
 simp only [dQ] at hn hd ⊢
 simp only [dz,if_neg g1,g2,bA,if_false,if_neg g3,hn]
 rw [hd,sV (q++r).length r.length l r (by simp) (b5 _),h1]
def Oa (n:Nat):List UInt8:=if n < 10 then [gd (48+n)] else if n / 10 < 10 then [gd (48+n / 10),gd (48+n % 10)] else [gd (48+n / 10 / 10),gd (48+n / 10 % 10),gd (48+n % 10)]
def ey (n:Int):List UInt8:=Oa n.toNat
theorem aiY:((oJ 1000).all fun n=>decide ((ey (n:Int)).length≤3)&&(ov (ey (n:Int))&&(iW (ey (n:Int))==((n:Int),true))))=true:=by kernel_rfl
theorem Da {n:Int} (h:0≤n∧n≤999):True∧(ey n).length≤3∧ov (ey n)=true∧iW (ey n)=(n,true):=by
 have:=gl.1 aiY n.toNat (oI.2 (by omega))
 have e:((n.toNat:Nat):Int)=n:=by omega
 rw [e] at this
 exact ⟨trivial,by simpa only [aB,beq_iff_eq,decide_eq_true_eq] using this⟩
def dI (k:Int):List UInt8:=kN.getD (k.toNat - 1) []
theorem aop:((oJ 12).all fun n=>ju (dI ((n+1:Nat):Int))&&(decide ((dI ((n+1:Nat):Int)).length≤11)&&(fy (dI ((n+1:Nat):Int))==((n+1:Nat):Int))))=true:=by kernel_rfl
theorem vz {k:Int} (h:1≤k∧k≤12):aV 30000 k=some (dI k)∧ju (dI k)=true∧(dI k).length≤11∧fy (dI k)=k:=by
 have:=gl.1 aop (k.toNat - 1) (oI.2 (by omega))
 have h2:=(Il (k.toNat - 1) (by omega)).2
 have e:((k.toNat - 1+1:Nat):Int)=k:=by omega
 rw [e] at this h2
 simp only [aB,beq_iff_eq,decide_eq_true_eq] at this
 exact ⟨h2,this⟩
theorem avj:((oJ 256).all fun n=>!lS (n:Int) || bO (gd n))=true:=by kernel_rfl
theorem avh {c:UInt8} (h:lS (c.toNat:Int)=true):bO c=true:=by
 have:=gl.1 avj c.toNat (oI.2 c.toNat_lt)
 rw [h] at this
 simpa using this
def hM (ws:List (List UInt8)):List (Int×List UInt8):=ws.flatMap fun w=> [(4,[44]),(3,w)]
def jM:List (List UInt8)→List (Int×List UInt8)
 | []=> []
 | w::ws=>(1,[105,110])::(3,w)::hM ws
def gi (r:ba):List (Int×List UInt8):=(1,dI r.1)::(2,ey r.2.1)::(jM r.2.2.1++[(4,[59])])
def sG (l:aZ):List (Int×List UInt8):=(1,[108,105,99,101,110,99,101])::(1,l.1)::(4,[123])::(l.2.1.flatMap gi++[(4,[125])])
def kt (t:Tok):Int×List UInt8:=(t.1,t.2.1)
theorem jv {ts:List Tok} {k:Int} {x:List UInt8} {ks} (h:ts.map kt=(k,x)::ks) (k':Int) (s:List UInt8):bx ts k' s=((k==k')&&((s==[]) || (x==s)))∧(dN ts).2.1=x∧ts.tail.map kt=ks:=by
 cases ts with
 | nil=>cases h
 | cons t r=>
   simp only [fG,iZ,kt,eL] at h
   obtain ⟨⟨h1,h2⟩,h3⟩:=h
   refine ⟨?_,h2,h3⟩
   simp only [bx,h1,h2]
theorem ag8:∀ (ws:List (List UInt8)) (ts:List Tok) (ks:List (Int×List UInt8)),ts.map kt=hM ws++(4,[59])::ks→∃ r,pW ts=.inr (ws,r)∧r.map kt=(4,[59])::ks
 | [],ts,ks,h=>by
   have h:ts.map kt=(4,[59])::ks:=h
   have hi:=(jv h 4 [44]).1
   have hi:bx ts 4 [44]=false:=hi.trans (by decide)
   match ts,h,hi with
   | [c],h,hi=>exact ⟨[c],by simp only [pW,hi,bA,if_false],h⟩
   | c::q::r,h,hi=>exact ⟨c::q::r,by simp only [pW,hi,bA,if_false],h⟩
 | w::ws,ts,ks,h=>by
   have h:ts.map kt=(4,[44])::(3,w)::(hM ws++(4,[59])::ks):=h
   match ts,h with
   | [c],h=>simp at h
   | c::q::r,h=>
     have a1:=jv h 4 [44]
     have a2:=jv a1.2.2 3 []
     have i1:bx (c::q::r) 4 [44]=true:=a1.1.trans (by decide)
     have i2:bx (q::r) 3 []=true:=a2.1.trans (by simp)
     obtain ⟨r',g1,g2⟩:=ag8 ws r ks a2.2.2
     refine ⟨r',?_,g2⟩
     have e:q.2.1=w:=a2.2.1
     simp only [pW,i1,i2,if_true,g1,e]
theorem ayd (r:ba) (hc:0≤r.2.1∧r.2.1≤999) (ts:List Tok) (ks:List (Int×List UInt8)) (h:ts.map kt=gi r++ks):
  ∃ t',ij ts=.inr ((dI r.1,(r.2.1,r.2.2.1)),t')∧t'.map kt=ks:=by
 obtain ⟨k,c,ws,u⟩:=r
 have hn:=(Da hc).2.2.2
 simp only at hn
 have h:ts.map kt=(1,dI k)::(2,ey c)::((jM ws++[(4,[59])])++ks):=h
 have a1:=jv h 1 []
 have a2:=jv a1.2.2 2 []
 have i1:bx ts 1 []=true:=a1.1.trans (by simp)
 have i2:bx ts.tail 2 []=true:=a2.1.trans (by simp)
 unfold ij
 simp only [i1,i2,if_true,a1.2.1,a2.2.1,hn]
 have h3:=a2.2.2
 rw [bX,qF] at h3
 have hp:∃ t,qo ts.tail.tail=.inr (ws,t)∧t.map kt=(4,[59])::ks:=by
  unfold qo
  cases ws with
  | nil=>
    have a3:=jv (h3:_=(4,[59])::ks) 1 [105,110]
    have i3:bx ts.tail.tail 1 [105,110]=false:=a3.1.trans (by decide)
    rw [i3]
    exact ⟨_,rfl,h3⟩
  | cons w ws=>
    have h3:ts.tail.tail.map kt=(1,[105,110])::(3,w)::(hM ws++(4,[59])::ks):=h3
    have a3:=jv h3 1 [105,110]
    have a4:=jv a3.2.2 3 []
    have i3:bx ts.tail.tail 1 [105,110]=true:=a3.1.trans (by decide)
    have i4:bx ts.tail.tail.tail 3 []=true:=a4.1.trans (by simp)
    obtain ⟨t,g1,g2⟩:=ag8 ws _ ks a4.2.2
    simp only [i3,i4,if_true,g1,a4.2.1]
    exact ⟨t,rfl,g2⟩
 obtain ⟨t,g1,g2⟩:=hp
 have a5:=jv g2 4 [59]
 have i5:bx t 4 [59]=true:=a5.1.trans (by decide)
 simp only [g1,i5,if_true]
 exact ⟨_,rfl,a5.2.2⟩
theorem ag7:∀ (rs:List ba) (n:Nat) (ts:List Tok),(∀ r∈rs,0≤r.2.1∧r.2.1≤999)→ts.length≤n→ts.map kt=rs.flatMap gi++[(4,[125])]→
  ∃ qs t',gR n ts=.inr (qs,t')∧t'.map kt=[(4,[125])]∧qs.map (·.2)=rs.map fun r=>(dI r.1,(r.2.1,r.2.2.1))
 | [],n,ts,_,hn,h=>by
   have h:ts.map kt=[(4,[125])]:=h
   have hl:ts.length=1:=by simpa using congrArg lJ h
   obtain ⟨n,rfl⟩:∃ k,n=k+1:=⟨n - 1,by omega⟩
   have i:bx ts 4 [125]=true:=(jv h 4 [125]).1.trans (by decide)
   exact ⟨[],ts,by simp only [gR,i,if_true],h,rfl⟩
 | r::rs,n,ts,hc,hn,h=>by
   have h:ts.map kt=gi r++(rs.flatMap gi++[(4,[125])]):=by rw [h,qE,bX]
   have i:bx ts 4 [125]=false:=by
    have h':ts.map kt=(1,dI r.1)::((2,ey r.2.1)::(jM r.2.2.1++[(4,[59])])++(rs.flatMap gi++[(4,[125])])):=h
    exact (jv h' 4 [125]).1.trans (by rw [show ((1:Int)==4)=false from rfl]; rfl)
   obtain ⟨t',g1,g2⟩:=ayd r (hc r (by simp)) ts _ h
   have hd:=(HQ g1).1
   obtain ⟨n,rfl⟩:∃ k,n=k+1:=⟨n - 1,by omega⟩
   obtain ⟨qs,t2,k1,k2,k3⟩:=ag7 rs n t' (fun r hr=>hc r (by simp [hr])) (by omega) g2
   exact ⟨_,t2,by simp only [gR,i,bA,if_false,g1,k1]; rfl,k2,by simp [k3]⟩
theorem ahn:∀ (ws:List (List UInt8)) (pre:List (List UInt8)),lD ws pre=0→∀ w∈ws,wd w=0
 | [],_,_,_,h=>by cases h
 | v::ws,pre,h,w,hw=>by
   unfold lD at h
   split at h
   ·rename_i h1
    exact absurd h h1
   ·rename_i h1
    have hv:wd v=0:=by simpa using h1
    split at h
    ·cases h
    ·rcases dG.1 hw with rfl | hw
     ·exact hv
     ·exact ahn ws _ h w hw
theorem ahm:∀ (rs:List ba),lC rs=0→∀ r∈rs,hP r=0
 | [],_,_,h=>by cases h
 | v::rs,h,r,hr=>by
   unfold lC at h
   split at h
   ·rename_i h1
    exact absurd h h1
   ·rename_i h1
    rcases dG.1 hr with rfl | hr
    ·simpa using h1
    ·exact ahm rs h r hr
def ng (r:ba):Prop:=(1≤r.1∧r.1≤12)∧(0≤r.2.1∧r.2.1≤999)∧r.2.2.1.length≤20∧∀ w∈r.2.2.1,w.length≤16∧∀ c∈w,bO c=true
theorem aM5 {w:List UInt8} (h:wd w=0):w.length≤16∧∀ c∈w,bO c=true:=by
 unfold wd at h
 split at h
 ·cases h
 ·split at h
  ·cases h
  ·rename_i h1 h2
   refine ⟨by omega,fun c hc=>?_⟩
   simp only [not_or,bad,List.any_eq_true,not_exists,not_and,dX,Bool.not_eq_true] at h2
   exact avh (by
    have:=h2.2.2 c hc
    simpa using this)
theorem aAx {r:ba} (h:hP r=0):ng r:=by
 unfold hP at h
 split at h
 ·cases h
 ·split at h
  ·cases h
  ·rename_i h1 h2
   exact ⟨by omega,by omega,by omega,fun w hw=>aM5 (ahn _ _ h w hw)⟩
theorem sK {x:aZ} (h:dO x=0):ju x.1=true∧x.2.1.length≤30∧∀ r∈x.2.1,ng r:=by
 unfold dO at h
 split at h
 ·cases h
 ·rename_i h0
  split at h
  ·cases h
  ·rename_i h1
   exact ⟨by simpa using h0,by omega,fun r hr=>aAx (ahm _ h r hr)⟩
theorem ayg {s:List UInt8} {l:aZ} (h:TK s (sG l)) (hl:dO l=0):lB s=(l,0,0):=by
 obtain ⟨nm,rs,u⟩:=l
 obtain ⟨hn,h30,hr⟩:=sK hl
 obtain ⟨ts,h1,h2⟩:=h 1
 have h2:ts.map kt=(1,[108,105,99,101,110,99,101])::(1,nm)::(4,[123])::(rs.flatMap gi++[(4,[125])]):=h2
 have e:tk s=(ts,0,0):=by unfold tk; rw [h1]
 unfold lB
 simp only [e,if_true]
 have a1:=jv h2 1 [108,105,99,101,110,99,101]
 have a2:=jv a1.2.2 1 []
 have a3:=jv a2.2.2 4 [123]
 have i1:bx ts 1 [108,105,99,101,110,99,101]=true:=a1.1.trans (by decide)
 have i2:bx ts.tail 1 []=true:=a2.1.trans (by simp)
 have i3:bx ts.tail.tail 4 [123]=true:=a3.1.trans (by decide)
 obtain ⟨qs,t',k1,k2,k3⟩:=ag7 rs ts.length ts.tail.tail.tail (fun r hx=>(hr r hx).2.1) (by simp only [IM]; omega) a3.2.2
 have ht:t'.tail=[]:=by
  have:=congrArg lJ k2
  simp only [vK,IL] at this
  exact l8.1 (by rw [IM]; omega)
 unfold CR
 simp only [i1,i2,i3,if_true,k1,ht,a2.2.1]
 have hq:∀ (rs:List ba) (qs:List (Int×Qr)),(∀ r∈rs,ng r)→qs.map (·.2)=rs.map (fun r=>(dI r.1,(r.2.1,r.2.2.1)))→pK qs=none∧ee qs=rs:=by
  intro rs
  induction rs with
  | nil=>
    intro qs _ h
    have:qs=[]:=by simpa using h
    subst this; exact ⟨rfl,rfl⟩
  | cons r rs ih=>
    intro qs hr h
    cases qs with
    | nil=>simp at h
    | cons q qs=>
      simp only [fG,iZ] at h
      obtain ⟨g1,g2⟩:=ih qs (fun r hx=>hr r (by simp [hx])) h.2
      have hk:=(vz (hr r (by simp)).1).2.2.2
      have hq:=h.1
      obtain ⟨ql,qn,qc,qw⟩:=q
      simp only [eL] at hq
      obtain ⟨q1,q2,q3⟩:=hq
      subst q1 q2 q3
      have hk1:=(hr r (by simp)).1
      refine ⟨?_,?_⟩
      ·simp only [pK,hk]
       rw [if_neg (by omega)]
       exact g1
      ·simp only [ee,fG,hk]
       rw [show List.map (fun q:Int×Qr=>(fy q.2.1,(q.2.2.1,(q.2.2.2,())))) qs=rs from g2]
 obtain ⟨g1,g2⟩:=hq rs qs hr k3
 unfold CS
 simp only [g1,g2]
 rw [if_pos hl]
def dL (ws:List (List UInt8)):List UInt8:=ws.flatMap fun w=> [44,32,34]++w++[34]
def fj:List (List UInt8)→List UInt8
 | []=> []
 | w::ws=> [32,105,110,32,34]++w++[34]++dL ws
def eU (r:ba):List UInt8:=[32,32]++dI r.1++[32]++ey r.2.1++fj r.2.2.1++[59,10]
def fmt (l:aZ):List UInt8:=[108,105,99,101,110,99,101,32]++l.1++[32,123,10]++l.2.1.flatMap eU++[125,10]
theorem agV {x:List UInt8} (h:ov x=true):Good (2,x):=by
 unfold ov at h
 simp only [aB,dX,decide_eq_true_eq,beq_iff_eq] at h
 obtain ⟨h1,h2,h3,h4⟩:=h
 refine .inr (.inl ⟨rfl,?_,h2,fun c hc=>N4 bB h3 c hc,?_⟩)
 ·rintro rfl; simp at h1
 ·intro hl c r e
  simp only at e hl
  subst e
  rw [decide_eq_true (by omega)] at h4
  simpa using h4
theorem Hy (c:UInt8) (h:(qv c&&(!fm c&&(!bB c&&(c.toNat != 34&&(c.toNat != 10&&(!eG c&&c.toNat != 35))))))=true):Good (4,[c]):=by
 simp only [aB,dX,bne_iff_ne,ne_eq] at h
 exact .inr (.inr (.inr ⟨rfl,c,rfl,h.1,h.2.1,h.2.2.1,h.2.2.2.1,h.2.2.2.2.1,h.2.2.2.2.2.1,h.2.2.2.2.2.2⟩))
theorem afH:Good (4,[44]):=Hy 44 (by kernel_rfl)
theorem afL:Good (4,[59]):=Hy 59 (by kernel_rfl)
theorem afK:Good (4,[123]):=Hy 123 (by kernel_rfl)
theorem afG:Good (4,[125]):=Hy 125 (by kernel_rfl)
theorem afI:Good (1,[105,110]):=.inl ⟨rfl,by kernel_rfl⟩
theorem afJ:Good (1,[108,105,99,101,110,99,101]):=.inl ⟨rfl,by kernel_rfl⟩
theorem Hz {w:List UInt8} (h:w.length≤16∧∀ c∈w,bO c=true):Good (3,w):=.inr (.inr (.inl ⟨rfl,h.2,by have:=h.1; show w.length≤60; omega⟩))
theorem akH {r:ba} (h:ng r):∀ t∈gi r,Good t:=by
 obtain ⟨k,c,ws,u⟩:=r
 obtain ⟨h1,h2,h3,h4⟩:=h
 simp only at h1 h2 h3 h4
 intro t ht
 simp only [gi,dG,eu,SF,or_false] at ht
 rcases ht with rfl | rfl | ht | rfl
 ·exact .inl ⟨rfl,(vz h1).2.1⟩
 ·exact agV (Da h2).2.2.1
 ·cases ws with
  | nil=>cases ht
  | cons w ws=>
    simp only [jM,dG,hM,SE,SF,or_false] at ht
    rcases ht with rfl | rfl | ⟨v,hv,rfl | rfl⟩
    ·exact afI
    ·exact Hz (h4 w (by simp))
    ·exact afH
    ·exact Hz (h4 v (by simp [hv]))
 ·exact afL
theorem aNq {l:aZ} (h:dO l=0):∀ t∈sG l,Good t:=by
 obtain ⟨h1,h2,h3⟩:=sK h
 intro t ht
 simp only [sG,dG,eu,SE,SF,or_false] at ht
 rcases ht with rfl | rfl | rfl | ⟨r,hr,ht⟩ | rfl
 ·exact afJ
 ·exact .inl ⟨rfl,h1⟩
 ·exact afK
 ·exact akH (h3 r hr) t ht
 ·exact afG
theorem TK.lZ {t:Int×List UInt8} (hg:Good t) {p r:List UInt8} {ks} (hp:p=piece t) (hr:jI r=true) (h:TK r ks):TK (p++r) (t::ks):=by
 subst hp; exact TK.tok hg hr h
theorem SO:∀ (ws:List (List UInt8)) (r:List UInt8) (ks:List (Int×List UInt8)),(∀ w∈ws,w.length≤16∧∀ c∈w,bO c=true)→jI r=true→TK r ks→TK (dL ws++r) (hM ws++ks)∧jI (dL ws++r)=true
 | [],r,ks,_,hb,h=>⟨h,hb⟩
 | w::ws,r,ks,hw,hb,h=>by
   obtain ⟨h1,h2⟩:=SO ws r ks (fun v hv=>hw v (by simp [hv])) hb h
   have e:dL (w::ws)++r=[44]++(32::((34::(w++[34]))++(dL ws++r))):=by
    simp [dL]
   have e2:hM (w::ws)++ks=(4,[44])::(3,w)::(hM ws++ks):=rfl
   rw [e,e2]
   exact ⟨TK.lZ afH rfl rfl (TK.sp (TK.lZ (Hz (hw w (by simp))) rfl h2 h1)),rfl⟩
theorem aim (ws:List (List UInt8)) (r:List UInt8) (ks:List (Int×List UInt8)) (hw:∀ w∈ws,w.length≤16∧∀ c∈w,bO c=true) (hb:jI r=true) (h:TK r ks):TK (fj ws++r) (jM ws++ks)∧jI (fj ws++r)=true:=by
 cases ws with
 | nil=>exact ⟨h,hb⟩
 | cons w ws=>
   obtain ⟨h1,h2⟩:=SO ws r ks (fun v hv=>hw v (by simp [hv])) hb h
   have e:fj (w::ws)++r=32::([105,110]++(32::((34::(w++[34]))++(dL ws++r)))):=by
    simp [fj]
   have e2:jM (w::ws)++ks=(1,[105,110])::(3,w)::(hM ws++ks):=rfl
   rw [e,e2]
   exact ⟨TK.sp (TK.lZ afI rfl rfl (TK.sp (TK.lZ (Hz (hw w (by simp))) rfl h2 h1))),rfl⟩
theorem aik {r:ba} (hr:ng r) {s:List UInt8} {ks} (h:TK s ks):TK (eU r++s) (gi r++ks):=by
 obtain ⟨k,c,ws,u⟩:=r
 obtain ⟨h1,h2,h3,h4⟩:=hr
 simp only at h1 h2 h3 h4
 obtain ⟨g1,g2⟩:=aim ws ([59]++(10::s)) ((4,[59])::ks) h4 rfl (TK.lZ afL rfl rfl (TK.nl h))
 have e:eU (k,c,ws,u)++s=32::32::(dI k++(32::(ey c++(fj ws++([59]++(10::s)))))):=by
  simp [eU]
 have e2:gi (k,c,ws,u)++ks=(1,dI k)::(2,ey c)::(jM ws++(4,[59])::ks):=by simp [gi]
 rw [e,e2]
 exact TK.sp (TK.sp (TK.lZ (.inl ⟨rfl,(vz h1).2.1⟩) rfl rfl (TK.sp (TK.lZ (agV (Da h2).2.2.1) rfl g2 g1))))
theorem SN:∀ (rs:List ba) {s:List UInt8} {ks},(∀ r∈rs,ng r)→TK s ks→TK (rs.flatMap eU++s) (rs.flatMap gi++ks)
 | [],_,_,_,h=>h
 | r::rs,s,ks,hr,h=>by
   rw [qE,qE,bX,bX]
   exact aik (hr r (by simp)) (SN rs (fun x hx=>hr x (by simp [hx])) h)
theorem aij {l:aZ} (h:dO l=0):TK (fmt l) (sG l):=by
 obtain ⟨h1,h2,h3⟩:=sK h
 obtain ⟨nm,rs,u⟩:=l
 have e:fmt (nm,rs,u)=[108,105,99,101,110,99,101]++(32::(nm++(32::([123]++(10::(rs.flatMap eU++([125]++[10]))))))):=by simp [fmt]
 rw [e]
 exact TK.lZ afJ rfl rfl (TK.sp (TK.lZ (.inl ⟨rfl,h1⟩) rfl rfl (TK.sp (TK.lZ afK rfl rfl (TK.nl (SN rs h3 (TK.lZ afG rfl rfl (TK.nl TK.nil))))))))
def ahA:List (List UInt8):=[[32],[10],[32,35,32,99,10],[9,32]]
def vt (f:Nat→Nat):Nat→List (Int×List UInt8)→List UInt8
 | _,[]=> []
 | i,t::ts=>(ahA.getD (f i) []++piece t)++vt f (i+1) ts
theorem ail (f:Nat→Nat) (hf:∀ i,f i < 4):∀ (ks:List (Int×List UInt8)) (i:Nat),(∀ t∈ks,Good t)→TK (vt f i ks) ks∧jI (vt f i ks)=true
 | [],_,_=>⟨TK.nil,rfl⟩
 | t::ks,i,hg=>by
   obtain ⟨h1,h2⟩:=ail f hf ks (i+1) (fun x hx=>hg x (by simp [hx]))
   have hp:=TK.tok (hg t (by simp)) h2 h1
   unfold vt
   rw [bX]
   have:=hf i
   rcases (by omega:f i=0∨f i=1∨f i=2∨f i=3) with e | e | e | e<;>rw [e]
   ·exact ⟨TK.sp hp,rfl⟩
   ·exact ⟨TK.nl hp,rfl⟩
   ·exact ⟨TK.sp (TK.cm hp),rfl⟩
   ·exact ⟨TK.jT (TK.sp hp),rfl⟩
def wt (t:Int×List UInt8):Nat:=7+t.2.length
def gH (ks:List (Int×List UInt8)):Nat:=(ks.map fun t=>5+(piece t).length).sum
theorem aAY (f:Nat→Nat):∀ (ks:List (Int×List UInt8)) (i:Nat),(vt f i ks).length≤gH ks
 | [],_=>b5 _
 | t::ks,i=>by
   have h1:=aAY f ks (i+1)
   have h2:(ahA.getD (f i) []).length≤5:=by
    match f i with
    | 0 | 1 | 2 | 3=>decide
    | n+4=>exact Nat.zero_le _
   simp only [vt,gH,fG,List.sum_cons,a8] at h1 ⊢
   omega
theorem vA (a b:List (Int×List UInt8)):gH (a++b)=gH a+gH b:=by simp [gH]
theorem fY (t) (b:List (Int×List UInt8)):gH (t::b)=5+(piece t).length+gH b:=by simp [gH]
theorem IH:gH []=0:=rfl
theorem ox (x:List UInt8):(piece (1,x)).length=x.length:=rfl
theorem R3 (x:List UInt8):(piece (2,x)).length=x.length:=rfl
theorem CT (x:List UInt8):(piece (3,x)).length=x.length+2:=by simp [piece]
theorem oy (x:List UInt8):(piece (4,x)).length=x.length:=rfl
theorem aih:∀ (ws:List (List UInt8)),(∀ w∈ws,w.length≤16∧∀ c∈w,bO c=true)→gH (hM ws)≤29 * ws.length
 | [],_=>b5 _
 | w::ws,h=>by
   have h1:=aih ws (fun v hv=>h v (by simp [hv]))
   have h2:=(h w (by simp)).1
   have e:hM (w::ws)=(4,[44])::(3,w)::hM ws:=rfl
   rw [e,fY,fY,oy,CT]
   simp only [aJ,bG]
   omega
theorem aNd {r:ba} (h:ng r):gH (gi r)≤617:=by
 obtain ⟨k,c,ws,u⟩:=r
 obtain ⟨h1,h2,h3,h4⟩:=h
 simp only at h1 h2 h3 h4
 have a1:=(vz h1).2.2.1
 have a2:=(Da h2).2.1
 have a3:gH (jM ws)≤7+29 * ws.length:=by
  cases ws with
  | nil=>exact Nat.zero_le _
  | cons w ws=>
    have h5:=aih ws (fun v hv=>h4 v (by simp [hv]))
    have h6:=(h4 w (by simp)).1
    have e:jM (w::ws)=(1,[105,110])::(3,w)::hM ws:=rfl
    rw [e,fY,fY,ox,CT]
    simp only [aJ,bG]
    omega
 have e:gi (k,c,ws,u)=(1,dI k)::(2,ey c)::(jM ws++[(4,[59])]):=rfl
 rw [e,fY,fY,vA,fY,IH,ox,R3,oy]
 simp only [aJ,bG]
 omega
theorem aif:∀ (rs:List ba),(∀ r∈rs,ng r)→gH (rs.flatMap gi)≤617 * rs.length
 | [],_=>b5 _
 | r::rs,h=>by
   have h1:=aif rs (fun x hx=>h x (by simp [hx]))
   have h2:=aNd (h r (by simp))
   rw [qE,vA,aJ]
   omega
theorem aNc {l:aZ} (h:dO l=0):gH (sG l)≤19000:=by
 obtain ⟨h1,h2,h3⟩:=sK h
 obtain ⟨nm,rs,u⟩:=l
 simp only at h1 h2 h3
 have a1:=aif rs h3
 have a2:=(Rm h1).2.1
 have e:sG (nm,rs,u)=(1,[108,105,99,101,110,99,101])::(1,nm)::(4,[123])::(rs.flatMap gi++[(4,[125])]):=rfl
 rw [e,fY,fY,fY,vA,fY,IH,ox,ox,oy,oy]
 simp only [aJ,bG]
 omega
theorem ajw (ws:List (List UInt8)):(dL ws).length≤gH (hM ws):=by
 induction ws with
 | nil=>exact b5 _
 | cons w ws ih=>
   have e:hM (w::ws)=(4,[44])::(3,w)::hM ws:=rfl
   have e2:dL (w::ws)=([44,32,34]++w++[34])++dL ws:=rfl
   rw [e,e2,fY,fY,oy,CT]
   simp only [a8,aJ,bG]
   omega
theorem ajv (r:ba):(eU r).length≤gH (gi r):=by
 obtain ⟨k,c,ws,u⟩:=r
 have a:(fj ws).length≤gH (jM ws):=by
  cases ws with
  | nil=>exact b5 _
  | cons w ws=>
    have:=ajw ws
    have e:jM (w::ws)=(1,[105,110])::(3,w)::hM ws:=rfl
    have e2:fj (w::ws)=[32,105,110,32,34]++w++[34]++dL ws:=rfl
    rw [e,e2,fY,fY,ox,CT]
    simp only [a8,aJ,bG]
    omega
 have e:gi (k,c,ws,u)=(1,dI k)::(2,ey c)::(jM ws++[(4,[59])]):=rfl
 rw [e,fY,fY,vA,fY,IH,ox,R3,oy]
 simp only [eU,a8,aJ,bG]
 omega
theorem aet:∀ rs:List ba,(rs.flatMap eU).length≤gH (rs.flatMap gi)
 | []=>b5 _
 | r::rs=>by
   have:=aet rs
   have:=ajv r
   rw [qE,qE,vA,a8]
   omega
theorem Ph {l:aZ} (h:dO l=0):(fmt l).length≤19000:=by
 refine Nat.le_trans ?_ (aNc h)
 obtain ⟨nm,rs,u⟩:=l
 have:=aet rs
 have e:sG (nm,rs,u)=(1,[108,105,99,101,110,99,101])::(1,nm)::(4,[123])::(rs.flatMap gi++[(4,[125])]):=rfl
 rw [e,fY,fY,fY,vA,fY,IH,ox,ox,oy,oy]
 simp only [fmt,a8,aJ,bG]
 omega
theorem aNr {x:List UInt8} (h:Good (2,x)):ov x=true:=by
 rcases h with ⟨h1,_⟩ | ⟨_,h2,h3,h4,h5⟩ | ⟨h1,_⟩ | ⟨h1,_⟩
 ·simp at h1
 ·simp only at h2 h3 h4 h5
  have hc:aS bB x=x.length:=by simpa using Et bB x [] h4 rfl
  unfold ov
  have e1:(x==[])=false:=by simpa using h2
  rw [e1,hc,decide_eq_true h3]
  by_cases hl:1 < x.length
  ·cases x with
   | nil=>simp at hl
   | cons c r=>
     have:=h5 (by omega) c r rfl
     simp only [List.headD_cons,hl,decide_true,iX,beq_self_eq_true,cE]
     simpa using this
  ·simp [hl]
 ·simp at h1
 ·simp at h1
theorem aNA {t:Int×List UInt8} (h:Good t):(piece t).length≤62:=by
 obtain ⟨k,x⟩:=t
 rcases h with ⟨h1,h2⟩ | ⟨h1,h2,h3,h4,h5⟩ | ⟨h1,h2,h3⟩ | ⟨h1,c,h2,h3,_⟩
 ·simp only at h1 h2; subst h1
  have:=(Rm h2).2.1
  rw [ox]; omega
 ·simp only at h1 h3; subst h1; rw [R3]; omega
 ·simp only at h1 h3; subst h1; rw [CT]; omega
 ·simp only at h1 h2; subst h1 h2; rw [oy]; simp
theorem avn {R:Type} (k0:aZ→List UInt8→Int→ba→Int→Option R) (l:aZ) (i:Int) (k c:Int):
  ∀ (ys pre:List (List UInt8)) (m:Nat) (out:List UInt8),pre≠[]→ys.length < m→(pre++ys).length≤bF→out.length+(dL ys).length+10≤1000000→
    oi k0 m l out i (k,c,(pre++ys),()) (pre.length:Int)=k0 l (out++dL ys) i (k,c,(pre++ys),()) ((pre++ys).length:Int):=by
 intro ys
 induction ys with
 | nil=>
   intro pre m out hp hm hb ho
   obtain ⟨m,rfl⟩:∃ k,m=k+1:=⟨m - 1,by simp at hm; omega⟩
   unfold oi
   have:decide ((pre.length:Int) < (pre.length:Int))=false:=decide_eq_false (by omega)
   simp only [my,mR,mM,mS,mT,mU,mK,mz,mA,mB,mC,mD,mE,mF,mG,mH,mI,mJ,mL,mN,mO,mP,mQ,g12,fZ,this,aj,dL,SC]
 | cons y ys ih=>
   intro pre m out hp hm hb ho
   obtain ⟨m,rfl⟩:∃ k,m=k+1:=⟨m - 1,by simp at hm; omega⟩
   have hf:dL (y::ys)=[44,32,34]++y++[34]++dL ys:=rfl
   have hl:(dL (y::ys)).length=4+y.length+(dL ys).length:=by rw [hf]; simp; omega
   have e0:((pre.length:Int)==0)=false:=by
    cases pre with
    | nil=>exact absurd rfl hp
    | cons a b=>simp; omega
   have c0:out.length+([44,32]:List UInt8).length≤140737488355328:=by simp; omega
   have c1:(out++[44,32]).length+([34]:List UInt8).length≤140737488355328:=by simp; omega
   have c2:(out++[44,32]++[34]).length+y.length≤140737488355328:=by simp; omega
   have c3:(out++[44,32]++[34]++y).length+([34]:List UInt8).length≤140737488355328:=by simp; omega
   unfold oi
   simp only [my,mR,mM,mS,mT,mU,mK,mz,mA,mB,mC,mD,mE,mF,mG,mH,mI,mJ,mL,mN,mO,mP,mQ,g12,dU,dt,dp,if_true,ak,e0,aj,if_pos c0,if_pos c1,if_pos c2,if_pos c3,eS pre ys y hb]
   rw [bP pre ys y]
   refine (ih (pre++[y]) m (out++[44,32]++[34]++y++[34]) (by simp) (by simpa using hm) (by rw [←bP]; exact hb) (by simp; omega)).trans ?_
   rw [hf]
   simp
theorem avo {R:Type} (k0:aZ→List UInt8→Int→ba→Int→Option R) (l:aZ) (i:Int) (k c:Int) (ws:List (List UInt8)) (m:Nat) (out:List UInt8) (hm:ws.length+1 < m) (hb:ws.length≤1000) (ho:out.length+(fj ws).length+10≤1000000):
  oi k0 m l out i (k,c,ws,()) 0=k0 l (out++fj ws) i (k,c,ws,()) (ws.length:Int):=by
 obtain ⟨m,rfl⟩:∃ k,m=k+1:=⟨m - 1,by omega⟩
 cases ws with
 | nil=>
   unfold oi
   have:decide ((0:Int) < (([]:List (List UInt8)).length:Int))=false:=rfl
   simp only [my,mR,mM,mS,mT,mU,mK,mz,mA,mB,mC,mD,mE,mF,mG,mH,mI,mJ,mL,mN,mO,mP,mQ,g12,this,aj,fj,fZ]
   rfl
 | cons y ys=>
   have hf:fj (y::ys)=[32,105,110,32,34]++y++[34]++dL ys:=rfl
   have hl:(fj (y::ys)).length=6+y.length+(dL ys).length:=by rw [hf]; simp; omega
   have e0:((0:Int)==0)=true:=rfl
   have e1:decide ((0:Int) < ((y::ys).length:Int))=true:=decide_eq_true (by simp only [aJ]; omega)
   have e2:(0:Int)≤0∧(0:Int) < ((y::ys).length:Int):=by simp only [aJ]; omega
   have e3:(y::ys).getD (0:Int).toNat []=y:=rfl
   have e4:IntKind.i64.wrap ((0:Int)+1)=(([y]:List (List UInt8)).length:Int):=rfl
   have c0:out.length+([32,105,110,32]:List UInt8).length≤140737488355328:=by simp; omega
   have c1:(out++[32,105,110,32]).length+([34]:List UInt8).length≤140737488355328:=by simp; omega
   have c2:(out++[32,105,110,32]++[34]).length+y.length≤140737488355328:=by simp; omega
   have c3:(out++[32,105,110,32]++[34]++y).length+([34]:List UInt8).length≤140737488355328:=by simp; omega
   unfold oi
   simp only [my,mR,mM,mS,mT,mU,mK,mz,mA,mB,mC,mD,mE,mF,mG,mH,mI,mJ,mL,mN,mO,mP,mQ,g12,e0,e1,e3,e4,if_pos e2,ak,if_pos c0,if_pos c1,if_pos c2,if_pos c3]
   refine (avn k0 l i k c ys [y] m (out++[32,105,110,32]++[34]++y++[34]) (by simp) (by simp at hm; omega) (by unfold bF; simp at hb ⊢; omega) (by simp; omega)).trans ?_
   rw [hf]
   simp
theorem ayt:((oJ 1000).all fun n=>bS 30000 (n:Int)==some (ey (n:Int)))=true:=by kernel_rfl
theorem aM3 {n:Int} (h:0≤n∧n≤999):bS 30000 n=some (ey n):=by
 have:=gl.1 ayt n.toNat (oI.2 (by omega))
 have e:((n.toNat:Nat):Int)=n:=by omega
 rw [e] at this
 exact beq_iff_eq.1 this
theorem avm {R:Type} (k0:aZ→List UInt8→Int→Option R) (nm:List UInt8):
  ∀ (ys pre:List ba) (m:Nat) (out:List UInt8),ys.length < m→(pre++ys).length≤1000→(∀ r∈ys,ng r)→out.length+(ys.flatMap eU).length+10≤1000000→
    uz 30000 (aV 30000) (bS 30000) k0 m (nm,(pre++ys),()) out (pre.length:Int)=k0 (nm,(pre++ys),()) (out++ys.flatMap eU) ((pre++ys).length:Int):=by
 intro ys
 induction ys with
 | nil=>
   intro pre m out hm hb hr ho
   obtain ⟨m,rfl⟩:∃ k,m=k+1:=⟨m - 1,by simp at hm; omega⟩
   unfold uz
   have:decide ((pre.length:Int) < (pre.length:Int))=false:=decide_eq_false (by omega)
   simp only [my,mR,mM,mS,mT,mU,mK,mz,mA,mB,mC,mD,mE,mF,mG,mH,mI,mJ,mL,mN,mO,mP,mQ,g12,fZ,this,aj,SC]
 | cons y ys ih=>
   intro pre m out hm hb hr ho
   obtain ⟨m,rfl⟩:∃ k,m=k+1:=⟨m - 1,by simp at hm; omega⟩
   obtain ⟨k,c,ws,u⟩:=y
   obtain ⟨h1,h2,h3,h4⟩:=hr _ (oH ..)
   simp only at h1 h2 h3 h4
   have hk:=vz h1
   have hd:=aM3 h2
   have hl:(((k,c,ws,u)::ys).flatMap eU).length=5+(dI k).length+(ey c).length+(fj ws).length+(ys.flatMap eU).length:=by
    rw [qE,a8]
    unfold eU; simp only [a8,aJ,bG]; omega
   have hf:((k,c,ws,u)::ys).flatMap eU=[32,32]++dI k++[32]++ey c++fj ws++[59,10]++ys.flatMap eU:=rfl
   have c0:out.length+([32,32]:List UInt8).length≤140737488355328:=by simp only [a8,aJ,bG]; omega
   have c1:(out++[32,32]).length+(dI k).length≤140737488355328:=by simp only [a8,aJ,bG]; omega
   have c2:(out++[32,32]++dI k).length+([32]:List UInt8).length≤140737488355328:=by simp only [a8,aJ,bG]; omega
   have c3:(out++[32,32]++dI k++[32]).length+(ey c).length≤140737488355328:=by simp only [a8,aJ,bG]; omega
   have c4:(out++[32,32]++dI k++[32]++ey c++fj ws).length+([59,10]:List UInt8).length≤140737488355328:=by simp only [a8,aJ,bG]; omega
   have hbb:(pre++(k,c,ws,u)::ys).length≤bF:=by unfold bF; omega
   unfold uz
   simp only [my,mR,mM,mS,mT,mU,mK,mz,mA,mB,mC,mD,mE,mF,mG,mH,mI,mJ,mL,mN,mO,mP,mQ,g12,dU,dt,dp,if_true,ak,if_pos c0,if_pos c1,if_pos c2,if_pos c3,hk.1,hd,ah]
   refine (avo _ _ _ k c ws 30000 (out++[32,32]++dI k++[32]++ey c) (by omega) (by omega) (by simp only [a8,aJ,bG]; omega)).trans ?_
   simp only [if_pos c4,eS pre ys (k,c,ws,u) hbb]
   rw [bP pre ys (k,c,ws,u)]
   refine (ih (pre++[(k,c,ws,u)]) m _ (by simpa using hm) (by rw [←bP]; exact hb) (fun r hx=>hr r (by simp [hx])) (by simp only [a8,aJ,bG]; omega)).trans ?_
   rw [hf]
   simp
theorem aMS {l:aZ} (h:dO l=0):fh 30000 l=some (fmt l,0):=by
 have hl:=Ph h
 have hv:=Ii l
 obtain ⟨h1,h2,h3⟩:=sK h
 obtain ⟨nm,rs,u⟩:=l
 simp only at h1 h2 h3
 have hl2:(fmt (nm,rs,u)).length=8+nm.length+3+(rs.flatMap eU).length+2:=by unfold fmt; simp only [a8,aJ,bG]
 unfold fh
 simp only [my,mR,mM,mS,mT,mU,mK,mz,mA,mB,mC,mD,mE,mF,mG,mH,mI,mJ,mL,mN,mO,mP,mQ,g12,hv,h,ah]
 have e0:((0:Int) != 0)=false:=rfl
 have c0:([108,105,99,101,110,99,101,32]:List UInt8).length+nm.length≤140737488355328:=by simp only [a8,aJ,bG]; omega
 have c1:(([108,105,99,101,110,99,101,32]:List UInt8)++nm).length+([32,123,10]:List UInt8).length≤140737488355328:=by simp only [a8,aJ,bG]; omega
 simp only [e0,aj,if_pos c0,if_pos c1]
 have ll:=fun k0=>avm (R:=List UInt8×Int) k0 nm rs [] 30000 (([108,105,99,101,110,99,101,32]:List UInt8)++nm++[32,123,10]) (by omega) (by simp only [a8,aJ,bG]; omega) h3 (by simp only [a8,aJ,bG]; omega)
 simp only [eC,bG,oE] at ll
 refine (ll _).trans ?_
 have c2:(([108,105,99,101,110,99,101,32]:List UInt8)++nm++[32,123,10]++rs.flatMap eU).length+([125,10]:List UInt8).length≤140737488355328:=by simp only [a8,aJ,bG]; omega
 simp only [if_pos c2]
 rfl
theorem aiR (n:Nat) (h:n < 1000):Go.Lib.decDigits n=Oa n:=by
 unfold Oa
 rw [Go.Lib.decDigits]
 split
 ·rfl
 ·rw [Go.Lib.decDigits]
  split
  ·rfl
  ·rw [Go.Lib.decDigits,dif_pos (by omega)]
   rfl
theorem aMU {n:Int} (h:0≤n∧n≤999):cb 30000 n=some (ey n):=by
 have e:Go.Lib.itoa n=ey n:=by
  unfold Go.Lib.itoa
  rw [if_neg (by omega),aiR _ (by omega)]
  rfl
 unfold cb
 rw [e]
theorem wS {a b:List UInt8} (h:a.length+b.length≤1000000):a6 30000 a b=some (a++b):=by
 unfold a6
 rw [if_pos (by omega)]
theorem sS {a:List UInt8} (h:a≠[]):eg 30000 a=some a:=by
 unfold eg
 rw [if_neg h]
theorem aM1 {k:Int} (h:1≤k∧k≤12):bw 30000 k=some (dI k):=by
 have h2:=(Il (k.toNat - 1) (by omega)).1
 have e:((k.toNat - 1+1:Nat):Int)=k:=by omega
 rw [e] at h2
 exact h2
theorem ayj {R:Type} (k0:List UInt8→List ba→Int→Int→List (List UInt8)→Int→Int→Option R) (rs:List ba) (a b:Int):
  ∀ (ys pre:List (List UInt8)) (m:Nat) (out:List UInt8),ys.length < m→(pre++ys).length≤bF→out.length+(dL ys).length+(10 - 2 * min pre.length 1)≤1000000→
    ∃ out',out'=out++(if pre=[] then fj ys else dL ys)∧qe (a6 30000) k0 m out rs a b (pre++ys) ((pre++ys).length:Int) (pre.length:Int)=k0 out' rs a b (pre++ys) ((pre++ys).length:Int) ((pre++ys).length:Int):=by
 intro ys
 induction ys with
 | nil=>
   intro pre m out hm hb ho
   obtain ⟨m,rfl⟩:∃ k,m=k+1:=⟨m - 1,by simp at hm; omega⟩
   refine ⟨out,?_,?_⟩
   ·by_cases hp:pre=[]
    ·rw [if_pos hp]; simp [fj]
    ·rw [if_neg hp]; simp [dL]
   ·unfold qe
    have:decide ((pre.length:Int) < (pre.length:Int))=false:=decide_eq_false (by omega)
    simp only [sd,sA,sv,sx,sB,sC,sn,se,sf,sg,sh,si,sj,sk,sq,sr,su,sw,sz,g9,fZ,this,aj]
 | cons y ys ih=>
   intro pre m out hm hb ho
   obtain ⟨m,rfl⟩:∃ k,m=k+1:=⟨m - 1,by simp at hm; omega⟩
   have hf:dL (y::ys)=[44,32,34]++y++[34]++dL ys:=rfl
   have hl:(dL (y::ys)).length=4+y.length+(dL ys).length:=by rw [hf]; simp only [a8,aJ,bG]; omega
   have key:∀ sep:List UInt8,sep.length+2 * min pre.length 1≤4→(∃ i:Int,(if (1:Int) < (pre.length:Int) then (1:Int) else (pre.length:Int))=i∧(0≤i∧i < (([([32,105,110,32]:List UInt8),([44,32]:List UInt8)].length:Nat):Int))∧i.toNat < [([32,105,110,32]:List UInt8),([44,32]:List UInt8)].length∧[([32,105,110,32]:List UInt8),([44,32]:List UInt8)].getD i.toNat []=sep)→
     ∃ out',out'=out++(sep++[34]++y++[34])++dL ys∧qe (a6 30000) k0 (m+1) out rs a b (pre++y::ys) ((pre++y::ys).length:Int) (pre.length:Int)=k0 out' rs a b (pre++y::ys) ((pre++y::ys).length:Int) ((pre++y::ys).length:Int):=by
    rintro sep hs ⟨i,e1,e2,e3,e4⟩
    have c1:sep.length+([34]:List UInt8).length≤140737488355328:=by simp only [aJ,bG]; omega
    have c2:(sep++[34]).length+y.length≤140737488355328:=by simp only [a8,aJ,bG]; omega
    have c3:(sep++[34]++y).length+([34]:List UInt8).length≤140737488355328:=by simp only [a8,aJ,bG]; omega
    obtain ⟨out',h1,h2⟩:=ih (pre++[y]) m (out++(sep++[34]++y++[34])) (by simpa using hm) (by rw [←bP]; exact hb) (by simp only [a8,aJ,bG]; omega)
    rw [if_neg (by simp)] at h1
    rw [←bP pre ys y] at h2
    refine ⟨out',h1,?_⟩
    unfold qe
    simp only [sd,sA,sv,sx,sB,sC,sn,se,sf,sg,sh,si,sj,sk,sq,sr,su,sw,sz,g9,dU,dt,dp,if_true,ak,e1,if_pos e2,if_pos e3,e4,if_pos c1,if_pos c2,if_pos c3,eS pre ys y hb]
    rw [wS (by simp only [a8,aJ,bG]; omega)]
    exact h2
   by_cases hp:pre=[]
   ·subst hp
    obtain ⟨out',h1,h2⟩:=key [32,105,110,32] (by decide) ⟨0,rfl,by decide,by decide,rfl⟩
    exact ⟨out',by rw [h1,if_pos rfl]; simp [fj],h2⟩
   ·have hpl:0 < pre.length:=Dn.2 hp
    obtain ⟨out',h1,h2⟩:=key [44,32] (by simp only [aJ,bG]; omega) ⟨1,by split<;>omega,by decide,by decide,rfl⟩
    exact ⟨out',by rw [h1,if_neg hp,hf]; simp,h2⟩
theorem ayi {R:Type} (k0:List UInt8→List ba→Int→Int→Option R):
  ∀ (ys pre:List ba) (m:Nat) (out:List UInt8),ys.length < m→(pre++ys).length≤1000→(∀ r∈ys,ng r)→out.length+(ys.flatMap eU).length+30≤1000000→
    uZ 30000 (a6 30000) (bw 30000) (cb 30000) k0 m out (pre++ys) ((pre++ys).length:Int) (pre.length:Int)=k0 (out++ys.flatMap eU) (pre++ys) ((pre++ys).length:Int) ((pre++ys).length:Int):=by
 intro ys
 induction ys with
 | nil=>
   intro pre m out hm hb hr ho
   obtain ⟨m,rfl⟩:∃ k,m=k+1:=⟨m - 1,by simp at hm; omega⟩
   unfold uZ
   have:decide ((pre.length:Int) < (pre.length:Int))=false:=decide_eq_false (by omega)
   simp only [sd,sA,sv,sx,sB,sC,sn,se,sf,sg,sh,si,sj,sk,sq,sr,su,sw,sz,g9,fZ,this,aj,SC]
 | cons y ys ih=>
   intro pre m out hm hb hr ho
   obtain ⟨m,rfl⟩:∃ k,m=k+1:=⟨m - 1,by simp at hm; omega⟩
   obtain ⟨k,c,ws,u⟩:=y
   obtain ⟨h1,h2,h3,h4⟩:=hr _ (oH ..)
   simp only at h1 h2 h3 h4
   have hk:=aM1 h1
   have hd:=aMU h2
   have hkl:=(vz h1).2.2.1
   have hdl:=(Da h2).2.1
   have hl:(((k,c,ws,u)::ys).flatMap eU).length=5+(dI k).length+(ey c).length+(fj ws).length+(ys.flatMap eU).length:=by
    rw [qE,a8]
    unfold eU; simp only [a8,aJ,bG]; omega
   have hf:((k,c,ws,u)::ys).flatMap eU=[32,32]++dI k++[32]++ey c++fj ws++[59,10]++ys.flatMap eU:=rfl
   have hwl:(dL ws).length≤(fj ws).length:=by
    cases ws with
    | nil=>simp [dL]
    | cons w ws=>
      have e1:dL (w::ws)=[44,32,34]++w++[34]++dL ws:=rfl
      have e2:fj (w::ws)=[32,105,110,32,34]++w++[34]++dL ws:=rfl
      rw [e1,e2]; simp only [a8,aJ,bG]; omega
   have c0:([32,32]:List UInt8).length+(dI k).length≤140737488355328:=by simp only [aJ,bG]; omega
   have c1:(([32,32]:List UInt8)++dI k).length+([32]:List UInt8).length≤140737488355328:=by simp only [a8,aJ,bG]; omega
   have c2:(([32,32]:List UInt8)++dI k++[32]).length+(ey c).length≤140737488355328:=by simp only [a8,aJ,bG]; omega
   have hbb:(pre++(k,c,ws,u)::ys).length≤bF:=by unfold bF; omega
   unfold uZ
   simp only [sd,sA,sv,sx,sB,sC,sn,se,sf,sg,sh,si,sj,sk,sq,sr,su,sw,sz,g9,dU,dt,dp,if_true,ak,hk,hd,ah,if_pos c0,if_pos c1,if_pos c2]
   rw [wS (by simp only [a8,aJ,bG]; omega)]
   have hw:=fun k0=>ayj (R:=R) k0 (pre++(k,c,ws,u)::ys) ((pre++(k,c,ws,u)::ys).length:Int) (pre.length:Int) ws [] 30000 (out++(([32,32]:List UInt8)++dI k++[32]++ey c)) (by omega) (by unfold bF; simp; omega) (by simp only [a8,aJ,bG]; omega)
   simp only [eC,if_true,bG,oE] at hw
   have hw2:∀ k0:List UInt8→List ba→Int→Int→List (List UInt8)→Int→Int→Option R,qe (a6 30000) k0 30000 (out++(([32,32]:List UInt8)++dI k++[32]++ey c)) (pre++(k,c,ws,u)::ys) ((pre++(k,c,ws,u)::ys).length:Int) (pre.length:Int) ws (ws.length:Int) 0=k0 (out++(([32,32]:List UInt8)++dI k++[32]++ey c)++fj ws) (pre++(k,c,ws,u)::ys) ((pre++(k,c,ws,u)::ys).length:Int) (pre.length:Int) ws (ws.length:Int) (ws.length:Int):=by
    intro k0
    obtain ⟨o',e,h⟩:=hw k0
    rw [h,e]
   simp only [ah]
   refine (hw2 _).trans ?_
   rw [wS (by simp only [a8,aJ,bG]; omega)]
   simp only [ah,eS pre ys (k,c,ws,u) hbb]
   rw [bP pre ys (k,c,ws,u)]
   refine (ih (pre++[(k,c,ws,u)]) m _ (by simpa using hm) (by rw [←bP]; exact hb) (fun r hx=>hr r (by simp [hx])) (by simp only [a8,aJ,bG]; omega)).trans ?_
   rw [hf]
   simp
theorem ah1 (l:aZ) (hn:dO l=0∨dO l≠0):S9 30000 l=some (if dO l=0 then (fmt l,0) else ([],dO l)):=by
 have hv:=Si l
 unfold S9
 simp only [sd,sA,sv,sx,sB,sC,sn,se,sf,sg,sh,si,sj,sk,sq,sr,su,sw,sz,g9,hv,ah]
 by_cases h:dO l=0
 ·have hl:=Ph h
  obtain ⟨h1,h2,h3⟩:=sK h
  rw [if_pos h]
  have e0:(dO l != 0)=false:=by simpa using h
  obtain ⟨nm,rs,u⟩:=l
  simp only at h1 h2 h3
  have hl2:(fmt (nm,rs,u)).length=8+nm.length+3+(rs.flatMap eU).length+2:=by unfold fmt; simp only [a8,aJ,bG]
  have c0:([108,105,99,101,110,99,101,32]:List UInt8).length+nm.length≤140737488355328:=by simp only [aJ,bG]; omega
  have c1:(([108,105,99,101,110,99,101,32]:List UInt8)++nm).length+([32,123,10]:List UInt8).length≤140737488355328:=by simp only [a8,aJ,bG]; omega
  simp only [e0,aj,if_pos c0,if_pos c1]
  rw [wS (by simp only [a8,aJ,bG]; omega)]
  have ll:=fun k0=>ayi (R:=List UInt8×Int) k0 rs [] 30000 ([]++(([108,105,99,101,110,99,101,32]:List UInt8)++nm++[32,123,10])) (by omega) (by simp; omega) h3 (by simp only [a8,aJ,bG]; omega)
  simp only [eC,bG,oE] at ll
  simp only [ah,eC]
  refine (ll _).trans ?_
  rw [wS (by simp only [a8,aJ,bG]; omega)]
  simp only [ah]
  rw [sS (by simp)]
  rfl
 ·have e0:(dO l != 0)=true:=by simpa using h
  rw [if_neg h]
  simp only [e0,ak]
theorem aAT {α:Type} (pre ys:List α) (y:α):(pre++y::ys).set (eB (pre.length:Int)) y=pre++y::ys:=by simp
theorem awG {α:Type} (pre ys:List α) (y:α):(eB (pre.length:Int) < (pre++y::ys).length)=True:=by simp
theorem aMY (ws:List (List UInt8)) (h:ws.length≤8796093022208):cj 30000 ws=some ws:=if_pos h
theorem avL {R:Type} (k0:aZ→aZ→Int→Int→Option R) (nm:List UInt8) (z:aZ):
  ∀ (ys pre:List ba) (m:Nat),ys.length < m→(pre++ys).length≤bF→(∀ r∈ys,r.2.2.1.length≤8796093022208)→
    uy (cj 30000) k0 m (nm,(pre++ys),()) z ((pre++ys).length:Int) (pre.length:Int)=k0 (nm,(pre++ys),()) z ((pre++ys).length:Int) ((pre++ys).length:Int):=by
 intro ys
 induction ys with
 | nil=>
   intro pre m hm hb hr
   cases m with
   | zero=>simp at hm
   | succ m=>
     unfold uy
     simp only [wT,wV,wW,wX,wY,wP,wQ,wR,wU,g11,ep,aj]
     simp
 | cons y ys ih=>
   intro pre m hm hb hr
   cases m with
   | zero=>simp at hm
   | succ m=>
     have e:∀ y:ba,(y.1,y.2.1,y.2.2.1,y.2.2.2)=y:=fun y=>rfl
     unfold uy
     simp only [wT,wV,wW,wX,wY,wP,wQ,wR,wU,g11,dU,dt,dp,awG,if_true,ak,aMY y.2.2.1 (hr y (by simp)),ah,eS pre ys y hb,aAT]
     rw [bP pre ys y]
     exact ih (pre++[y]) m (by simpa using hm) (by rw [←bP]; exact hb) (fun r h=>hr r (by simp [h]))
theorem v11 (x:aZ) (h:x.2.1.length < 30000) (hr:∀ r∈x.2.1,r.2.2.1.length≤8796093022208):fI 30000 x=some x:=by
 obtain ⟨nm,rs,u⟩:=x
 replace h:rs.length < 30000:=h
 have ec:eD 30000 rs=some rs:=if_pos (by omega)
 unfold fI
 have:=avL (R:=aZ) (fun x _ _ _=>some x) nm ([],([],())) rs [] 30000 h (by unfold bF; simp; omega) hr
 simp only [wT,wV,wW,wX,wY,wP,wQ,wR,wU,g11,ec,ah]
 simpa using this
theorem aiM (k:Int) (w:List UInt8):∀ (rs ss:List ba) (q:Int×Bool),oU k w (rs++ss) q=oU k w ss (oU k w rs q)
 | [],_,_=>rfl
 | _::rs,ss,_=>aiM k w rs ss _
def RL (q b:Int×Bool):Int×Bool:=cond (b.2&&!(q.2&&decide (q.1≤b.1))) b q
theorem adN (k:Int) (w:List UInt8):∀ (rs:List ba) (q:Int×Bool),oU k w rs q=RL q (oU k w rs (0,false))
 | [],q=>rfl
 | r::rs,q=>by
   simp only [oU]
   rw [adN k w rs (cond (Ie k w r q) (r.2.1,true) q),adN k w rs (cond (Ie k w r (0,false)) (r.2.1,true) (0,false))]
   generalize oU k w rs (0,false)=R
   unfold Ie
   cases h:((r.1==k)&&apps r w) with
   | false=>
     have e:∀ x:Bool,((r.1==k)&&(apps r w&&x))=false:=fun x=>by rw [←Bool.and_assoc,h]; rfl
     simp only [e,cond_false]
     obtain ⟨r1,r2⟩:=R
     unfold RL
     cases r2<;>simp
   | true=>
     have e:∀ x:Bool,((r.1==k)&&(apps r w&&x))=x:=fun x=>by rw [←Bool.and_assoc,h]; rfl
     simp only [e,cE,s0,cond_true]
     obtain ⟨q1,q2⟩:=q
     obtain ⟨r1,r2⟩:=R
     unfold RL
     simp only
     generalize r.2.1=c
     cases q2<;>cases r2<;>simp
     ·by_cases h1:c≤r1<;>simp [h1]
     ·by_cases h1:c < q1
      ·have h2:¬ q1≤c:=by omega
       simp [h1,h2]
      ·have h2:q1≤c:=by omega
       simp [h1,h2]
     ·by_cases h1:c < q1
      ·have h2:¬ q1≤c:=by omega
       by_cases h3:c≤r1
       ·simp [h1,h2,h3]
       ·have h4:¬ q1≤r1:=by omega
        simp [h1,h2,h3,h4]
      ·have h2:q1≤c:=by omega
       by_cases h3:c≤r1
       ·have h4:q1≤r1:=by omega
        simp [h1,h2,h3,h4]
       ·simp [h1,h2,h3]
theorem ayc (s:List UInt8):((lB s).2.2=0→dO (lB s).1=0)∧((lB s).2.2≠0→(lB s).1=([],([],()))):=by
 unfold lB
 split
 ·cases CR (tk s).1 with
  | inl f=>exact ⟨fun h=>by have h:(2:Int)=0:=h; omega,fun _=>rfl⟩
  | inr x=>
    unfold CS
    simp only
    cases pK x.2 with
    | some ln=>exact ⟨fun h=>by have h:(9:Int)=0:=h; omega,fun _=>rfl⟩
    | none=>
      simp only
      split
      ·rename_i h; exact ⟨fun _=>h,fun h=>absurd rfl h⟩
      ·rename_i h; exact ⟨fun h2=>absurd h2 h,fun _=>rfl⟩
 ·rename_i h
  exact ⟨fun h2=>absurd h2 h,fun _=>rfl⟩
theorem agF {l:aZ} (h:dO l=0):l.2.1.length < 30000∧∀ r∈l.2.1,r.2.2.1.length < 30000:=by
 have g:=sK h
 exact ⟨by have:=g.2.1; omega,fun r hr=>by have:=(g.2.2 r hr).2.2.1; omega⟩
theorem again {l:aZ} (h:dO l=0):S6 30000 (fmt l)=some (l,0,0):=by
 have hl:=Ph h
 rw [ah2 (fmt l) (by omega) (by omega),ayg (aij h) h]
theorem aNw (s:List UInt8) (i0:fq .str s) (z0:gT reachBytes .str s):S3 30000 s=some true:=by
 unfold S3
 have e8:S5 30000=some true:=rfl
 simp only [PI,PJ,PN,PL,PO,PQ,PK,PM,g3,e8,ah,cH,aj]
 by_cases hs:(s.length:Int) > 0x7D0
 ·rw [decide_eq_true hs]; simp only [ak]
 ·rw [decide_eq_false hs]
  simp only [aj]
  have hne:∀ e:Int,(e != e)=false:=by intro e; simp
  have heq:∀ e:Int,(e==e)=true:=by intro e; simp
  simp only [ah2 s (by omega) (by omega),aMV s (by omega) (by omega),ah,hne,aj]
  obtain ⟨o1,o2⟩:=ayc s
  generalize lB s=o at o1 o2
  obtain ⟨l,ln,e⟩:=o
  simp only at o1 o2 ⊢
  have hsm:l.2.1.length < 30000∧∀ r∈l.2.1,r.2.2.1.length < 30000:=by
   by_cases he:e=0
   ·exact agF (o1 he)
   ·rw [o2 he]; exact ⟨by simp,by simp⟩
  simp only [v8 l l hsm.1 hsm.2,ah,Sc,cH,aj]
  by_cases he:e=0
  ·have e1:(e != 0)=false:=by simpa using he
   have hl:=o1 he
   simp only [e1,aj,ah1 l (.inl hl),if_pos hl,ah,again hl,heq,ak,v8 l l hsm.1 hsm.2,Sc]
  ·have e1:(e != 0)=true:=by simpa using he
   simp only [e1,ak,heq]
theorem aMT (l:aZ):fh 30000 l=some (if dO l=0 then (fmt l,0) else ([],dO l)):=by
 by_cases h:dO l=0
 ·rw [if_pos h,aMS h]
 ·rw [if_neg h]
  have hv:=Ii l
  have e0:(dO l != 0)=true:=by simpa using h
  unfold fh
  simp only [my,mR,mM,mS,mT,mU,mK,mz,mA,mB,mC,mD,mE,mF,mG,mH,mI,mJ,mL,mN,mO,mP,mQ,g12,hv,ah,e0,ak]
theorem awM (l:aZ) (i0:fq (.pair .str (.pair (.sl (.pair (.int .i64) (.pair (.int .i64) (.pair (.sl .str) .unit)))) .unit)) l)
  (z0:gT reachBytes (.pair .str (.pair (.sl (.pair (.int .i64) (.pair (.int .i64) (.pair (.sl .str) .unit)))) .unit)) l):S4 30000 l=some true:=by
 unfold S4
 have e8:S5 30000=some true:=rfl
 have hname:l.1.length≤140737488355328:=by
  have h1:l.1.length≤reachBytes:=z0.1
  have:=reachBytes_lt
  omega
 obtain ⟨fa,ha,hfa⟩:=v10 l (avs z0) hname
 simp only [Qv,Qw,QB,Qz,QC,QD,QE,Qx,Qy,QA,g4,e8,ah,cH,aj,ha]
 cases fa with
 | false=>simp only [cE,ak]
 | true=>
   obtain ⟨a1,a2,a3⟩:=hfa rfl
   have hne:∀ e:Int,(e != e)=false:=by intro e; simp
   have hns:∀ e:List UInt8,(e != e)=false:=by intro e; simp
   have hn:=Classical.em (dO l=0)
   simp only [cH,aj,v11 l (by omega) (fun r hr=>by have:=(a3 r hr).1; omega),ah,ah1 l hn,aMT,Si,Ii,hne,hns]
   by_cases h:dO l=0
   ·rw [if_pos h]
    have e1:((0:Int) != 0)=false:=rfl
    have e2:((0:Int)==0)=true:=rfl
    have hsm:=agF h
    simp only [e1,e2,aj,ak,again h,ah,v8 l l hsm.1 hsm.2,Sc]
   ·rw [if_neg h]
    have e1:(dO l != 0)=true:=by simpa using h
    simp only [e1,ak]
end Go.Fw.L19
