/- Own work. -/
import Derived.Test.YtbdlccajpcomjaaDoorFwMk17
import Derived.Test.YtbdlccajpcomjaaDoorFwB6
import Derived.Lib.ItoaNum
set_option linter.unusedVariables false
set_option linter.unusedSimpArgs false
namespace Go.Fw.L19
open Go Go.Fw
set_option maxRecDepth 100000
abbrev Rul:Type:=Int×(Int×(List (List UInt8)×Unit))
abbrev Lic:Type:=List UInt8×(List Rul×Unit)
def sm (c:Int):Bool:=decide (c≥97)&&decide (c≤122)
def dg (c:Int):Bool:=decide (c≥48)&&decide (c≤57)
theorem v61 (c:Int):S61 30000 c=some (sm c):=by
 unfold S61 sm
 simp only [g61_2,g61_2b,g61]
 cases decide (c≥97)<;>rfl
theorem v73 (c:Int):S73 30000 c=some (sm c):=by
 unfold S73 sm
 simp only [g73_2,g73_2b,g73]
 cases decide (c≥97)<;>rfl
theorem v62 (c:Int):S62 30000 c=some (dg c):=by
 unfold S62 dg
 simp only [g62_2,g62_2b,g62]
 cases decide (c≥48)<;>rfl
theorem v74 (c:Int):S74 30000 c=some (dg c):=by
 unfold S74 dg
 simp only [g74_2,g74_2b,g74]
 cases decide (c≥48)<;>rfl
theorem lname (s:List UInt8) (hs:s.length≤BIG) {R:Type} (k:Int→Option R):
  ∀ (m:Nat) (i:Int),0≤i→i≤s.length+1→l55_18 (S61 30000) (S62 30000) k (fun _ i=>k i) m s i=l58_15 (S73 30000) (S74 30000) (fun _ i=>k i) m s i:=by
 intro m
 induction m with
 | zero=>intro i _ _; rfl
 | succ m ih=>
   intro i h0 h1
   unfold l55_18 l58_15
   simp only [g55_0,g55_1,g55_2,g55_4,g55_5,g55_7,g55_8,g55_9,g55_10,g55_11,g55_12,g55_17,g55_18,g55_20,g55_21,g55,g58_0,g58_1,g58_2,g58_4,g58_5,g58_7,g58_8,g58_10,g58_12,g58_14,g58_15,g58_17,g58_18,g58,v61,v62,v73,v74,Option.bind_some]
   by_cases hi:i < (s.length:Int)
   ·have d:decide (i < (s.length:Int))=true:=decide_eq_true hi
    have hb:0≤i∧i < (s.length:Int):=⟨h0,hi⟩
    have w1:IntKind.i64.wrap (i+1)=i+1:=wrap_id (by unfold BIG at hs; omega)
    have w2:IntKind.i64.wrap (i+2)=i+2:=wrap_id (by unfold BIG at hs; omega)
    simp only [d,bT,if_pos hb,w1,w2]
    generalize hc:((s.getD i.toNat 0).toNat:Int)=c
    cases h3:sm c with
    | true=>simp only [bT]; exact ih (i+1) (by omega) (by omega)
    | false=>
      simp only [bF]
      cases h4:dg c with
      | true=>simp only [bT]; exact ih (i+1) (by omega) (by omega)
      | false=>
        simp only [bF]
        by_cases h5:c=45
        ·have e1:(c==(45:Int))=true:=by simpa using h5
         have e2:(c != (45:Int))=false:=by simp [h5]
         simp only [e1,e2,bT,bF]
         by_cases h6:i+1 < (s.length:Int)
         ·have e3:decide (i+1 < (s.length:Int))=true:=decide_eq_true h6
          have e4:((i+1)==(s.length:Int))=false:=by
           simp only [beq_eq_false_iff_ne,ne_eq]; omega
          have hb2:0≤i+1∧i+1 < (s.length:Int):=by omega
          simp only [e3,e4,bT,bF,if_pos hb2]
          generalize ((s.getD (i+1).toNat 0).toNat:Int)=c2
          cases h7:sm c2 with
          | true=>simp only [bT,Bool.not_true,bF]; exact ih (i+2) (by omega) (by omega)
          | false=>
            simp only [bF,Bool.not_false,bT]
            cases h8:dg c2 with
            | true=>simp only [bT,Bool.not_true,bF]; exact ih (i+2) (by omega) (by omega)
            | false=>simp only [bF,Bool.not_false,bT]
         ·have e3:decide (i+1 < (s.length:Int))=false:=decide_eq_false h6
          have e4:((i+1)==(s.length:Int))=true:=by
           simp only [beq_iff_eq]; omega
          simp only [e3,e4,bT,bF]
        ·have e1:(c==(45:Int))=false:=by simpa using h5
         have e2:(c != (45:Int))=true:=by simpa using h5
         simp only [e1,e2,bT,bF]
   ·have d:decide (i < (s.length:Int))=false:=decide_eq_false hi
    simp only [d,bF]
theorem lname_some (s:List UInt8) (hs:s.length≤BIG):
  ∀ (m:Nat) (i:Int),0≤i→i≤s.length+1→(s.length:Int)+1 - i < m→∃ n,l58_15 (S73 30000) (S74 30000) (fun _ i=>some i) m s i=some n:=by
 intro m
 induction m with
 | zero=>intro i h0 h1 h2; omega
 | succ m ih=>
   intro i h0 h1 h2
   unfold l58_15
   simp only [g58_0,g58_1,g58_2,g58_4,g58_5,g58_7,g58_8,g58_10,g58_12,g58_14,g58_15,g58_17,g58_18,g58,v73,v74,Option.bind_some]
   by_cases hi:i < (s.length:Int)
   ·have d:decide (i < (s.length:Int))=true:=decide_eq_true hi
    have hb:0≤i∧i < (s.length:Int):=⟨h0,hi⟩
    have w1:IntKind.i64.wrap (i+1)=i+1:=wrap_id (by unfold BIG at hs; omega)
    have w2:IntKind.i64.wrap (i+2)=i+2:=wrap_id (by unfold BIG at hs; omega)
    simp only [d,bT,if_pos hb,w1,w2]
    generalize hc:((s.getD i.toNat 0).toNat:Int)=c
    cases h3:sm c with
    | true=>simp only [bT]; exact ih (i+1) (by omega) (by omega) (by omega)
    | false=>
      simp only [bF]
      cases h4:dg c with
      | true=>simp only [bT]; exact ih (i+1) (by omega) (by omega) (by omega)
      | false=>
        simp only [bF]
        cases e2:(c != (45:Int)) with
        | true=>exact ⟨i,by simp only [bT]⟩
        | false=>
          simp only [bF]
          by_cases h6:i+1 < (s.length:Int)
          ·have e4:((i+1)==(s.length:Int))=false:=by
            simp only [beq_eq_false_iff_ne,ne_eq]; omega
           have hb2:0≤i+1∧i+1 < (s.length:Int):=by omega
           simp only [e4,bF,if_pos hb2]
           generalize ((s.getD (i+1).toNat 0).toNat:Int)=c2
           cases h7:sm c2 with
           | true=>simp only [Bool.not_true,bF]; exact ih (i+2) (by omega) (by omega) (by omega)
           | false=>
             simp only [Bool.not_false,bT]
             cases h8:dg c2 with
             | true=>simp only [Bool.not_true,bF]; exact ih (i+2) (by omega) (by omega) (by omega)
             | false=>exact ⟨i,by simp only [Bool.not_false,bT]⟩
          ·have e4:((i+1)==(s.length:Int))=true:=by
            simp only [beq_iff_eq]; omega
           exact ⟨i,by simp only [e4,bT]⟩
   ·have d:decide (i < (s.length:Int))=false:=decide_eq_false hi
    exact ⟨i,by simp only [d,bF]⟩
theorem v55 (s:List UInt8) (hs:s.length < 29900):∃ n,S55 30000 s=some n∧S58 30000 s=some n:=by
 have hb:s.length≤BIG:=by unfold BIG; omega
 have e1:=lname s hb (R:=Int) some 30000 1 (by omega) (by omega)
 obtain ⟨n,e2⟩:=lname_some s hb 30000 1 (by omega) (by omega) (by omega)
 unfold S55 S58
 simp only [g55_0,g55_1,g55_2,g55_4,g55_5,g55_7,g55_8,g55_9,g55_10,g55_11,g55_12,g55_17,g55_18,g55_20,g55_21,g55,g58_0,g58_1,g58_2,g58_4,g58_5,g58_7,g58_8,g58_10,g58_12,g58_14,g58_15,g58_17,g58_18,g58,v61,v73,Option.bind_some]
 cases h0:(s==([]:List UInt8)) with
 | true=>exact ⟨0,by simp only [bT],by simp only [bT]⟩
 | false=>
   have hne:s≠[]:=by simpa using h0
   have hp:0 < s.length:=List.length_pos_iff.2 hne
   have hb0:(0:Int)≤0∧(0:Int) < (s.length:Int):=by omega
   simp only [bF,if_pos hb0]
   cases sm ((s.getD (0:Int).toNat 0).toNat:Int) with
   | false=>exact ⟨0,by simp only [Bool.not_false,bT],by simp only [Bool.not_false,bT]⟩
   | true=>
     refine ⟨n,?_,?_⟩
     ·simp only [Bool.not_true,bF]
      rw [e2] at e1; exact e1
     ·simp only [Bool.not_true,bF]
      exact e2
theorem v38 (s:List UInt8):∃ b,S38 30000 s=some b∧S40 30000 s=some b:=by
 unfold S38 S40
 simp only [g38_2,g38_2b,g38,g40_2,g40_2b,g40]
 cases h0:(s != ([]:List UInt8)) with
 | false=>exact ⟨false,by simp only [bF],by simp only [bF]⟩
 | true=>
   simp only [bT]
   by_cases h1:(s.length:Int)≤20
   ·obtain ⟨n,e1,e2⟩:=v55 s (by omega)
    have d:decide ((s.length:Int)≤20)=true:=decide_eq_true h1
    exact ⟨n==(s.length:Int),by simp only [d,bT,e1,Option.bind_some],by simp only [d,bT,e2,Option.bind_some]⟩
   ·have d:decide ((s.length:Int)≤20)=false:=decide_eq_false h1
    exact ⟨false,by simp only [d,bF],by simp only [d,bF]⟩
def lett (c:Int):Bool:=match S76 30000 c with | some b=>b | none=>false
theorem letters_ok:((List.range 256).all fun n=>S86 30000 (n:Int)==some (lett (n:Int))&&S76 30000 (n:Int)==some (lett (n:Int)))=true:=by kernel_rfl
theorem vlett (b:UInt8):S86 30000 (b.toNat:Int)=some (lett (b.toNat:Int))∧S76 30000 (b.toNat:Int)=some (lett (b.toNat:Int)):=by
 have:=List.all_eq_true.1 letters_ok b.toNat (List.mem_range.2 b.toNat_lt)
 simp only [Bool.and_eq_true,beq_iff_eq] at this
 exact this
def fl (b:UInt8):UInt8:=if 65≤b.toNat∧b.toNat≤90 then UInt8.ofNat (b.toNat+32) else b
def fold (s:List UInt8):List UInt8:=s.map fl
theorem fl_int (b:UInt8) (h:65≤b.toNat∧b.toNat≤90):IntKind.u8.wrap (IntKind.u8.wrap ((b.toNat:Int) - 65)+97)=((fl b).toNat:Int):=by
 have e:(fl b).toNat=b.toNat+32:=by
  unfold fl; rw [if_pos h]
  simp [UInt8.toNat_ofNat]
  omega
 rw [e]
 have w:∀ n:Int,0≤n→n≤255→IntKind.u8.wrap n=n:=by
  intro n h0 h1
  simp only [IntKind.wrap,IntKind.signed,IntKind.bits]
  simp
  omega
 rw [w ((b.toNat:Int) - 65) (by omega) (by omega),w ((b.toNat:Int) - 65+97) (by omega) (by omega)]
 omega
theorem back_map (s:List UInt8):(s.map fun b=>(b.toNat:Int)).map (fun n=>UInt8.ofNat n.toNat)=s:=by
 rw [List.map_map]
 conv=>rhs; rw [←List.map_id s]
 apply List.map_congr_left
 intro b _
 simp
theorem set_at {α:Type} (pre ys:List α) (y z:α):(pre++y::ys).set (Int.toNat (pre.length:Int)) z=pre++z::ys:=by simp
theorem lt_at {α:Type} (pre ys:List α) (y:α):(Int.toNat (pre.length:Int) < (pre++y::ys).length)=True:=by simp
theorem lfold {R:Type} (k0:List Int→Int→Int→Option R):
  ∀ (ys:List UInt8) (pre:List Int) (m:Nat),ys.length < m→(pre++ys.map fun b=>(b.toNat:Int)).length≤BIG→
    l42_13 k0 m (pre++ys.map fun b=>(b.toNat:Int)) ((pre++ys.map fun b=>(b.toNat:Int)).length:Int) (pre.length:Int)=k0 (pre++(fold ys).map fun b=>(b.toNat:Int)) ((pre++ys.map fun b=>(b.toNat:Int)).length:Int) ((pre++ys.map fun b=>(b.toNat:Int)).length:Int):=by
 intro ys
 induction ys with
 | nil=>
   intro pre m hm hb
   cases m with
   | zero=>simp at hm
   | succ m=>
     unfold l42_13
     simp only [g42_16,g42_2,g42_3,g42_9,g42_7,g42_10,g42_11,g42_12,g42_13,g42_15,g42_16b,g42,List.map_nil,lt_nil,bF]
     simp [fold]
 | cons y ys ih=>
   intro pre m hm hb
   cases m with
   | zero=>simp at hm
   | succ m=>
     rw [List.map_cons] at hb ⊢
     unfold l42_13
     simp only [g42_16,g42_2,g42_3,g42_9,g42_7,g42_10,g42_11,g42_12,g42_13,g42_15,g42_16b,g42,lt_cons,in_cons,at_cons,if_true,bT,lt_at,set_at,wrap_snoc pre _ _ hb]
     by_cases h1:65≤y.toNat∧y.toNat≤90
     ·have d1:decide ((y.toNat:Int)≥65)=true:=decide_eq_true (by omega)
      have d2:decide ((y.toNat:Int)≤90)=true:=decide_eq_true (by omega)
      simp only [d1,d2,bT,fl_int y h1]
      have:=ih (pre++[((fl y).toNat:Int)]) m (by simpa using hm) (by simpa using hb)
      simp only [List.append_assoc,List.singleton_append,List.length_append,List.length_cons,List.length_map,List.length_nil] at this ⊢
      simp only [fold,List.map_cons] at this ⊢
      exact this
     ·have hf:fl y=y:=by unfold fl; rw [if_neg h1]
      have step:=ih (pre++[(y.toNat:Int)]) m (by simpa using hm) (by simpa using hb)
      simp only [List.append_assoc,List.singleton_append,List.length_append,List.length_cons,List.length_map,List.length_nil] at step ⊢
      simp only [fold,List.map_cons,hf] at step ⊢
      by_cases h2:65≤y.toNat
      ·have d1:decide ((y.toNat:Int)≥65)=true:=decide_eq_true (by omega)
       have d2:decide ((y.toNat:Int)≤90)=false:=decide_eq_false (by omega)
       simp only [d1,d2,bT,bF]
       exact step
      ·have d1:decide ((y.toNat:Int)≥65)=false:=decide_eq_false (by omega)
       simp only [d1,bF]
       exact step
theorem v42 (s:List UInt8) (hs:s.length < 30000):S42 30000 s=some (fold s):=by
 unfold S42
 have:=lfold (R:=List UInt8) (fun x _ _=>some (x.map fun n=>UInt8.ofNat n.toNat)) s [] 30000 hs (by unfold BIG; simp; omega)
 simp only [g42_16,g42_2,g42_3,g42_9,g42_7,g42_10,g42_11,g42_12,g42_13,g42_15,g42_16b,g42]
 simp only [List.nil_append,List.length_nil,back_map] at this
 exact this
theorem lfoldr {R:Type} (k0:List UInt8→List Int→Int→Option R):
  ∀ (ys pre:List UInt8) (m:Nat),ys.length < m→(pre++ys).length≤BIG→
    l75_13 k0 m (pre++ys) ((fold pre).map (fun b=>(b.toNat:Int))++List.replicate ys.length 0) (pre.length:Int)=k0 (pre++ys) ((fold (pre++ys)).map fun b=>(b.toNat:Int)) ((pre++ys).length:Int):=by
 intro ys
 induction ys with
 | nil=>
   intro pre m hm hb
   cases m with
   | zero=>simp at hm
   | succ m=>
     unfold l75_13
     simp only [g75_16,g75_2,g75_3,g75_9,g75_7,g75_10,g75_11,g75_12,g75_13,g75_15,g75_16b,g75,lt_nil,bF]
     simp
 | cons y ys ih=>
   intro pre m hm hb
   cases m with
   | zero=>simp at hm
   | succ m=>
     have hpl:((fold pre).map (fun b=>(b.toNat:Int))).length=pre.length:=by simp [fold]
     have e1:∀ z:Int,(((fold pre).map (fun b=>(b.toNat:Int))++z::List.replicate ys.length 0).length:Int)=((pre++y::ys).length:Int):=by intro z; simp [fold]
     have e2:∀ z z2:Int,((fold pre).map (fun b=>(b.toNat:Int))++z::List.replicate ys.length 0).set (Int.toNat (pre.length:Int)) z2=(fold pre).map (fun b=>(b.toNat:Int))++z2::List.replicate ys.length 0:=by
      intro z z2
      have:=set_at ((fold pre).map (fun b=>(b.toNat:Int))) (List.replicate ys.length 0) z z2
      rw [hpl] at this; exact this
     have e3:∀ z:Int,(Int.toNat (pre.length:Int) < ((fold pre).map (fun b=>(b.toNat:Int))++z::List.replicate ys.length 0).length)=True:=by intro z; simp [fold]
     rw [List.length_cons,List.replicate_succ]
     unfold l75_13
     simp only [g75_16,g75_2,g75_3,g75_9,g75_7,g75_10,g75_11,g75_12,g75_13,g75_15,g75_16b,g75,e1,e2,e3,lt_cons,in_cons,at_cons,if_true,bT,wrap_snoc pre _ _ hb]
     have fin:(fold (pre++[y])).map (fun b=>(b.toNat:Int))=(fold pre).map (fun b=>(b.toNat:Int))++[((fl y).toNat:Int)]:=by simp [fold]
     have step:=ih (pre++[y]) m (by simpa using hm) (by simpa using hb)
     rw [fin] at step
     simp only [List.append_assoc,List.singleton_append] at step
     by_cases h1:65≤y.toNat∧y.toNat≤90
     ·have d1:decide ((y.toNat:Int)≥65)=true:=decide_eq_true (by omega)
      have d2:decide ((y.toNat:Int)≤90)=true:=decide_eq_true (by omega)
      simp only [d1,d2,bT,fl_int y h1]
      exact step
     ·have hf:fl y=y:=by unfold fl; rw [if_neg h1]
      rw [hf] at step
      by_cases h2:65≤y.toNat
      ·have d1:decide ((y.toNat:Int)≥65)=true:=decide_eq_true (by omega)
       have d2:decide ((y.toNat:Int)≤90)=false:=decide_eq_false (by omega)
       simp only [d1,d2,bT,bF]
       exact step
      ·have d1:decide ((y.toNat:Int)≥65)=false:=decide_eq_false (by omega)
       simp only [d1,bF]
       exact step
theorem v75 (s:List UInt8) (hs:s.length < 30000):S75 30000 s=some (fold s):=by
 unfold S75
 have:=lfoldr (R:=List UInt8) (fun _ x _=>some (x.map fun n=>UInt8.ofNat n.toNat)) s [] 30000 hs (by unfold BIG; simp; omega)
 have hb:0≤(s.length:Int)∧(s.length:Int)≤(s.length:Int)∧(s.length:Int)≤((140737488355328:Nat):Int):=by omega
 simp only [g75_16,g75_2,g75_3,g75_9,g75_7,g75_10,g75_11,g75_12,g75_13,g75_15,g75_16b,g75,if_pos hb,Int.toNat_natCast]
 simp only [List.nil_append,List.length_nil,back_map,fold,List.map_nil] at this
 exact this
theorem lhas {R:Type} (k0:Bool→Option R) (k1:List (List UInt8)→List UInt8→Int→Option R) (v:List UInt8):
  ∀ (ys pre:List (List UInt8)) (m:Nat),ys.length < m→(pre++ys).length≤BIG→(∀ a b c,k1 a b c=k0 false)→
    l60_10 k0 k1 m (pre++ys) v (pre.length:Int)=k0 (ys.contains v):=by
 intro ys
 induction ys with
 | nil=>
   intro pre m hm hb hk
   cases m with
   | zero=>simp at hm
   | succ m=>
     unfold l60_10
     simp only [g60_0,g60_1,g60_2,g60_4,g60_5,g60_8,g60_9,g60_10,g60_12,g60_13,g60,lt_nil,bF,hk]
     rfl
 | cons y ys ih=>
   intro pre m hm hb hk
   cases m with
   | zero=>simp at hm
   | succ m=>
     unfold l60_10
     simp only [g60_0,g60_1,g60_2,g60_4,g60_5,g60_8,g60_9,g60_10,g60_12,g60_13,g60,lt_cons,in_cons,at_cons,if_true,bT]
     have hcm:(y==v)=(v==y):=by
      rw [Bool.eq_iff_iff]; simp only [beq_iff_eq]; exact eq_comm
     rw [List.contains_cons,hcm]
     cases hv:(v==y) with
     | true=>simp only [bT,Bool.true_or]
     | false=>
       simp only [bF,Bool.false_or,wrap_snoc pre ys y hb]
       rw [app_cons pre ys y,ih (pre++[y]) m (by simpa using hm) (by rw [←app_cons]; exact hb) hk]
theorem v60 (l:List (List UInt8)) (v:List UInt8) (hl:l.length < 30000):S60 30000 l v=some (l.contains v):=by
 have:=lhas (R:=Bool) some (fun _ _ _=>some false) v l [] 30000 hl (by unfold BIG; simp; omega) (fun _ _ _=>rfl)
 unfold S60
 simp only [g60_0,g60_1,g60_2,g60_4,g60_5,g60_8,g60_9,g60_10,g60_12,g60_13,g60]
 simpa using this
theorem lindexS {R:Type} (k0:Int→Option R) (k1:List (List UInt8)→List UInt8→Int→Int→Option R) (v:List UInt8):
  ∀ (ys pre:List (List UInt8)) (m:Nat),ys.length < m→(pre++ys).length≤BIG→(∀ a b c d,k1 a b c d=k0 (-1))→
    ∃ j:Int,l72_12 k0 k1 m (pre++ys) v ((pre++ys).length:Int) (pre.length:Int)=k0 j∧(decide (0≤j)=ys.contains v):=by
 intro ys
 induction ys with
 | nil=>
   intro pre m hm hb hk
   cases m with
   | zero=>simp at hm
   | succ m=>
     refine ⟨-1,?_,rfl⟩
     unfold l72_12
     simp only [g72_0,g72_1,g72_2,g72_8,g72_6,g72_10,g72_11,g72_12,g72_14,g72_15,g72,lt_nil,bF,hk]
 | cons y ys ih=>
   intro pre m hm hb hk
   cases m with
   | zero=>simp at hm
   | succ m=>
     unfold l72_12
     simp only [g72_0,g72_1,g72_2,g72_8,g72_6,g72_10,g72_11,g72_12,g72_14,g72_15,g72,lt_cons,in_cons,at_cons,if_true,bT]
     cases hv:(v==y) with
     | true=>exact ⟨(pre.length:Int),by simp only [bT],by rw [List.contains_cons,hv]; simp⟩
     | false=>
       obtain ⟨j,h1,h2⟩:=ih (pre++[y]) m (by simpa using hm) (by rw [←app_cons]; exact hb) hk
       refine ⟨j,?_,by rw [h2,List.contains_cons,hv]; simp⟩
       simp only [bF,wrap_snoc pre ys y hb]
       rw [app_cons pre ys y,h1]
theorem v57 (l:List (List UInt8)) (v:List UInt8) (hl:l.length < 30000):S57 30000 l v=some (l.contains v):=by
 obtain ⟨j,h1,h2⟩:=lindexS (R:=Int) some (fun _ _ _ _=>some (-1)) v l [] 30000 hl (by unfold BIG; simp; omega) (fun _ _ _ _=>rfl)
 have hi:S72 30000 l v=some j:=by
  unfold S72
  simp only [g72_0,g72_1,g72_2,g72_8,g72_6,g72_10,g72_11,g72_12,g72_14,g72_15,g72]
  simpa using h1
 unfold S57
 simp only [g57_2,g57_2b,g57,hi,Option.bind_some,ge_iff_le,h2]
def bad (w:List UInt8):Bool:=w.any fun b=>!lett (b.toNat:Int)
def wd (w:List UInt8):Int:=if 16 < w.length then 3 else if w=[]∨fold w≠w∨bad w=true then 2 else 0
theorem lbytes {R:Type} (f:Int×Unit→Option Bool) (p:UInt8→Bool) (hf:∀ b:UInt8,f ((b.toNat:Int),())=some (p b)) (k0:Int→Option R) (k1:List Int→(Int×Unit→Option Bool)→Int→Int→Option R):
  ∀ (ys:List UInt8) (pre:List Int) (m:Nat),ys.length < m→(pre++ys.map fun b=>(b.toNat:Int)).length≤BIG→(∀ a b c d,k1 a b c d=k0 (-1))→
    ∃ j:Int,l94_12 k0 k1 m (pre++ys.map fun b=>(b.toNat:Int)) f ((pre++ys.map fun b=>(b.toNat:Int)).length:Int) (pre.length:Int)=k0 j∧(decide (0≤j)=ys.any p):=by
 intro ys
 induction ys with
 | nil=>
   intro pre m hm hb hk
   cases m with
   | zero=>simp at hm
   | succ m=>
     refine ⟨-1,?_,rfl⟩
     unfold l94_12
     simp only [g94_0,g94_1,g94_2,g94_8,g94_6,g94_10,g94_11,g94_12,g94_14,g94_15,g94,List.map_nil,lt_nil,bF,hk]
 | cons y ys ih=>
   intro pre m hm hb hk
   cases m with
   | zero=>simp at hm
   | succ m=>
     rw [List.map_cons] at hb ⊢
     unfold l94_12
     simp only [g94_0,g94_1,g94_2,g94_8,g94_6,g94_10,g94_11,g94_12,g94_14,g94_15,g94,lt_cons,in_cons,at_cons,if_true,bT,hf,Option.bind_some]
     cases hv:p y with
     | true=>exact ⟨(pre.length:Int),by simp only [bT],by rw [List.any_cons,hv]; simp⟩
     | false=>
       obtain ⟨j,h1,h2⟩:=ih (pre++[(y.toNat:Int)]) m (by simpa using hm) (by rw [←app_cons]; exact hb) hk
       refine ⟨j,?_,by rw [h2,List.any_cons,hv]; simp⟩
       simp only [bF,wrap_snoc pre _ _ hb]
       rw [app_cons pre _ _,h1]
theorem v84 (f:Int×Unit→Option Bool) (p:UInt8→Bool) (hf:∀ b:UInt8,f ((b.toNat:Int),())=some (p b)) (w:List UInt8) (hw:w.length < 30000):S84 30000 (w.map fun b=>(b.toNat:Int)) f=some (w.any p):=by
 obtain ⟨j,h1,h2⟩:=lbytes f p hf (R:=Int) some (fun _ _ _ _=>some (-1)) w [] 30000 hw (by unfold BIG; simp; omega) (fun _ _ _ _=>rfl)
 have hi:S94 30000 (w.map fun b=>(b.toNat:Int)) f=some j:=by
  unfold S94
  simp only [g94_0,g94_1,g94_2,g94_8,g94_6,g94_10,g94_11,g94_12,g94_14,g94_15,g94]
  simpa using h1
 unfold S84
 simp only [g84_2,g84_2b,g84,hi,Option.bind_some,ge_iff_le,h2]
theorem v85 (b:UInt8):S85 30000 (b.toNat:Int)=some (!lett (b.toNat:Int)):=by
 unfold S85
 simp only [g85_2,g85_2b,g85,(vlett b).1,Option.bind_some]
theorem v71 (w:List UInt8) (hw:w.length≤16):S71 30000 [w]=some (if w=[] then ([],7) else if bad w=true then ([],2) else (w,0)):=by
 unfold S71
 have e1:decide ((0:Int) < (([w]:List (List UInt8)).length:Int))=true:=rfl
 have e2:((0:Int)≤0∧(0:Int) < (([w]:List (List UInt8)).length:Int))=True:=by simp
 have e3:IntKind.i64.wrap ((0:Int)+1)=1:=rfl
 have e4:decide ((1:Int) < (([w]:List (List UInt8)).length:Int))=false:=rfl
 have e5:([w]:List (List UInt8)).getD (Int.toNat 0) []=w:=rfl
 have ej:S87 30000 [w] [32]=some w:=rfl
 have e6:decide ((w.length:Int) > 120)=false:=decide_eq_false (by omega)
 have ec:=v84 (fun x=>((S85 30000 x.1).bind fun b=>some [.v .bool b]).bind (unE .bool)) (fun b=>!lett (b.toNat:Int)) (fun b=>by simp only [v85,Option.bind_some]; rfl) w (by omega)
 have l1:∀ (m:Nat) {R:Type} (k0:List UInt8→Int→Option R) (k1:List (List UInt8)→List (List UInt8)→Int→Int→Option R),l71_14 (S84 30000) (S85 30000) k0 k1 (m+2) [w] [w] 1 0=if w=[] then k0 [] 7 else if bad w=true then k0 [] 2 else k1 [w] [w] 1 1:=by
  intro m R k0 k1
  unfold l71_14
  have f1:decide ((0:Int) < 1)=true:=rfl
  simp only [g71_0,g71_1,g71_2,g71_4,g71_5,g71_6,g71_8,g71_9,g71_12,g71_13,g71_14,g71_16,g71_17,g71_18,g71_20,g71_21,g71,f1,bT,e2,if_true,e5]
  by_cases h0:w=[]
  ·have:(w==([]:List UInt8))=true:=by simpa using h0
   simp only [this,bT,if_pos h0]
  ·have:(w==([]:List UInt8))=false:=by simpa using h0
   simp only [this,bF,if_neg h0]
   rw [ec]
   simp only [Option.bind_some]
   change brB (bad w) _ _=_
   cases hb:bad w with
   | true=>simp only [bT,if_true]
   | false=>
     simp only [bF,Bool.false_eq_true,if_false,e3]
     unfold l71_14
     have f2:decide ((1:Int) < 1)=false:=rfl
     simp only [g71_0,g71_1,g71_2,g71_4,g71_5,g71_6,g71_8,g71_9,g71_12,g71_13,g71_14,g71_16,g71_17,g71_18,g71_20,g71_21,g71,f2,bF]
 simp only [g71_0,g71_1,g71_2,g71_4,g71_5,g71_6,g71_8,g71_9,g71_12,g71_13,g71_14,g71_16,g71_17,g71_18,g71_20,g71_21,g71]
 have el:(([w]:List (List UInt8)).length:Int)=1:=rfl
 rw [el,l1 29998]
 by_cases h0:w=[]
 ·simp only [if_pos h0]
 ·simp only [if_neg h0]
  cases hb:bad w with
  | true=>simp only [if_true]
  | false=>simp only [Bool.false_eq_true,if_false,ej,Option.bind_some,e6,bF]
theorem v56 (w:List UInt8):S56 30000 w=some (wd w):=by
 unfold S56 wd
 simp only [g56_0,g56_1,g56_2,g56_8,g56_6,g56_9,g56_10,g56]
 by_cases h1:16 < w.length
 ·have d:decide ((w.length:Int) > 16)=true:=decide_eq_true (by omega)
  simp only [d,bT,if_pos h1]
 ·have d:decide ((w.length:Int) > 16)=false:=decide_eq_false (by omega)
  simp only [d,bF,if_neg h1,v71 w (by omega),Option.bind_some,v42 w (by omega)]
  by_cases h2:w=[]
  ·simp only [if_pos h2,h2,true_or,if_true]
   rfl
  ·simp only [if_neg h2]
   cases hb:bad w with
   | true=>
     simp only [if_true,h2,false_or,or_true]
     rfl
   | false=>
     simp only [Bool.false_eq_true,if_false,h2,false_or,or_false]
     have e0:((0:Int) != 0)=false:=rfl
     simp only [e0,bF]
     by_cases h3:fold w=w
     ·have:(fold w != w)=false:=by simpa using h3
      rw [if_neg (by simpa using h3)]
      simp only [this,bF]
     ·have:(fold w != w)=true:=by simpa using h3
      rw [if_pos h3]
      simp only [this,bT]
theorem lword {R:Type} (k0:Int→Option R) (k1:List UInt8→Int→Option R):
  ∀ (ys pre:List UInt8) (m:Nat),ys.length < m→(pre++ys).length≤BIG→(∀ a b,k1 a b=k0 0)→
    l59_16 (S76 30000) k0 k1 m (pre++ys) (pre.length:Int)=k0 (if bad ys=true then 2 else 0):=by
 intro ys
 induction ys with
 | nil=>
   intro pre m hm hb hk
   cases m with
   | zero=>simp at hm
   | succ m=>
     unfold l59_16
     simp only [g59_0,g59_1,g59_2,g59_4,g59_5,g59_7,g59_8,g59_10,g59_11,g59_14,g59_15,g59_16,g59_18,g59_19,g59,lt_nil,bF,hk]
     rfl
 | cons y ys ih=>
   intro pre m hm hb hk
   cases m with
   | zero=>simp at hm
   | succ m=>
     unfold l59_16
     simp only [g59_0,g59_1,g59_2,g59_4,g59_5,g59_7,g59_8,g59_10,g59_11,g59_14,g59_15,g59_16,g59_18,g59_19,g59,lt_cons,in_cons,at_cons,if_true,bT,(vlett y).2,Option.bind_some]
     have hbc:bad (y::ys)=(!lett (y.toNat:Int) || bad ys):=rfl
     rw [hbc]
     cases hv:lett (y.toNat:Int) with
     | false=>simp only [Bool.not_false,bT,Bool.true_or,if_true]
     | true=>
       simp only [Bool.not_true,bF,Bool.false_or,wrap_snoc pre ys y hb]
       rw [app_cons pre ys y,ih (pre++[y]) m (by simpa using hm) (by rw [←app_cons]; exact hb) hk]
theorem v59 (w:List UInt8):S59 30000 w=some (wd w):=by
 unfold S59 wd
 simp only [g59_0,g59_1,g59_2,g59_4,g59_5,g59_7,g59_8,g59_10,g59_11,g59_14,g59_15,g59_16,g59_18,g59_19,g59]
 by_cases h1:16 < w.length
 ·have d:decide ((w.length:Int) > 16)=true:=decide_eq_true (by omega)
  simp only [d,bT,if_pos h1]
 ·have d:decide ((w.length:Int) > 16)=false:=decide_eq_false (by omega)
  have hl:=lword (R:=Int) some (fun _ _=>some 0) w [] 30000 (by omega) (by unfold BIG; simp; omega) (fun _ _=>rfl)
  simp only [List.nil_append,List.length_nil,Int.natCast_zero] at hl
  simp only [d,bF,if_neg h1,v75 w (by omega),Option.bind_some]
  by_cases h2:w=[]
  ·have:(w==([]:List UInt8))=true:=by simpa using h2
   simp only [this,bT]
   rw [if_pos (.inl h2)]
  ·have:(w==([]:List UInt8))=false:=by simpa using h2
   simp only [this,bF]
   by_cases h3:fold w=w
   ·have:(fold w != w)=false:=by simpa using h3
    simp only [this,bF,hl]
    cases hb:bad w with
    | true=>rw [if_pos rfl,if_pos (.inr (.inr rfl))]
    | false=>rw [if_neg (by simp),if_neg (by simp [h2,h3])]
   ·have:(fold w != w)=true:=by simpa using h3
    simp only [this,bT]
    rw [if_pos (.inr (.inl h3))]
def rlw:List (List UInt8)→List (List UInt8)→Int
 | [],_=>0
 | w::ws,pre=>if wd w≠0 then wd w else if pre.contains w=true then 5 else rlw ws (pre++[w])
def rul (r:Rul):Int:=if r.1 < 1∨12 < r.1∨r.2.1 < 0∨999 < r.2.1 then 6 else if 20 < r.2.2.1.length then 3 else rlw r.2.2.1 []
theorem take_pre {α:Type} (pre ys:List α):((pre++ys).drop (0:Int).toNat).take ((pre.length:Int).toNat - (0:Int).toNat)=pre:=by simp
theorem lrule {R:Type} (k0:Int→Option R) (k1:Rul→List (List UInt8)→Int→Int→Option R) (a b:Int):
  ∀ (ys pre:List (List UInt8)) (m:Nat),ys.length < m→(pre++ys).length≤20→(∀ a b c d,k1 a b c d=k0 0)→
    l39_23 (S56 30000) (S57 30000) k0 k1 m (a,b,(pre++ys),()) (pre++ys) ((pre++ys).length:Int) (pre.length:Int)=k0 (rlw ys pre):=by
 intro ys
 induction ys with
 | nil=>
   intro pre m hm hb hk
   cases m with
   | zero=>simp at hm
   | succ m=>
     unfold l39_23
     simp only [g39_0,g39_1,g39_2,g39_3,g39_4,g39_8,g39_9,g39_11,g39_16,g39_14,g39_17,g39_18,g39_21,g39_22,g39_23,g39_25,g39_26,g39,lt_nil,bF,hk,rlw]
 | cons y ys ih=>
   intro pre m hm hb hk
   cases m with
   | zero=>simp at hm
   | succ m=>
     have hb2:(pre++y::ys).length≤BIG:=by unfold BIG; omega
     have hq:(0:Int)≤0∧(0:Int)≤(pre.length:Int)∧(pre.length:Int)≤((pre++y::ys).length:Int)∧((pre++y::ys).length:Int)≤((pre++y::ys).length:Int):=by simp; omega
     have hpl:pre.length < 30000:=by simp at hb; omega
     unfold l39_23
     simp only [g39_0,g39_1,g39_2,g39_3,g39_4,g39_8,g39_9,g39_11,g39_16,g39_14,g39_17,g39_18,g39_21,g39_22,g39_23,g39_25,g39_26,g39,lt_cons,in_cons,at_cons,if_true,bT,v56,Option.bind_some,rlw]
     by_cases h1:wd y=0
     ·have e1:(wd y != 0)=false:=by simpa using h1
      simp only [e1,bF,if_pos hq,take_pre,v57 pre y hpl,Option.bind_some]
      rw [if_neg (by simpa using h1)]
      cases hc:pre.contains y with
      | true=>simp only [bT,if_true]
      | false=>
        simp only [bF,Bool.false_eq_true,if_false,wrap_snoc pre ys y hb2]
        rw [app_cons pre ys y,ih (pre++[y]) m (by simpa using hm) (by rw [←app_cons]; exact hb) hk]
     ·have e1:(wd y != 0)=true:=by simpa using h1
      simp only [e1,bT]
      rw [if_pos h1]
theorem v39 (r:Rul):S39 30000 r=some (rul r):=by
 obtain ⟨a,b,ws,u⟩:=r
 unfold S39 rul
 simp only [g39_0,g39_1,g39_2,g39_3,g39_4,g39_8,g39_9,g39_11,g39_16,g39_14,g39_17,g39_18,g39_21,g39_22,g39_23,g39_25,g39_26,g39]
 by_cases h1:a < 1
 ·simp only [h1,decide_true,bT,true_or,if_true]
 by_cases h2:a > 12
 ·simp only [h1,h2,decide_true,decide_false,bT,bF,true_or,or_true,if_true,false_or]
 by_cases h3:b < 0
 ·simp only [h1,h2,h3,decide_true,decide_false,bT,bF,true_or,or_true,if_true,false_or]
 by_cases h4:b > 999
 ·simp only [h1,h2,h3,h4,decide_true,decide_false,bT,bF,true_or,or_true,if_true,false_or]
 rw [if_neg (by omega)]
 simp only [h1,h2,h3,h4,decide_false,bF]
 by_cases h5:20 < ws.length
 ·have d:decide ((ws.length:Int) > 20)=true:=decide_eq_true (by omega)
  simp only [d,bT,if_pos h5]
 ·have d:decide ((ws.length:Int) > 20)=false:=decide_eq_false (by omega)
  have:=lrule (R:=Int) some (fun _ _ _ _=>some 0) a b ws [] 30000 (by omega) (by simpa using h5) (fun _ _ _ _=>rfl)
  simp only [d,bF,if_neg h5]
  simpa using this
theorem lruler {R:Type} (k0:Int→Option R) (k1:Rul→Int→Option R) (a b:Int):
  ∀ (ys pre:List (List UInt8)) (m:Nat),ys.length < m→(pre++ys).length≤20→(∀ a b,k1 a b=k0 0)→
    l41_21 (S59 30000) (S60 30000) k0 k1 m (a,b,(pre++ys),()) (pre.length:Int)=k0 (rlw ys pre):=by
 intro ys
 induction ys with
 | nil=>
   intro pre m hm hb hk
   cases m with
   | zero=>simp at hm
   | succ m=>
     unfold l41_21
     simp only [g41_0,g41_1,g41_2,g41_4,g41_5,g41_7,g41_8,g41_14,g41_12,g41_15,g41_16,g41_19,g41_20,g41_21,g41_23,g41_24,g41,lt_nil,bF,hk,rlw]
 | cons y ys ih=>
   intro pre m hm hb hk
   cases m with
   | zero=>simp at hm
   | succ m=>
     have hb2:(pre++y::ys).length≤BIG:=by unfold BIG; omega
     have hq:(0:Int)≤0∧(0:Int)≤(pre.length:Int)∧(pre.length:Int)≤((pre++y::ys).length:Int)∧((pre++y::ys).length:Int)≤((pre++y::ys).length:Int):=by simp; omega
     have hpl:pre.length < 30000:=by simp at hb; omega
     unfold l41_21
     simp only [g41_0,g41_1,g41_2,g41_4,g41_5,g41_7,g41_8,g41_14,g41_12,g41_15,g41_16,g41_19,g41_20,g41_21,g41_23,g41_24,g41,lt_cons,in_cons,at_cons,if_true,bT,v59,Option.bind_some,rlw]
     by_cases h1:wd y=0
     ·have e1:(wd y != 0)=false:=by simpa using h1
      simp only [e1,bF,if_pos hq,take_pre,v60 pre y hpl,Option.bind_some]
      rw [if_neg (by simpa using h1)]
      cases hc:pre.contains y with
      | true=>simp only [bT,if_true]
      | false=>
        simp only [bF,Bool.false_eq_true,if_false,wrap_snoc pre ys y hb2]
        rw [app_cons pre ys y,ih (pre++[y]) m (by simpa using hm) (by rw [←app_cons]; exact hb) hk]
     ·have e1:(wd y != 0)=true:=by simpa using h1
      simp only [e1,bT]
      rw [if_pos h1]
theorem v41 (r:Rul):S41 30000 r=some (rul r):=by
 obtain ⟨a,b,ws,u⟩:=r
 unfold S41 rul
 simp only [g41_0,g41_1,g41_2,g41_4,g41_5,g41_7,g41_8,g41_14,g41_12,g41_15,g41_16,g41_19,g41_20,g41_21,g41_23,g41_24,g41]
 by_cases h1:a < 1
 ·simp only [h1,decide_true,bT,true_or,if_true]
 by_cases h2:a > 12
 ·simp only [h1,h2,decide_true,decide_false,bT,bF,true_or,or_true,if_true,false_or]
 by_cases h3:b < 0
 ·simp only [h1,h2,h3,decide_true,decide_false,bT,bF,true_or,or_true,if_true,false_or]
 by_cases h4:b > 999
 ·simp only [h1,h2,h3,h4,decide_true,decide_false,bT,bF,true_or,or_true,if_true,false_or]
 rw [if_neg (by omega)]
 simp only [h1,h2,h3,h4,decide_false,bF]
 by_cases h5:20 < ws.length
 ·have d:decide ((ws.length:Int) > 20)=true:=decide_eq_true (by omega)
  simp only [d,bT,if_pos h5]
 ·have d:decide ((ws.length:Int) > 20)=false:=decide_eq_false (by omega)
  have:=lruler (R:=Int) some (fun _ _=>some 0) a b ws [] 30000 (by omega) (by simpa using h5) (fun _ _=>rfl)
  simp only [d,bF,if_neg h5]
  simpa using this
def rls:List Rul→Int
 | []=>0
 | r::rs=>if rul r≠0 then rul r else rls rs
def isNm (s:List UInt8):Bool:=match S40 30000 s with | some b=>b | none=>false
def lic (x:Lic):Int:=if isNm x.1=false then 2 else if 30 < x.2.1.length then 3 else rls x.2.1
theorem vname (s:List UInt8):S38 30000 s=some (isNm s)∧S40 30000 s=some (isNm s):=by
 obtain ⟨b,h1,h2⟩:=v38 s
 have:isNm s=b:=by unfold isNm; rw [h2]
 rw [this]; exact ⟨h1,h2⟩
theorem llic {R:Type} (k0:Int→Option R) (k1:List Rul→Int→Int→Option R):
  ∀ (ys pre:List Rul) (m:Nat),ys.length < m→(pre++ys).length≤BIG→(∀ a b c,k1 a b c=k0 0)→
    l13_20 (S39 30000) k0 k1 m (pre++ys) ((pre++ys).length:Int) (pre.length:Int)=k0 (rls ys):=by
 intro ys
 induction ys with
 | nil=>
   intro pre m hm hb hk
   cases m with
   | zero=>simp at hm
   | succ m=>
     unfold l13_20
     simp only [g13_0,g13_1,g13_2,g13_3,g13_4,g13_8,g13_9,g13_16,g13_14,g13_18,g13_19,g13_20,g13_22,g13_23,g13,lt_nil,bF,hk,rls]
 | cons y ys ih=>
   intro pre m hm hb hk
   cases m with
   | zero=>simp at hm
   | succ m=>
     unfold l13_20
     simp only [g13_0,g13_1,g13_2,g13_3,g13_4,g13_8,g13_9,g13_16,g13_14,g13_18,g13_19,g13_20,g13_22,g13_23,g13,lt_cons,in_cons,at_cons,if_true,bT,v39,Option.bind_some,rls]
     by_cases h1:rul y=0
     ·have e1:(rul y != 0)=false:=by simpa using h1
      simp only [e1,bF,wrap_snoc pre ys y hb]
      rw [if_neg (by simpa using h1),app_cons pre ys y,ih (pre++[y]) m (by simpa using hm) (by rw [←app_cons]; exact hb) hk]
     ·have e1:(rul y != 0)=true:=by simpa using h1
      simp only [e1,bT]
      rw [if_pos h1]
theorem v13 (x:Lic):S13 30000 x=some (lic x):=by
 unfold S13 lic
 simp only [g13_0,g13_1,g13_2,g13_3,g13_4,g13_8,g13_9,g13_16,g13_14,g13_18,g13_19,g13_20,g13_22,g13_23,g13,(vname x.1).1,Option.bind_some]
 cases isNm x.1 with
 | false=>simp only [Bool.not_false,bT,if_true]
 | true=>
   simp only [Bool.not_true,bF,Bool.true_eq_false,if_false]
   by_cases h5:30 < x.2.1.length
   ·have d:decide ((x.2.1.length:Int) > 30)=true:=decide_eq_true (by omega)
    simp only [d,bT,if_pos h5]
   ·have d:decide ((x.2.1.length:Int) > 30)=false:=decide_eq_false (by omega)
    have:=llic (R:=Int) some (fun _ _ _=>some 0) x.2.1 [] 30000 (by omega) (by unfold BIG; simp; omega) (fun _ _ _=>rfl)
    simp only [d,bF,if_neg h5]
    simpa using this
theorem llicr {R:Type} (k0:Int→Option R) (k1:Lic→Int→Option R) (nm:List UInt8):
  ∀ (ys pre:List Rul) (m:Nat),ys.length < m→(pre++ys).length≤BIG→(∀ a b,k1 a b=k0 0)→
    l14_18 (S41 30000) k0 k1 m (nm,(pre++ys),()) (pre.length:Int)=k0 (rls ys):=by
 intro ys
 induction ys with
 | nil=>
   intro pre m hm hb hk
   cases m with
   | zero=>simp at hm
   | succ m=>
     unfold l14_18
     simp only [g14_0,g14_1,g14_2,g14_4,g14_5,g14_7,g14_8,g14_14,g14_12,g14_16,g14_17,g14_18,g14_20,g14_21,g14,lt_nil,bF,hk,rls]
 | cons y ys ih=>
   intro pre m hm hb hk
   cases m with
   | zero=>simp at hm
   | succ m=>
     unfold l14_18
     simp only [g14_0,g14_1,g14_2,g14_4,g14_5,g14_7,g14_8,g14_14,g14_12,g14_16,g14_17,g14_18,g14_20,g14_21,g14,lt_cons,in_cons,at_cons,if_true,bT,v41,Option.bind_some,rls]
     by_cases h1:rul y=0
     ·have e1:(rul y != 0)=false:=by simpa using h1
      simp only [e1,bF,wrap_snoc pre ys y hb]
      rw [if_neg (by simpa using h1),app_cons pre ys y,ih (pre++[y]) m (by simpa using hm) (by rw [←app_cons]; exact hb) hk]
     ·have e1:(rul y != 0)=true:=by simpa using h1
      simp only [e1,bT]
      rw [if_pos h1]
theorem v14 (x:Lic):S14 30000 x=some (lic x):=by
 obtain ⟨nm,rs,u⟩:=x
 unfold S14 lic
 simp only [g14_0,g14_1,g14_2,g14_4,g14_5,g14_7,g14_8,g14_14,g14_12,g14_16,g14_17,g14_18,g14_20,g14_21,g14,(vname nm).2,Option.bind_some]
 cases isNm nm with
 | false=>simp only [Bool.not_false,bT,if_true]
 | true=>
   simp only [Bool.not_true,bF,Bool.true_eq_false,if_false]
   by_cases h5:30 < rs.length
   ·have d:decide ((rs.length:Int) > 30)=true:=decide_eq_true (by omega)
    simp only [d,bT,if_pos h5]
   ·have d:decide ((rs.length:Int) > 30)=false:=decide_eq_false (by omega)
    have:=llicr (R:=Int) some (fun _ _=>some 0) nm rs [] 30000 (by omega) (by unfold BIG; simp; omega) (fun _ _=>rfl)
    simp only [d,bF,if_neg h5]
    simpa using this
theorem rlw_len:∀ (ws:List (List UInt8)) (pre:List (List UInt8)),rlw ws pre=0→∀ w∈ws,w.length≤16
 | [],_,_,w,hw=>by simp at hw
 | y::ws,pre,h,w,hw=>by
   simp only [rlw] at h
   split at h
   ·rename_i h1; exact absurd h h1
   ·split at h
    ·simp at h
    ·rename_i h1 _
     rcases List.mem_cons.1 hw with rfl | hw
     ·have h1:wd w=0:=by simpa using h1
      unfold wd at h1
      split at h1
      ·simp at h1
      ·omega
     ·exact rlw_len ws _ h w hw
theorem rls_ok:∀ (rs:List Rul),rls rs=0→∀ r∈rs,r.2.2.1.length≤20
 | [],_,r,hr=>by simp at hr
 | y::rs,h,r,hr=>by
   simp only [rls] at h
   split at h
   ·rename_i h1; exact absurd h h1
   ·rename_i h1
    rcases List.mem_cons.1 hr with rfl | hr
    ·have h1:rul r=0:=by simpa using h1
     unfold rul at h1
     split at h1
     ·simp at h1
     ·split at h1
      ·simp at h1
      ·omega
    ·exact rls_ok rs h r hr
theorem lic_ok {x:Lic} (h:lic x=0):x.2.1.length≤30∧∀ r∈x.2.1,r.2.2.1.length≤20:=by
 unfold lic at h
 split at h
 ·simp at h
 ·split at h
  ·simp at h
  ·exact ⟨by omega,rls_ok _ h⟩
def apps (r:Rul) (w:List UInt8):Bool:=r.2.2.1.isEmpty || r.2.2.1.contains w
def takes (k:Int) (w:List UInt8) (r:Rul) (q:Int×Bool):Bool:=(r.1==k)&&(apps r w&&(!q.2 || decide (r.2.1 < q.1)))
def cst (k:Int) (w:List UInt8):List Rul→Int×Bool→Int×Bool
 | [],q=>q
 | r::rs,q=>cst k w rs (cond (takes k w r q) (r.2.1,true) q)
theorem lic_texts {x:Lic} (z:InZ reachBytes (.pair .str (.pair (.sl (.pair (.int .i64) (.pair (.int .i64) (.pair (.sl .str) .unit)))) .unit)) x):∀ r∈x.2.1,∀ w∈r.2.2.1,w.length≤140737488355328:=by
 intro r hr w hw
 have h1:w.length≤reachBytes:=(z.2.1 r hr).2.2.1 w hw
 have:=reachBytes_lt
 omega
def smallR (n:Int) (r:Rul):Prop:=(r.2.2.1.length:Int)≤n∧∀ w∈r.2.2.1,(w.length:Int)≤n
theorem lequal {R:Type} (k0:Bool→Option R) (k1:List (List UInt8)→List (List UInt8)→Int→Option R) (hk:∀ a b c,k1 a b c=k0 true):
  ∀ (ys zs pre:List (List UInt8)) (m:Nat),ys.length=zs.length→ys.length < m→(pre++ys).length≤BIG→
    ∀ pre2:List (List UInt8),pre2.length=pre.length→l29_13 k0 k1 m (pre++ys) (pre2++zs) (pre.length:Int)=k0 (decide (ys=zs)):=by
 intro ys
 induction ys with
 | nil=>
   intro zs pre m hl hm hb pre2 hp
   cases zs with
   | cons=>simp at hl
   | nil=>
     cases m with
     | zero=>simp at hm
     | succ m=>
       unfold l29_13
       simp only [g29_0,g29_1,g29_2,g29_4,g29_5,g29_7,g29_8,g29_11,g29_12,g29_13,g29_15,g29_16,g29,lt_nil,bF,hk]
       rfl
 | cons y ys ih=>
   intro zs pre m hl hm hb pre2 hp
   cases zs with
   | nil=>simp at hl
   | cons z zs=>
     cases m with
     | zero=>simp at hm
     | succ m=>
       have i2:(0≤(pre.length:Int)∧(pre.length:Int) < ((pre2++z::zs).length:Int))=True:=by rw [←hp]; exact in_cons ..
       have a2:(pre2++z::zs).getD (Int.toNat (pre.length:Int)) []=z:=by rw [←hp]; exact at_cons ..
       unfold l29_13
       simp only [g29_0,g29_1,g29_2,g29_4,g29_5,g29_7,g29_8,g29_11,g29_12,g29_13,g29_15,g29_16,g29,lt_cons,in_cons,at_cons,i2,a2,if_true,bT,wrap_snoc pre ys y hb]
       by_cases h:y=z
       ·subst h
        have e1:(y != y)=false:=by simp
        simp only [e1,bF]
        rw [app_cons pre ys y,app_cons pre2 zs y,ih zs (pre++[y]) m (by simpa using hl) (by simpa using hm) (by rw [←app_cons]; exact hb) (pre2++[y]) (by simp [hp])]
        simp
       ·have e1:(y != z)=true:=by simpa using h
        simp only [e1,bT]
        have:decide (y::ys=z::zs)=false:=by simp [h]
        rw [this]
theorem v29 (a b:List (List UInt8)) (h:a.length < 30000):S29 30000 a b=some (decide (a=b)):=by
 unfold S29
 simp only [g29_0,g29_1,g29_2,g29_4,g29_5,g29_7,g29_8,g29_11,g29_12,g29_13,g29_15,g29_16,g29]
 by_cases hl:a.length=b.length
 ·have e1:((a.length:Int) != (b.length:Int))=false:=by simp [hl]
  have:=lequal (R:=Bool) some (fun _ _ _=>some true) (fun _ _ _=>rfl) a b [] 30000 hl h (by unfold BIG; simp; omega) [] rfl
  simp only [e1,bF]
  simpa using this
 ·have e1:((a.length:Int) != (b.length:Int))=true:=by simp; omega
  have:decide (a=b)=false:=by
   simp only [decide_eq_false_iff_not]; rintro rfl; exact hl rfl
  simp only [e1,bT,this]
def sameRs:List Rul→List Rul→Bool
 | [],[]=>true
 | r::rs,s::ss=>(r.1==s.1&&(r.2.1==s.2.1&&decide (r.2.2.1=s.2.2.1)))&&sameRs rs ss
 | _,_=>false
theorem sameRs_eq:∀ {rs ss:List Rul},sameRs rs ss=true→rs=ss
 | [],[],_=>rfl
 | (a,b,c,u)::rs,(a',b',c',u')::ss,h=>by
   simp only [sameRs,Bool.and_eq_true,beq_iff_eq,decide_eq_true_eq] at h
   obtain ⟨⟨h1,h2,h3⟩,h4⟩:=h
   rw [sameRs_eq h4,h1,h2,h3]
 | [],_::_,h | _::_,[],h=>by simp [sameRs] at h
theorem sameRs_refl:∀ rs:List Rul,sameRs rs rs=true
 | []=>rfl
 | r::rs=>by simp [sameRs,sameRs_refl rs]
theorem lsame {R:Type} (k0:Bool→Option R) (k1:Lic→Lic→Int→Option R) (hk:∀ a b c,k1 a b c=k0 true) (nm nm2:List UInt8):
  ∀ (ys zs pre:List Rul) (m:Nat),ys.length=zs.length→ys.length < m→(pre++ys).length≤BIG→(∀ r∈ys,r.2.2.1.length < 30000)→
    ∀ pre2:List Rul,pre2.length=pre.length→l8_15 (S29 30000) k0 k1 m (nm,(pre++ys),()) (nm2,(pre2++zs),()) (pre.length:Int)=k0 (sameRs ys zs):=by
 intro ys
 induction ys with
 | nil=>
   intro zs pre m hl hm hb hr pre2 hp
   cases zs with
   | cons=>simp at hl
   | nil=>
     cases m with
     | zero=>simp at hm
     | succ m=>
       unfold l8_15
       simp only [g8_0,g8_1,g8_2,g8_4,g8_5,g8_11,g8_9,g8_13,g8_14,g8_15,g8_17,g8_18,g8,lt_nil,bF,hk]
       rfl
 | cons y ys ih=>
   intro zs pre m hl hm hb hr pre2 hp
   cases zs with
   | nil=>simp at hl
   | cons z zs=>
     cases m with
     | zero=>simp at hm
     | succ m=>
       have i2:(0≤(pre.length:Int)∧(pre.length:Int) < ((pre2++z::zs).length:Int))=True:=by rw [←hp]; exact in_cons ..
       have a2:∀ d,(pre2++z::zs).getD (Int.toNat (pre.length:Int)) d=z:=fun d=>by rw [←hp]; exact at_cons ..
       have step:=ih zs (pre++[y]) m (by simpa using hl) (by simpa using hm) (by rw [←app_cons]; exact hb) (fun r h=>hr r (by simp [h])) (pre2++[z]) (by simp [hp])
       rw [←app_cons,←app_cons] at step
       unfold l8_15
       simp only [g8_0,g8_1,g8_2,g8_4,g8_5,g8_11,g8_9,g8_13,g8_14,g8_15,g8_17,g8_18,g8,lt_cons,in_cons,at_cons,i2,a2,if_true,bT,wrap_snoc pre ys y hb,v29 y.2.2.1 z.2.2.1 (hr y (by simp)),Option.bind_some]
       simp only [sameRs,bne]
       cases h1:(y.1==z.1) with
       | false=>simp only [Bool.not_false,bT,Bool.false_and]
       | true=>
         simp only [Bool.not_true,bF,Bool.true_and]
         cases h2:(y.2.1==z.2.1) with
         | false=>simp only [Bool.not_false,bT,Bool.false_and]
         | true=>
           simp only [Bool.not_true,bF,Bool.true_and]
           cases h3:decide (y.2.2.1=z.2.2.1) with
           | false=>simp only [Bool.not_false,bT,Bool.false_and]
           | true=>
             simp only [Bool.not_true,bF,Bool.true_and]
             exact step
def sameL (x y:Lic):Bool:=decide (x.1=y.1)&&sameRs x.2.1 y.2.1
theorem sameRs_len:∀ {rs ss:List Rul},rs.length≠ss.length→sameRs rs ss=false
 | [],[],h=>absurd rfl h
 | _::rs,_::ss,h=>by simp only [sameRs,sameRs_len (rs:=rs) (ss:=ss) (by simpa using h),Bool.and_false]
 | [],_::_,_ | _::_,[],_=>rfl
theorem v8 (x y:Lic) (h:x.2.1.length < 30000) (hr:∀ r∈x.2.1,r.2.2.1.length < 30000):S8 30000 x y=some (sameL x y):=by
 obtain ⟨nm,rs,u⟩:=x
 obtain ⟨nm2,ss,u2⟩:=y
 replace h:rs.length < 30000:=h
 unfold S8 sameL
 simp only [g8_0,g8_1,g8_2,g8_4,g8_5,g8_11,g8_9,g8_13,g8_14,g8_15,g8_17,g8_18,g8]
 by_cases h1:nm=nm2
 ·subst h1
  have e1:(nm != nm)=false:=by simp
  simp only [e1,bF,decide_true,Bool.true_and]
  by_cases hl:rs.length=ss.length
  ·have e2:((rs.length:Int) != (ss.length:Int))=false:=by simp [hl]
   have:=lsame (R:=Bool) some (fun _ _ _=>some true) (fun _ _ _=>rfl) nm nm rs ss [] 30000 hl h (by unfold BIG; simp; omega) hr [] rfl
   simp only [e2,bF]
   simpa using this
  ·have e2:((rs.length:Int) != (ss.length:Int))=true:=by simp; omega
   simp only [e2,bT,sameRs_len hl]
 ·have e1:(nm != nm2)=true:=by simpa using h1
  simp only [e1,bT,h1,decide_false,Bool.false_and]
theorem sameL_eq {x y:Lic} (h:sameL x y=true):x=y:=by
 obtain ⟨nm,rs,u⟩:=x
 obtain ⟨nm2,ss,u2⟩:=y
 simp only [sameL,Bool.and_eq_true,decide_eq_true_eq] at h
 rw [h.1,sameRs_eq h.2]
theorem sameL_refl (x:Lic):sameL x x=true:=by simp [sameL,sameRs_refl]
abbrev Tok:Type:=Int×(List UInt8×(Int×Unit))
def smB (c:UInt8):Bool:=sm (c.toNat:Int)
def dgB (c:UInt8):Bool:=dg (c.toNat:Int)
def inB' (c:UInt8):Bool:=decide ((c.toNat:Int)≥32)&&(decide ((c.toNat:Int)≤126)&&((c.toNat:Int) != 34))
def cnt (p:UInt8→Bool):List UInt8→Nat
 | []=>0
 | c::s=>if p c then cnt p s+1 else 0
def nmT:List UInt8→Nat
 | []=>0
 | c::s=>if smB c || dgB c then nmT s+1 else if c.toNat=45 then (match s with
   | d::t=>if smB d || dgB d then nmT t+2 else 0
   | []=>0) else 0
def nmL:List UInt8→Nat
 | []=>0
 | c::s=>if smB c then nmT s+1 else 0
theorem cnt_le (p:UInt8→Bool):∀ s,cnt p s≤s.length
 | []=>Nat.le_refl _
 | c::s=>by
   simp only [cnt,List.length_cons]
   split
   ·have:=cnt_le p s; omega
   ·omega
theorem nmT_le:∀ (n:Nat) (s:List UInt8),s.length≤n→nmT s≤s.length
 | _,[],_=>Nat.le_refl _
 | 0,_::_,h=>by simp at h
 | n+1,c::s,h=>by
   unfold nmT
   simp only [List.length_cons] at h ⊢
   split
   ·have:=nmT_le n s (by omega); omega
   ·split
    ·split
     ·rename_i d t
      simp only [List.length_cons] at h ⊢
      split
      ·have:=nmT_le n t (by omega); omega
      ·omega
     ·omega
    ·omega
theorem nmL_le (s:List UInt8):nmL s≤s.length:=by
 cases s with
 | nil=>exact Nat.le_refl _
 | cons c s=>
   simp only [nmL,List.length_cons]
   split
   ·have:=nmT_le _ s (Nat.le_refl _); omega
   ·omega
theorem wrapN (a b:Nat) (h:a+b≤BIG):IntKind.i64.wrap ((a:Int)+(b:Int))=((a+b:Nat):Int):=by
 rw [wrap_id (by unfold BIG at h; omega)]; simp
theorem wrap1 (a:Nat) (h:a+1≤BIG):IntKind.i64.wrap ((a:Int)+1)=((a+1:Nat):Int):=wrapN a 1 h
theorem wrap2 (a:Nat) (h:a+2≤BIG):IntKind.i64.wrap ((a:Int)+2)=((a+2:Nat):Int):=wrapN a 2 h
theorem lnameR {R:Type} (k0:List UInt8→Int→Option R):
  ∀ (n:Nat) (ys pre:List UInt8) (m:Nat),ys.length≤n→ys.length < m→(pre++ys).length≤1000000→
    l58_15 (S73 30000) (S74 30000) k0 m (pre++ys) (pre.length:Int)=k0 (pre++ys) ((pre.length+nmT ys:Nat):Int):=by
 intro n
 induction n with
 | zero=>
   intro ys pre m hn hm hb
   have:ys=[]:=List.length_eq_zero_iff.1 (by omega)
   subst this
   cases m with
   | zero=>simp at hm
   | succ m=>
     unfold l58_15
     simp only [g58_0,g58_1,g58_2,g58_4,g58_5,g58_7,g58_8,g58_10,g58_12,g58_14,g58_15,g58_17,g58_18,g58,lt_nil,bF,nmT,Nat.add_zero]
 | succ n ih=>
   intro ys pre m hn hm hb
   cases ys with
   | nil=>
     cases m with
     | zero=>simp at hm
     | succ m=>
       unfold l58_15
       simp only [g58_0,g58_1,g58_2,g58_4,g58_5,g58_7,g58_8,g58_10,g58_12,g58_14,g58_15,g58_17,g58_18,g58,lt_nil,bF,nmT,Nat.add_zero]
   | cons c s=>
     cases m with
     | zero=>simp at hm
     | succ m=>
       simp only [List.length_cons,List.length_append] at hn hm hb
       have hBIG:pre.length+2≤BIG:=by unfold BIG; omega
       have step1:=ih s (pre++[c]) m (by omega) (by omega) (by simp; omega)
       rw [←app_cons] at step1
       have e1:((pre++[c]).length:Int)=((pre.length+1:Nat):Int):=by simp
       rw [e1] at step1
       unfold l58_15
       simp only [g58_0,g58_1,g58_2,g58_4,g58_5,g58_7,g58_8,g58_10,g58_12,g58_14,g58_15,g58_17,g58_18,g58,lt_cons,in_cons,at_cons,if_true,bT,v73,v74,Option.bind_some,wrap1 pre.length (by omega),wrap2 pre.length hBIG]
       unfold nmT
       have go:l58_15 (S73 30000) (S74 30000) k0 m (pre++c::s) ((pre.length+1:Nat):Int)=k0 (pre++c::s) ((pre.length+(nmT s+1):Nat):Int):=by
        rw [step1]; congr 2; simp; omega
       cases h1:sm (c.toNat:Int) with
       | true=>
         have:smB c=true:=h1
         simp only [bT,this,Bool.true_or,if_true]
         exact go
       | false=>
         have h1':smB c=false:=h1
         simp only [bF,h1',Bool.false_or]
         cases h2:dg (c.toNat:Int) with
         | true=>
           have:dgB c=true:=h2
           simp only [bT,this,if_true]
           exact go
         | false=>
           have h2':dgB c=false:=h2
           simp only [bF,h2',Bool.false_eq_true,if_false]
           by_cases h3:c.toNat=45
           ·have e3:((c.toNat:Int) != 45)=false:=by simp [h3]
            simp only [e3,bF,if_pos h3]
            cases s with
            | nil=>
              have e4:(((pre.length+1:Nat):Int)==((pre++[c]).length:Int))=true:=by simp
              simp only [e4,bT,Nat.add_zero]
            | cons d t=>
              have e4:(((pre.length+1:Nat):Int)==((pre++c::d::t).length:Int))=false:=by
               simp only [beq_eq_false_iff_ne,ne_eq,List.length_append,List.length_cons]; omega
              have e5:(0≤((pre.length+1:Nat):Int)∧((pre.length+1:Nat):Int) < ((pre++c::d::t).length:Int))=True:=by
               simp only [List.length_append,List.length_cons,eq_iff_iff,iff_true]; omega
              have e6:(pre++c::d::t).getD (Int.toNat ((pre.length+1:Nat):Int)) 0=d:=by
               rw [app_cons pre (d::t) c]
               have:=at_cons (pre++[c]) t d 0
               rw [e1] at this; exact this
              simp only [e4,bF,e5,e6,if_true]
              simp only [List.length_cons] at hn hm hb
              have step2:=ih t ((pre++[c])++[d]) m (by omega) (by omega) (by simp; omega)
              rw [←app_cons,←app_cons] at step2
              have e7:((pre++[c]++[d]).length:Int)=((pre.length+2:Nat):Int):=by simp
              rw [e7] at step2
              have go2:l58_15 (S73 30000) (S74 30000) k0 m (pre++c::d::t) ((pre.length+2:Nat):Int)=k0 (pre++c::d::t) ((pre.length+(nmT t+2):Nat):Int):=by
               rw [step2]; congr 2; simp; omega
              cases h4:sm (d.toNat:Int) with
              | true=>
                have:smB d=true:=h4
                simp only [Bool.not_true,bF,this,Bool.true_or,if_true]
                exact go2
              | false=>
                have h4':smB d=false:=h4
                simp only [Bool.not_false,bT,h4',Bool.false_or]
                cases h5:dg (d.toNat:Int) with
                | true=>
                  have:dgB d=true:=h5
                  simp only [Bool.not_true,bF,this,if_true]
                  exact go2
                | false=>
                  have:dgB d=false:=h5
                  simp only [Bool.not_false,bT,this,Bool.false_eq_true,if_false,Nat.add_zero]
           ·have e3:((c.toNat:Int) != 45)=true:=by
             simp only [bne_iff_ne,ne_eq]; omega
            simp only [e3,bT,if_neg h3,Nat.add_zero]
theorem vnm (s:List UInt8) (hs:s.length < 30000):S55 30000 s=some (nmL s:Int)∧S58 30000 s=some (nmL s:Int):=by
 have hb:s.length≤BIG:=by unfold BIG; omega
 have e1:=lname s hb (R:=Int) some 30000 1 (by omega) (by omega)
 unfold S55 S58
 simp only [g55_0,g55_1,g55_2,g55_4,g55_5,g55_7,g55_8,g55_9,g55_10,g55_11,g55_12,g55_17,g55_18,g55_20,g55_21,g55,g58_0,g58_1,g58_2,g58_4,g58_5,g58_7,g58_8,g58_10,g58_12,g58_14,g58_15,g58_17,g58_18,g58,v61,v73,Option.bind_some]
 cases s with
 | nil=>exact ⟨rfl,rfl⟩
 | cons c s=>
   have h0:((c::s)==([]:List UInt8))=false:=rfl
   have hb0:(0:Int)≤0∧(0:Int) < ((c::s).length:Int):=by simp only [List.length_cons]; omega
   have hc:(((c::s).getD (0:Int).toNat 0).toNat:Int)=(c.toNat:Int):=rfl
   have e2:=lnameR (R:=Int) (fun _ i=>some i) s.length s [c] 30000 (Nat.le_refl _) (by simp at hs; omega) (by simp at hs ⊢; omega)
   have e3:((([c]:List UInt8).length:Nat):Int)=1:=rfl
   rw [e3] at e2
   have e4:[c]++s=c::s:=rfl
   rw [e4] at e2
   simp only [h0,bF,if_pos hb0,hc,nmL]
   cases hsm:sm (c.toNat:Int) with
   | false=>
     have:smB c=false:=hsm
     simp only [Bool.not_false,bT,this,Bool.false_eq_true,if_false]
     exact ⟨rfl,rfl⟩
   | true=>
     have h9:smB c=true:=hsm
     have e5:(([c].length+nmT s:Nat):Int)=((nmT s+1:Nat):Int):=by simp; omega
     rw [e5] at e2
     simp only [Bool.not_true,bF,h9,if_true]
     exact ⟨e1.trans e2,e2⟩
theorem ldigits {R:Type} (k0:List UInt8→Int→Option R):
  ∀ (ys pre:List UInt8) (m:Nat),ys.length < m→(pre++ys).length≤1000000→
    l63_7 (S62 30000) k0 m (pre++ys) (pre.length:Int)=k0 (pre++ys) ((pre.length+cnt dgB ys:Nat):Int):=by
 intro ys
 induction ys with
 | nil=>
   intro pre m hm hb
   cases m with
   | zero=>simp at hm
   | succ m=>
     unfold l63_7
     simp only [g63_10,g63_2,g63_4,g63_6,g63_7,g63_9,g63_10b,g63,lt_nil,bF,cnt,Nat.add_zero]
 | cons y ys ih=>
   intro pre m hm hb
   cases m with
   | zero=>simp at hm
   | succ m=>
     have hb':(pre++y::ys).length≤BIG:=by unfold BIG; omega
     unfold l63_7
     simp only [g63_10,g63_2,g63_4,g63_6,g63_7,g63_9,g63_10b,g63,lt_cons,in_cons,at_cons,if_true,bT,v62,Option.bind_some,wrap_snoc pre ys y hb',cnt]
     cases h:dg (y.toNat:Int) with
     | false=>
       have:dgB y=false:=h
       simp only [bF,this,Bool.false_eq_true,if_false,Nat.add_zero]
     | true=>
       have h':dgB y=true:=h
       simp only [bT,h',if_true]
       rw [app_cons pre ys y,ih (pre++[y]) m (by simpa using hm) (by rw [←app_cons]; exact hb)]
       congr 2; simp; omega
theorem ldigitsR {R:Type} (k0:List UInt8→Int→Option R):
  ∀ (ys pre:List UInt8) (m:Nat),ys.length < m→(pre++ys).length≤1000000→
    l66_7 (S74 30000) k0 m (pre++ys) (pre.length:Int)=k0 (pre++ys) ((pre.length+cnt dgB ys:Nat):Int):=by
 intro ys
 induction ys with
 | nil=>
   intro pre m hm hb
   cases m with
   | zero=>simp at hm
   | succ m=>
     unfold l66_7
     simp only [g66_10,g66_2,g66_4,g66_6,g66_7,g66_9,g66_10b,g66,lt_nil,bF,cnt,Nat.add_zero]
 | cons y ys ih=>
   intro pre m hm hb
   cases m with
   | zero=>simp at hm
   | succ m=>
     have hb':(pre++y::ys).length≤BIG:=by unfold BIG; omega
     unfold l66_7
     simp only [g66_10,g66_2,g66_4,g66_6,g66_7,g66_9,g66_10b,g66,lt_cons,in_cons,at_cons,if_true,bT,v74,Option.bind_some,wrap_snoc pre ys y hb',cnt]
     cases h:dg (y.toNat:Int) with
     | false=>
       have:dgB y=false:=h
       simp only [bF,this,Bool.false_eq_true,if_false,Nat.add_zero]
     | true=>
       have h':dgB y=true:=h
       simp only [bT,h',if_true]
       rw [app_cons pre ys y,ih (pre++[y]) m (by simpa using hm) (by rw [←app_cons]; exact hb)]
       congr 2; simp; omega
theorem vdg (s:List UInt8) (hs:s.length < 30000):S63 30000 s=some (cnt dgB s:Int)∧S66 30000 s=some (cnt dgB s:Int):=by
 have e1:=ldigits (R:=Int) (fun _ i=>some i) s [] 30000 hs (by simp; omega)
 have e2:=ldigitsR (R:=Int) (fun _ i=>some i) s [] 30000 hs (by simp; omega)
 unfold S63 S66
 simp only [g63_10,g63_2,g63_4,g63_6,g63_7,g63_9,g63_10b,g63,g66_10,g66_2,g66_4,g66_6,g66_7,g66_9,g66_10b,g66]
 simp only [List.nil_append,List.length_nil,Nat.zero_add] at e1 e2
 exact ⟨e1,e2⟩
theorem vins (c:UInt8):S77 30000 (c.toNat:Int)=some (inB' c)∧S79 30000 (c.toNat:Int)=some (inB' c):=by
 unfold S77 S79 inB'
 simp only [g77_2,g77_2b,g77,g79_2,g79_2b,g79]
 cases decide ((c.toNat:Int)≥32)<;>cases decide ((c.toNat:Int)≤126)<;>exact ⟨rfl,rfl⟩
theorem lquoted {R:Type} (k0:List UInt8→Int→Option R):
  ∀ (ys pre:List UInt8) (m:Nat),ys.length < m→(pre++ys).length≤1000000→
    l64_7 (S77 30000) k0 m (pre++ys) (pre.length:Int)=k0 (pre++ys) ((pre.length+cnt inB' ys:Nat):Int):=by
 intro ys
 induction ys with
 | nil=>
   intro pre m hm hb
   cases m with
   | zero=>simp at hm
   | succ m=>
     unfold l64_7
     simp only [g64_17,g64_2,g64_4,g64_6,g64_7,g64_9,g64_10,g64_11,g64_12,g64_16,g64_17b,g64,lt_nil,bF,cnt,Nat.add_zero]
 | cons y ys ih=>
   intro pre m hm hb
   cases m with
   | zero=>simp at hm
   | succ m=>
     have hb':(pre++y::ys).length≤BIG:=by unfold BIG; omega
     unfold l64_7
     simp only [g64_17,g64_2,g64_4,g64_6,g64_7,g64_9,g64_10,g64_11,g64_12,g64_16,g64_17b,g64,lt_cons,in_cons,at_cons,if_true,bT,(vins y).1,Option.bind_some,wrap_snoc pre ys y hb',cnt]
     cases h:inB' y with
     | false=>simp only [bF,Bool.false_eq_true,if_false,Nat.add_zero]
     | true=>
       simp only [bT,if_true]
       rw [app_cons pre ys y,ih (pre++[y]) m (by simpa using hm) (by rw [←app_cons]; exact hb)]
       congr 2; simp; omega
theorem lquotedR {R:Type} (k0:List UInt8→Tok→Int→Option R) (z:Tok):
  ∀ (ys pre:List UInt8) (m:Nat),ys.length < m→(pre++ys).length≤1000000→
    l67_7 (S79 30000) k0 m (pre++ys) z (pre.length:Int)=k0 (pre++ys) z ((pre.length+cnt inB' ys:Nat):Int):=by
 intro ys
 induction ys with
 | nil=>
   intro pre m hm hb
   cases m with
   | zero=>simp at hm
   | succ m=>
     unfold l67_7
     simp only [g67_16,g67_2,g67_4,g67_6,g67_7,g67_9,g67_10,g67_12,g67_13,g67_15,g67_16b,g67,lt_nil,bF,cnt,Nat.add_zero]
 | cons y ys ih=>
   intro pre m hm hb
   cases m with
   | zero=>simp at hm
   | succ m=>
     have hb':(pre++y::ys).length≤BIG:=by unfold BIG; omega
     unfold l67_7
     simp only [g67_16,g67_2,g67_4,g67_6,g67_7,g67_9,g67_10,g67_12,g67_13,g67_15,g67_16b,g67,lt_cons,in_cons,at_cons,if_true,bT,(vins y).2,Option.bind_some,wrap_snoc pre ys y hb',cnt]
     cases h:inB' y with
     | false=>simp only [bF,Bool.false_eq_true,if_false,Nat.add_zero]
     | true=>
       simp only [bT,if_true]
       rw [app_cons pre ys y,ih (pre++[y]) m (by simpa using hm) (by rw [←app_cons]; exact hb)]
       congr 2; simp; omega
def sgB (c:UInt8):Bool:=match S68 30000 (c.toNat:Int) with | some b=>b | none=>false
theorem signs_ok:((List.range 256).all fun n=>(match S65 30000 ([123,125,40,41,91,93,47,59,58,126,64,61,94,44,46,124,43,42,60,62,45]:List UInt8) (n:Int) with | some r=>decide (r≥(0:Int))==sgB (UInt8.ofNat n) | none=>false)&&(S68 30000 (n:Int)==some (sgB (UInt8.ofNat n))))=true:=by kernel_rfl
theorem vsign (c:UInt8):(∃ r:Int,S65 30000 ([123,125,40,41,91,93,47,59,58,126,64,61,94,44,46,124,43,42,60,62,45]:List UInt8) (c.toNat:Int)=some r∧decide (r≥(0:Int))=sgB c)∧S68 30000 (c.toNat:Int)=some (sgB c):=by
 have h:=List.all_eq_true.1 signs_ok c.toNat (List.mem_range.2 c.toNat_lt)
 simp only [Bool.and_eq_true,beq_iff_eq] at h
 obtain ⟨h1,h2⟩:=h
 have e:UInt8.ofNat c.toNat=c:=by simp
 rw [e] at h1 h2
 refine ⟨?_,h2⟩
 split at h1
 ·rename_i r hr
  exact ⟨r,hr,by simpa using h1⟩
 ·cases h1
def quoT (t:List UInt8):Int×List UInt8:=
 match t.drop (cnt inB' t) with
 | c::_=>if c.toNat≠34 then (2,[]) else if 60 < cnt inB' t then (3,[]) else (0,t.take (cnt inB' t))
 | []=>(2,[])
theorem drop_cnt (p:UInt8→Bool) (t:List UInt8):(t.drop (cnt p t)=[]↔cnt p t=t.length)∧∀ c r,t.drop (cnt p t)=c::r→cnt p t < t.length∧t.getD (cnt p t) 0=c:=by
 refine ⟨⟨fun h=>?_,fun h=>by rw [h]; simp⟩,fun c r h=>?_⟩
 ·have:=List.drop_eq_nil_iff.1 h
  have:=cnt_le p t
  omega
 ·have hl:cnt p t < t.length:=by
   rcases Nat.lt_or_ge (cnt p t) t.length with h1 | h1
   ·exact h1
   ·rw [List.drop_eq_nil_iff.2 h1] at h; cases h
  refine ⟨hl,?_⟩
  rw [List.drop_eq_getElem_cons hl] at h
  rw [List.getD_eq_getElem?_getD,List.getElem?_eq_getElem hl]
  simp only [List.cons.injEq] at h
  simpa using h.1
theorem vquoted (c:UInt8) (t:List UInt8) (hs:(c::t).length < 30000):S64 30000 (c::t)=some ((quoT t).2,(quoT t).1):=by
 have e1:=lquoted (R:=List UInt8×Int) (fun s n=>brB (n==(s.length:Int)) (some (([]:List UInt8),(2:Int))) (if 0≤n∧n < (s.length:Int) then
   brB (((s.getD n.toNat 0).toNat:Int) != (34:Int)) (some ([],2)) (brB (decide ((IntKind.i64.wrap (n - 1)) > (60:Int))) (some ([],3)) (if 0≤(1:Int)∧(1:Int)≤n∧n≤(s.length:Int) then some (((s.drop (1:Int).toNat).take (n.toNat - (1:Int).toNat)),0) else none)) else none)) t [c] 30000 (by simp at hs; omega) (by simp at hs ⊢; omega)
 unfold S64
 simp only [g64_17,g64_2,g64_4,g64_6,g64_7,g64_9,g64_10,g64_11,g64_12,g64_16,g64_17b,g64]
 have e3:((([c]:List UInt8).length:Nat):Int)=1:=rfl
 have e4:[c]++t=c::t:=rfl
 rw [e3,e4] at e1
 refine e1.trans ?_
 have hle:=cnt_le inB' t
 have hd:=drop_cnt inB' t
 have e5:([c].length+cnt inB' t:Nat)=cnt inB' t+1:=by simp; omega
 rw [e5]
 unfold quoT
 cases hdr:t.drop (cnt inB' t) with
 | nil=>
   have h1:=hd.1.1 hdr
   have:(((cnt inB' t+1:Nat):Int)==((c::t).length:Int))=true:=by simp [h1]
   simp only [this,bT]
 | cons d r=>
   obtain ⟨h1,h2⟩:=hd.2 d r hdr
   have q1:(((cnt inB' t+1:Nat):Int)==((c::t).length:Int))=false:=by
    simp only [beq_eq_false_iff_ne,ne_eq,List.length_cons]; omega
   have q2:0≤((cnt inB' t+1:Nat):Int)∧((cnt inB' t+1:Nat):Int) < ((c::t).length:Int):=by
    simp only [List.length_cons]; omega
   have q3:(c::t).getD (Int.toNat ((cnt inB' t+1:Nat):Int)) 0=d:=by rw [Int.toNat_natCast,List.getD_cons_succ]; exact h2
   simp only [q1,bF,if_pos q2,q3]
   by_cases h3:d.toNat=34
   ·have q4:((d.toNat:Int) != 34)=false:=by simp [h3]
    have w:IntKind.i64.wrap (((cnt inB' t+1:Nat):Int) - 1)=(cnt inB' t:Int):=by
     rw [wrap_id (by simp at hs; omega)]; omega
    have n34:¬ (d.toNat≠34):=by simpa using h3
    simp only [q4,bF,w,if_neg n34]
    by_cases h4:60 < cnt inB' t
    ·have q5:decide ((cnt inB' t:Int) > 60)=true:=decide_eq_true (by omega)
     simp only [q5,bT,if_pos h4]
    ·have q5:decide ((cnt inB' t:Int) > 60)=false:=decide_eq_false (by omega)
     have q6:0≤(1:Int)∧(1:Int)≤((cnt inB' t+1:Nat):Int)∧((cnt inB' t+1:Nat):Int)≤((c::t).length:Int):=by
      simp only [List.length_cons]; omega
     have q7:((c::t).drop (1:Int).toNat).take (Int.toNat ((cnt inB' t+1:Nat):Int) - (1:Int).toNat)=t.take (cnt inB' t):=by
      rw [Int.toNat_natCast]; rfl
     simp only [q5,bF,if_pos q6,if_neg h4,q7]
   ·have q4:((d.toNat:Int) != 34)=true:=by simp only [bne_iff_ne,ne_eq]; omega
    have n34:d.toNat≠34:=h3
    simp only [q4,bT,if_pos n34]
theorem vinQuotes (c:UInt8) (t:List UInt8) (hs:(c::t).length < 30000):
  S67 30000 (c::t)=some (if (quoT t).1=0 then ((3,((quoT t).2,((0:Int),()))),(((quoT t).2.length+2:Nat):Int),0) else (((0:Int),([],((0:Int),()))),0,(quoT t).1)):=by
 have e1:=lquotedR (R:=Tok×Int×Int) (fun s z n=>brB (n==(s.length:Int)) (some (((0:Int),([],((0:Int),()))),(0:Int),(2:Int))) (if 0≤n∧n < (s.length:Int) then
   brB (((s.getD n.toNat 0).toNat:Int) != (34:Int)) (some (((0:Int),([],((0:Int),()))),(0:Int),(2:Int))) (brB (decide ((IntKind.i64.wrap (n - 1)) > (60:Int))) (some (((0:Int),([],((0:Int),()))),(0:Int),(3:Int))) (if 0≤(1:Int)∧(1:Int)≤n∧n≤(s.length:Int) then some (((3:Int),((s.drop (1:Int).toNat).take (n.toNat - (1:Int).toNat)),(0:Int),()),IntKind.i64.wrap (n+1),(0:Int)) else none)) else none)) ((0:Int),([],((0:Int),()))) t [c] 30000 (by simp at hs; omega) (by simp at hs ⊢; omega)
 unfold S67
 simp only [g67_16,g67_2,g67_4,g67_6,g67_7,g67_9,g67_10,g67_12,g67_13,g67_15,g67_16b,g67]
 have e3:((([c]:List UInt8).length:Nat):Int)=1:=rfl
 have e4:[c]++t=c::t:=rfl
 rw [e3,e4] at e1
 refine e1.trans ?_
 have hle:=cnt_le inB' t
 have hd:=drop_cnt inB' t
 have e5:([c].length+cnt inB' t:Nat)=cnt inB' t+1:=by simp; omega
 rw [e5]
 unfold quoT
 cases hdr:t.drop (cnt inB' t) with
 | nil=>
   have h1:=hd.1.1 hdr
   have:(((cnt inB' t+1:Nat):Int)==((c::t).length:Int))=true:=by simp [h1]
   simp only [this,bT]
   rfl
 | cons d r=>
   obtain ⟨h1,h2⟩:=hd.2 d r hdr
   have q1:(((cnt inB' t+1:Nat):Int)==((c::t).length:Int))=false:=by
    simp only [beq_eq_false_iff_ne,ne_eq,List.length_cons]; omega
   have q2:0≤((cnt inB' t+1:Nat):Int)∧((cnt inB' t+1:Nat):Int) < ((c::t).length:Int):=by
    simp only [List.length_cons]; omega
   have q3:(c::t).getD (Int.toNat ((cnt inB' t+1:Nat):Int)) 0=d:=by rw [Int.toNat_natCast,List.getD_cons_succ]; exact h2
   simp only [q1,bF,if_pos q2,q3]
   by_cases h3:d.toNat=34
   ·have q4:((d.toNat:Int) != 34)=false:=by simp [h3]
    have w:IntKind.i64.wrap (((cnt inB' t+1:Nat):Int) - 1)=(cnt inB' t:Int):=by
     rw [wrap_id (by simp at hs; omega)]; omega
    have w2:IntKind.i64.wrap (((cnt inB' t+1:Nat):Int)+1)=((cnt inB' t+2:Nat):Int):=by
     rw [wrap_id (by simp at hs; omega)]; omega
    have n34:¬ (d.toNat≠34):=by simpa using h3
    simp only [q4,bF,w,w2,if_neg n34]
    by_cases h4:60 < cnt inB' t
    ·have q5:decide ((cnt inB' t:Int) > 60)=true:=decide_eq_true (by omega)
     have n3:¬ ((3:Int)=0):=by decide
     simp only [q5,bT,if_pos h4,if_neg n3]
    ·have q5:decide ((cnt inB' t:Int) > 60)=false:=decide_eq_false (by omega)
     have q6:0≤(1:Int)∧(1:Int)≤((cnt inB' t+1:Nat):Int)∧((cnt inB' t+1:Nat):Int)≤((c::t).length:Int):=by
      simp only [List.length_cons]; omega
     have q7:((c::t).drop (1:Int).toNat).take (Int.toNat ((cnt inB' t+1:Nat):Int) - (1:Int).toNat)=t.take (cnt inB' t):=by
      rw [Int.toNat_natCast]; rfl
     have q8:(t.take (cnt inB' t)).length=cnt inB' t:=by rw [List.length_take]; omega
     simp only [q5,bF,if_pos q6,if_neg h4,q7,if_true,q8]
   ·have q4:((d.toNat:Int) != 34)=true:=by simp only [bne_iff_ne,ne_eq]; omega
    have n34:d.toNat≠34:=h3
    have n2:¬ ((2:Int)=0):=by decide
    simp only [q4,bT,if_pos n34,if_neg n2]
def numV:List UInt8→Int→Int
 | [],a=>a
 | c::s,a=>numV s (10 * a+((c.toNat:Int) - 48))
def numOk (s:List UInt8):Bool:=!(s==[])&&(decide (s.length≤6)&&((cnt dgB s==s.length)&&!(decide (1 < s.length)&&((s.headD 0).toNat==48))))
theorem dg_rng {c:UInt8} (h:dgB c=true):48≤c.toNat∧c.toNat≤57:=by
 unfold dgB dg at h
 simp only [Bool.and_eq_true,decide_eq_true_eq] at h
 omega
theorem cnt_all (p:UInt8→Bool):∀ {s:List UInt8},cnt p s=s.length→∀ c∈s,p c=true
 | [],_,c,hc=>by simp at hc
 | d::s,h,c,hc=>by
   have hle:=cnt_le p s
   simp only [cnt,List.length_cons] at h
   split at h
   ·rename_i hd
    rcases List.mem_cons.1 hc with rfl | hc
    ·exact hd
    ·exact cnt_all p (by omega) c hc
   ·omega
theorem u8_digit {c:UInt8} (h:dgB c=true):IntKind.u8.wrap ((c.toNat:Int) - 48)=(c.toNat:Int) - 48:=by
 have:=dg_rng h
 have w:∀ n:Int,0≤n→n≤255→IntKind.u8.wrap n=n:=by
  intro n h0 h1
  simp only [IntKind.wrap,IntKind.signed,IntKind.bits]
  simp
  omega
 exact w _ (by omega) (by omega)
theorem pow_succ10 (k:Nat):(10:Int) ^ (k+1)=10 * 10 ^ k:=by rw [Int.pow_succ]; omega
theorem pow_le6 {k:Nat} (h:k≤6):(10:Int) ^ k≤1000000:=by
 have:k=0∨k=1∨k=2∨k=3∨k=4∨k=5∨k=6:=by omega
 rcases this with rfl | rfl | rfl | rfl | rfl | rfl | rfl<;>decide
theorem lnum {R:Type} (k0:Int→List Int→Int→Int→Option R):
  ∀ (ys pre:List UInt8) (m:Nat) (a:Int),(∀ c∈ys,dgB c=true)→pre.length+ys.length≤6→ys.length < m→0≤a→a < 10 ^ pre.length→
    l45_14 k0 m a ((pre++ys).map fun b=>(b.toNat:Int)) (((pre++ys).map fun b=>(b.toNat:Int)).length:Int) (pre.length:Int)=k0 (numV ys a) ((pre++ys).map fun b=>(b.toNat:Int)) (((pre++ys).map fun b=>(b.toNat:Int)).length:Int) ((pre++ys).length:Int):=by
 intro ys
 induction ys with
 | nil=>
   intro pre m a hd hl hm h0 h1
   cases m with
   | zero=>simp at hm
   | succ m=>
     have d:decide ((pre.length:Int) < (((pre++[]).map fun b:UInt8=>(b.toNat:Int)).length:Int))=false:=by simp
     unfold l45_14
     simp only [g45_0,g45_1,g45_2,g45_4,g45_5,g45_6,g45_10,g45_12,g45_13,g45_14,g45_16,g45_17,g45,d,bF,numV]
     simp
 | cons y ys ih=>
   intro pre m a hd hl hm h0 h1
   cases m with
   | zero=>simp at hm
   | succ m=>
     simp only [List.length_cons] at hl hm
     have hy:=hd y (by simp)
     have hr:=dg_rng hy
     have hp:(10:Int) ^ pre.length≤1000000:=pow_le6 (by omega)
     have hL:(((pre++y::ys).map fun b:UInt8=>(b.toNat:Int)).length:Int)=((pre++y::ys).length:Int):=by simp
     have d:decide ((pre.length:Int) < (((pre++y::ys).map fun b:UInt8=>(b.toNat:Int)).length:Int))=true:=by rw [hL]; exact lt_cons ..
     have i1:(0≤(pre.length:Int)∧(pre.length:Int) < (((pre++y::ys).map fun b:UInt8=>(b.toNat:Int)).length:Int))=True:=by rw [hL]; exact in_cons ..
     have i2:(Int.toNat (pre.length:Int) < ((pre++y::ys).map fun b:UInt8=>(b.toNat:Int)).length)=True:=by simp
     have e1:((pre++y::ys).map fun b:UInt8=>(b.toNat:Int)).getD (Int.toNat (pre.length:Int)) 0=(y.toNat:Int):=by simp
     have w1:IntKind.i64.wrap (10 * a)=10 * a:=wrap_id (by omega)
     have w2:IntKind.i64.wrap ((y.toNat:Int) - 48)=(y.toNat:Int) - 48:=wrap_id (by omega)
     have w3:IntKind.i64.wrap (10 * a+((y.toNat:Int) - 48))=10 * a+((y.toNat:Int) - 48):=wrap_id (by omega)
     have w4:IntKind.i64.wrap ((pre.length:Int)+1)=((pre++[y]).length:Int):=by rw [wrap_id (by omega)]; simp
     unfold l45_14
     simp only [g45_0,g45_1,g45_2,g45_4,g45_5,g45_6,g45_10,g45_12,g45_13,g45_14,g45_16,g45_17,g45,d,bT,i1,i2,if_true,e1,u8_digit hy,w1,w2,w3,w4,numV]
     rw [app_cons pre ys y]
     exact ih (pre++[y]) m (10 * a+((y.toNat:Int) - 48)) (fun c hc=>hd c (by simp [hc])) (by simp; omega) (by omega) (by omega) (by
      simp only [List.length_append,List.length_cons,List.length_nil]; rw [pow_succ10]; omega)
theorem lnumR {R:Type} (k0:List UInt8→Int→Int→Option R):
  ∀ (ys pre:List UInt8) (m:Nat) (a:Int),(∀ c∈ys,dgB c=true)→pre.length+ys.length≤6→ys.length < m→0≤a→a < 10 ^ pre.length→
    l50_12 k0 m (pre++ys) a (pre.length:Int)=k0 (pre++ys) (numV ys a) ((pre++ys).length:Int):=by
 intro ys
 induction ys with
 | nil=>
   intro pre m a hd hl hm h0 h1
   cases m with
   | zero=>simp at hm
   | succ m=>
     unfold l50_12
     simp only [g50_0,g50_1,g50_2,g50_4,g50_5,g50_6,g50_8,g50_10,g50_11,g50_12,g50_14,g50_15,g50,lt_nil,bF,numV]
     simp
 | cons y ys ih=>
   intro pre m a hd hl hm h0 h1
   cases m with
   | zero=>simp at hm
   | succ m=>
     simp only [List.length_cons] at hl hm
     have hy:=hd y (by simp)
     have hr:=dg_rng hy
     have hp:(10:Int) ^ pre.length≤1000000:=pow_le6 (by omega)
     have w1:IntKind.i64.wrap (10 * a)=10 * a:=wrap_id (by omega)
     have w2:IntKind.i64.wrap ((y.toNat:Int) - 48)=(y.toNat:Int) - 48:=wrap_id (by omega)
     have w3:IntKind.i64.wrap (10 * a+((y.toNat:Int) - 48))=10 * a+((y.toNat:Int) - 48):=wrap_id (by omega)
     have w4:IntKind.i64.wrap ((pre.length:Int)+1)=((pre++[y]).length:Int):=by rw [wrap_id (by omega)]; simp
     unfold l50_12
     simp only [g50_0,g50_1,g50_2,g50_4,g50_5,g50_6,g50_8,g50_10,g50_11,g50_12,g50_14,g50_15,g50,lt_cons,in_cons,at_cons,bT,if_true,u8_digit hy,w1,w2,w3,w4,numV]
     rw [app_cons pre ys y]
     exact ih (pre++[y]) m (10 * a+((y.toNat:Int) - 48)) (fun c hc=>hd c (by simp [hc])) (by simp; omega) (by omega) (by omega) (by
      simp only [List.length_append,List.length_cons,List.length_nil]; rw [pow_succ10]; omega)
def numR (s:List UInt8):Int×Bool:=cond (numOk s) (numV s 0,true) (0,false)
theorem vnum (s:List UInt8) (hs:s.length < 30000):S45 30000 s=some (numR s)∧S50 30000 s=some (numR s):=by
 have hd:=vdg s hs
 have a1:=lnum (R:=Int×Bool) (fun n _ _ _=>some (n,true)) s [] 30000 0
 have a2:=lnumR (R:=Int×Bool) (fun _ n _=>some (n,true)) s [] 30000 0
 unfold S45 S50 numR numOk
 simp only [g45_0,g45_1,g45_2,g45_4,g45_5,g45_6,g45_10,g45_12,g45_13,g45_14,g45_16,g45_17,g45,g50_0,g50_1,g50_2,g50_4,g50_5,g50_6,g50_8,g50_10,g50_11,g50_12,g50_14,g50_15,g50,hd.1,hd.2,Option.bind_some]
 cases s with
 | nil=>exact ⟨rfl,rfl⟩
 | cons c t=>
   have h0:((c::t)==([]:List UInt8))=false:=rfl
   have hz:0≤(0:Int)∧(0:Int) < ((c::t).length:Int):=by simp only [List.length_cons]; omega
   have hc:(((c::t).getD (0:Int).toNat 0).toNat:Int)=(c.toNat:Int):=rfl
   have hh:((c::t).headD 0).toNat=c.toNat:=rfl
   simp only [h0,bF,Bool.not_false,Bool.true_and,if_pos hz,hc,hh]
   by_cases h1:(c::t).length≤6
   ·have d1:decide (((c::t).length:Int) > 6)=false:=decide_eq_false (by omega)
    have d2:decide ((c::t).length≤6)=true:=decide_eq_true h1
    simp only [d1,d2,bF,Bool.true_and]
    by_cases h2:cnt dgB (c::t)=(c::t).length
    ·have d3:((cnt dgB (c::t):Int) != ((c::t).length:Int))=false:=by rw [h2]; simp
     have d4:(cnt dgB (c::t)==(c::t).length)=true:=by simpa using h2
     simp only [d3,d4,bF,Bool.true_and]
     have hall:=cnt_all dgB h2
     have a1:=a1 hall (by simpa using h1) (by omega) (by omega) (by decide)
     have a2:=a2 hall (by simpa using h1) (by omega) (by omega) (by decide)
     simp only [List.nil_append,List.length_nil,Int.natCast_zero] at a1 a2
     by_cases h3:1 < (c::t).length
     ·have d5:decide (((c::t).length:Int) > 1)=true:=decide_eq_true (by omega)
      have d6:decide (1 < (c::t).length)=true:=decide_eq_true h3
      by_cases h4:c.toNat=48
      ·have d7:((c.toNat:Int)==48)=true:=by simp [h4]
       have d8:(c.toNat==48)=true:=by simp [h4]
       simp only [d5,d6,d7,d8,bT,bF,Bool.true_and,Bool.not_true,cond_false]
       exact ⟨trivial,trivial⟩
      ·have d7:((c.toNat:Int)==48)=false:=by simp only [beq_eq_false_iff_ne,ne_eq]; omega
       have d8:(c.toNat==48)=false:=by simpa using h4
       simp only [d5,d6,d7,d8,bT,bF,Bool.and_false,Bool.not_false,cond_true]
       exact ⟨a1,a2⟩
     ·have d5:decide (((c::t).length:Int) > 1)=false:=decide_eq_false (by omega)
      have d6:decide (1 < (c::t).length)=false:=decide_eq_false h3
      cases h4:((c.toNat:Int)==48) with
      | true=>
        simp only [d5,d6,h4,bT,bF,Bool.false_and,Bool.not_false,cond_true]
        exact ⟨a1,a2⟩
      | false=>
        simp only [d5,d6,h4,bT,bF,Bool.false_and,Bool.not_false,cond_true]
        exact ⟨a1,a2⟩
    ·have hle:=cnt_le dgB (c::t)
     have d3:((cnt dgB (c::t):Int) != ((c::t).length:Int))=true:=by simp only [bne_iff_ne,ne_eq]; omega
     have d4:(cnt dgB (c::t)==(c::t).length)=false:=by simpa using h2
     simp only [d3,d4,bT,Bool.false_and,cond_false]
     exact ⟨trivial,trivial⟩
   ·have d1:decide (((c::t).length:Int) > 6)=true:=decide_eq_true (by omega)
    have d2:decide ((c::t).length≤6)=false:=decide_eq_false h1
    simp only [d1,d2,bT,Bool.false_and,cond_false]
    exact ⟨trivial,trivial⟩
def nx:List UInt8→Sum Int (Int×(List UInt8×Nat))
 | []=>.inl 2
 | c::t=>
   if smB c then (if 20 < nmL (c::t) then .inl 3 else .inr (1,(c::t).take (nmL (c::t)),nmL (c::t)))
   else if dgB c then (if 6 < cnt dgB (c::t) then .inl 3 else if c.toNat=48∧1 < cnt dgB (c::t) then .inl 2 else .inr (2,(c::t).take (cnt dgB (c::t)),cnt dgB (c::t)))
   else if c.toNat=34 then (if (quoT t).1=0 then .inr (3,(quoT t).2,(quoT t).2.length+2) else .inl (quoT t).1)
   else if sgB c then .inr (4,[c],1) else .inl 2
def nxP (s:List UInt8) (r:Option (Tok×Int×Int)):Prop:=match nx s with
 | .inl e=>e≠0∧∃ t n,r=some (t,n,e)
 | .inr (k,x,n)=>0 < n∧n≤s.length∧r=some ((k,(x,((0:Int),()))),(n:Int),0)
theorem quoT_len (t:List UInt8):(quoT t).1=0→(quoT t).2.length+1≤t.length:=by
 intro h
 unfold quoT at h ⊢
 have hd:=drop_cnt inB' t
 cases hdr:t.drop (cnt inB' t) with
 | nil=>rw [hdr] at h; simp at h
 | cons d r=>
   obtain ⟨h1,_⟩:=hd.2 d r hdr
   rw [hdr] at h
   simp only at h ⊢
   split at h
   ·simp at h
   ·rename_i h3
    rw [if_neg h3]
    split at h
    ·simp at h
    ·rename_i h4
     rw [if_neg h4,List.length_take]; omega
theorem cnt_take (p:UInt8→Bool):∀ s:List UInt8,cnt p (s.take (cnt p s))=cnt p s
 | []=>rfl
 | c::s=>by
   by_cases h:p c=true
   ·simp only [cnt,h,if_true,List.take_succ_cons,cnt_take p s]
   ·simp only [cnt,h,Bool.false_eq_true,if_false,List.take_zero,cnt]
theorem vnext (c:UInt8) (t:List UInt8) (hs:(c::t).length < 30000):nxP (c::t) (S44 30000 (c::t))∧nxP (c::t) (S49 30000 (c::t)):=by
 have hn:=vnm (c::t) hs
 have hd:=vdg (c::t) hs
 have hnl:=nmL_le (c::t)
 have hdl:=cnt_le dgB (c::t)
 obtain ⟨⟨r,hr1,hr2⟩,hsg⟩:=vsign c
 have hz:0≤(0:Int)∧(0:Int) < ((c::t).length:Int):=by simp only [List.length_cons]; omega
 have hc:(((c::t).getD (0:Int).toNat 0).toNat:Int)=(c.toNat:Int):=rfl
 have hq1:0≤(0:Int)∧(0:Int)≤(1:Int)∧(1:Int)≤((c::t).length:Int):=by simp only [List.length_cons]; omega
 have ht1:((c::t).drop (0:Int).toNat).take ((1:Int).toNat - (0:Int).toNat)=[c]:=rfl
 have htk:∀ n:Nat,((c::t).drop (0:Int).toNat).take (Int.toNat (n:Int) - (0:Int).toNat)=(c::t).take n:=fun n=>by rw [Int.toNat_natCast]; rfl
 have hrg:∀ n:Nat,n≤(c::t).length→(0≤(0:Int)∧(0:Int)≤(n:Int)∧(n:Int)≤((c::t).length:Int))=True:=fun n h=>by simp only [eq_iff_iff,iff_true]; omega
 have hnum:=vnum ((c::t).take (cnt dgB (c::t))) (by rw [List.length_take]; omega)
 unfold S44 S49 nxP
 simp only [g44_0,g44_1,g44_2,g44_3,g44_4,g44_5,g44_7,g44_8,g44_9,g44_10,g44_11,g44_17,g44_15,g44_18,g44_19,g44_22,g44_23,g44_24,g44_30,g44_31,g44,g49_0,g49_8,g49_3,g49_4,g49_6,g49_19,g49_11,g49_12,g49_14,g49_15,g49_17,g49_20,g49_21,g49_23,g49_24,g49_26,g49_27,g49,v61,v62,hn.1,hn.2,hd.1,hd.2,Option.bind_some,if_pos hz,hc,hr1,hr2,hsg,htk,hrg _ hnl,hrg _ hdl,hnum.1,if_true,if_pos hq1,ht1,nx]
 cases h1:sm (c.toNat:Int) with
 | true=>
   have h1':smB c=true:=h1
   have hp:0 < nmL (c::t):=by simp only [nmL,h1',if_true]; omega
   have d0:decide ((nmL (c::t):Int) > 0)=true:=decide_eq_true (by omega)
   simp only [h1',if_true,bT,d0]
   by_cases h2:20 < nmL (c::t)
   ·have d1:decide ((nmL (c::t):Int) > 20)=true:=decide_eq_true (by omega)
    simp only [d1,bT,if_pos h2]
    exact ⟨⟨by decide,_,_,rfl⟩,by decide,_,_,rfl⟩
   ·have d1:decide ((nmL (c::t):Int) > 20)=false:=decide_eq_false (by omega)
    simp only [d1,bF,if_neg h2]
    exact ⟨⟨hp,hnl,by first | rfl | trivial⟩,hp,hnl,by first | rfl | trivial⟩
 | false=>
   have h1':smB c=false:=h1
   have hp:nmL (c::t)=0:=by simp only [nmL,h1',Bool.false_eq_true,if_false]
   have d0:decide ((nmL (c::t):Int) > 0)=false:=decide_eq_false (by omega)
   simp only [h1',Bool.false_eq_true,if_false,bF,d0]
   cases h2:dg (c.toNat:Int) with
   | true=>
     have h2':dgB c=true:=h2
     have hp2:0 < cnt dgB (c::t):=by simp only [cnt,h2',if_true]; omega
     have d2:decide ((cnt dgB (c::t):Int) > 0)=true:=decide_eq_true (by omega)
     simp only [h2',if_true,bT,d2]
     by_cases h3:6 < cnt dgB (c::t)
     ·have d1:decide ((cnt dgB (c::t):Int) > 6)=true:=decide_eq_true (by omega)
      simp only [d1,bT,if_pos h3]
      exact ⟨⟨by decide,_,_,rfl⟩,by decide,_,_,rfl⟩
     ·have d1:decide ((cnt dgB (c::t):Int) > 6)=false:=decide_eq_false (by omega)
      have hlen:((c::t).take (cnt dgB (c::t))).length=cnt dgB (c::t):=by rw [List.length_take]; omega
      have hne:((c::t).take (cnt dgB (c::t))==([]:List UInt8))=false:=by
       simp only [beq_eq_false_iff_ne,ne_eq]; intro h; rw [h] at hlen; simp at hlen; omega
      have hhd:((c::t).take (cnt dgB (c::t))).headD 0=c:=by
       obtain ⟨k,hk⟩:∃ k,cnt dgB (c::t)=k+1:=⟨cnt dgB (c::t) - 1,by omega⟩
       rw [hk]; rfl
      have hok:(numR ((c::t).take (cnt dgB (c::t)))).2=!(decide (1 < cnt dgB (c::t))&&(c.toNat==48)):=by
       unfold numR numOk
       rw [hne,hlen,cnt_take,hhd]
       have d3:decide (cnt dgB (c::t)≤6)=true:=decide_eq_true (by omega)
       have d4:(cnt dgB (c::t)==cnt dgB (c::t))=true:=by simp
       rw [d3,d4]
       cases h:(decide (1 < cnt dgB (c::t))&&(c.toNat==48))<;>rfl
      simp only [d1,bF,if_neg h3,hok,Bool.not_not]
      by_cases h4:c.toNat=48∧1 < cnt dgB (c::t)
      ·have d5:(decide (1 < cnt dgB (c::t))&&(c.toNat==48))=true:=by simp [h4.1,h4.2]
       have d6:((c.toNat:Int)==48)=true:=by simp [h4.1]
       have d7:decide ((cnt dgB (c::t):Int) > 1)=true:=decide_eq_true (by omega)
       simp only [d5,d6,d7,bT,if_pos h4]
       exact ⟨⟨by decide,_,_,rfl⟩,by decide,_,_,rfl⟩
      ·have d5:(decide (1 < cnt dgB (c::t))&&(c.toNat==48))=false:=by
        cases h5:decide (1 < cnt dgB (c::t)) with
        | false=>rfl
        | true=>
          have h5:=of_decide_eq_true h5
          simp only [Bool.true_and,beq_eq_false_iff_ne,ne_eq]
          exact fun h6=>h4 ⟨h6,h5⟩
       simp only [d5,bF,if_neg h4]
       refine ⟨⟨hp2,hdl,by first | rfl | trivial⟩,hp2,hdl,?_⟩
       by_cases h6:c.toNat=48
       ·have d6:((c.toNat:Int)==48)=true:=by simp [h6]
        have d7:decide ((cnt dgB (c::t):Int) > 1)=false:=decide_eq_false (by have:=fun h=>h4 ⟨h6,h⟩; omega)
        simp only [d6,d7,bT,bF]
       ·have d6:((c.toNat:Int)==48)=false:=by simp only [beq_eq_false_iff_ne,ne_eq]; omega
        simp only [d6,bF]
   | false=>
     have h2':dgB c=false:=h2
     have hp2:cnt dgB (c::t)=0:=by simp only [cnt,h2',Bool.false_eq_true,if_false]
     have d2:decide ((cnt dgB (c::t):Int) > 0)=false:=decide_eq_false (by omega)
     simp only [h2',Bool.false_eq_true,if_false,bF,d2]
     by_cases h3:c.toNat=34
     ·have d3:((c.toNat:Int)==34)=true:=by simp [h3]
      simp only [d3,bT,if_pos h3,vquoted c t hs,vinQuotes c t hs,Option.bind_some]
      have hql:=quoT_len t
      have he:(quoT t).1=0∨(quoT t).1=2∨(quoT t).1=3:=by
       unfold quoT
       split
       ·split
        ·exact .inr (.inl rfl)
        ·split
         ·exact .inr (.inr rfl)
         ·exact .inl rfl
       ·exact .inr (.inl rfl)
      by_cases h4:(quoT t).1=0
      ·have hl:=hql h4
       have w:IntKind.i64.wrap (((quoT t).2.length:Int)+2)=(((quoT t).2.length+2:Nat):Int):=by
        rw [wrap_id (by simp at hs; omega)]; omega
       simp only [if_pos h4]
       exact ⟨⟨by omega,by simp only [List.length_cons]; omega,by rw [w,h4]⟩,by omega,by simp only [List.length_cons]; omega,by first | rfl | trivial⟩
      ·simp only [if_neg h4]
       have:(quoT t).1≠0:=h4
       exact ⟨⟨this,_,_,rfl⟩,this,_,_,rfl⟩
     ·have d3:((c.toNat:Int)==34)=false:=by simp only [beq_eq_false_iff_ne,ne_eq]; omega
      simp only [d3,bF,if_neg h3]
      cases h4:sgB c with
      | true=>
        simp only [bT,if_true]
        exact ⟨⟨by omega,by simp,rfl⟩,by omega,by simp,rfl⟩
      | false=>
        simp only [bF,Bool.false_eq_true,if_false]
        exact ⟨⟨by decide,_,_,rfl⟩,by decide,_,_,rfl⟩
def untilNL:List UInt8→List UInt8
 | []=> []
 | c::s=>if c.toNat=10 then c::s else untilNL s
theorem untilNL_le:∀ s,(untilNL s).length≤s.length
 | []=>Nat.le_refl _
 | c::s=>by
   simp only [untilNL]
   split
   ·exact Nat.le_refl _
   ·have:=untilNL_le s; simp only [List.length_cons]; omega
def isW (c:UInt8):Bool:=(c.toNat==32) || ((c.toNat==9) || (c.toNat==13))
def toks:Nat→Int→List UInt8→Sum (Int×Int) (List Tok)
 | _,_,[]=>.inr []
 | 0,_,_::_=>.inr []
 | f+1,l,c::s=>
   if c.toNat=10 then toks f (l+1) s
   else if isW c then toks f l s
   else if c.toNat=35 then toks f l (untilNL s)
   else match nx (c::s) with
    | .inl e=>.inl (l,e)
    | .inr (k,x,n)=>match toks f l ((c::s).drop n) with
      | .inl q=>.inl q
      | .inr ts=>.inr ((k,(x,(l,())))::ts)
theorem nx_pos {s:List UInt8} {k:Int} {x:List UInt8} {n:Nat} (h:nx s=.inr (k,x,n)):0 < n:=by
 unfold nx at h
 split at h
 ·cases h
 ·rename_i c t
  split at h
  ·rename_i h1
   split at h
   ·cases h
   ·cases h; simp only [nmL,h1,if_true]; omega
  ·split at h
   ·rename_i h1
    split at h
    ·cases h
    ·split at h
     ·cases h
     ·cases h; simp only [cnt,h1,if_true]; omega
   ·split at h
    ·split at h
     ·cases h; omega
     ·cases h
    ·split at h
     ·cases h; omega
     ·cases h
theorem toks_fuel:∀ (f g:Nat) (l:Int) (s:List UInt8),s.length≤f→s.length≤g→toks f l s=toks g l s
 | 0,g,l,[],_,_=>by cases g<;>rfl
 | 0,_,_,_::_,h,_=>by simp at h
 | f+1,0,l,[],_,_=>rfl
 | f+1,g+1,l,[],_,_=>rfl
 | _+1,0,_,_::_,_,h=>by simp at h
 | f+1,g+1,l,c::s,h1,h2=>by
   simp only [List.length_cons] at h1 h2
   simp only [toks]
   rw [toks_fuel f g (l+1) s (by omega) (by omega),toks_fuel f g l s (by omega) (by omega),toks_fuel f g l (untilNL s) (by have:=untilNL_le s; omega) (by have:=untilNL_le s; omega)]
   split
   ·rfl
   ·split
    ·rfl
    ·split
     ·rfl
     ·split
      ·rfl
      ·rename_i k x n hn
       have hp:=nx_pos hn
       have hl:((c::s).drop n).length≤s.length:=by rw [List.length_drop,List.length_cons]; omega
       rw [toks_fuel f g l ((c::s).drop n) (by omega) (by omega)]
theorem until_split:∀ s:List UInt8,∃ q,s=q++untilNL s∧q.countP (fun c=>c.toNat==10)=0
 | []=>⟨[],rfl,rfl⟩
 | c::s=>by
   by_cases h:c.toNat=10
   ·exact ⟨[],by simp only [untilNL,if_pos h,List.nil_append],rfl⟩
   ·obtain ⟨q,h1,h2⟩:=until_split s
    refine ⟨c::q,?_,?_⟩
    ·simp only [untilNL,if_neg h,List.cons_append]
     rw [←h1]
    ·rw [List.countP_cons,h2]; simp [h]
theorem lskip {R:Type} (k0:List UInt8→List Tok→Int→Int→Option R) (out:List Tok) (l:Int):
  ∀ (ys pre:List UInt8) (m:Nat),ys.length < m→(pre++ys).length≤1000000→
    l18_27 k0 m (pre++ys) out l (pre.length:Int)=k0 (pre++ys) out l ((pre.length+(ys.length - (untilNL ys).length):Nat):Int):=by
 intro ys
 induction ys with
 | nil=>
   intro pre m hm hb
   cases m with
   | zero=>simp at hm
   | succ m=>
     unfold l18_27
     simp only [g18_0,g18_1,g18_2,g18_46,g18_6,g18_7,g18_9,g18_10,g18_13,g18_14,g18_15,g18_16,g18_19,g18_20,g18_21,g18_22,g18_24,g18_26,g18_27,g18_29,g18_30,g18_31,g18_36,g18_42,g18_43,g18_45,g18_47,g18,lt_nil,bF]
     simp
 | cons y ys ih=>
   intro pre m hm hb
   cases m with
   | zero=>simp at hm
   | succ m=>
     have hb':(pre++y::ys).length≤BIG:=by unfold BIG; omega
     unfold l18_27
     simp only [g18_0,g18_1,g18_2,g18_46,g18_6,g18_7,g18_9,g18_10,g18_13,g18_14,g18_15,g18_16,g18_19,g18_20,g18_21,g18_22,g18_24,g18_26,g18_27,g18_29,g18_30,g18_31,g18_36,g18_42,g18_43,g18_45,g18_47,g18,lt_cons,in_cons,at_cons,if_true,bT,wrap_snoc pre ys y hb',untilNL]
     by_cases h:y.toNat=10
     ·have d:((y.toNat:Int) != 10)=false:=by simp [h]
      simp only [d,bF,if_pos h,Nat.sub_self,Nat.add_zero]
     ·have d:((y.toNat:Int) != 10)=true:=by simp only [bne_iff_ne,ne_eq]; omega
      simp only [d,bT,if_neg h]
      rw [app_cons pre ys y,ih (pre++[y]) m (by simpa using hm) (by rw [←app_cons]; exact hb)]
      have:=untilNL_le ys
      congr 2; simp; omega
theorem drop_pre {α:Type} (pre ys:List α):((pre++ys).drop (Int.toNat (pre.length:Int))).take (Int.toNat ((pre++ys).length:Int) - Int.toNat (pre.length:Int))=ys:=by
 rw [Int.toNat_natCast,Int.toNat_natCast,List.drop_left]
 exact List.take_of_length_le (by simp)
theorem in_pre {α:Type} (pre ys:List α):(0≤(pre.length:Int)∧(pre.length:Int)≤((pre++ys).length:Int)∧((pre++ys).length:Int)≤((pre++ys).length:Int))=True:=by
 simp only [List.length_append,eq_iff_iff,iff_true]; omega
theorem ltokens {R:Type} (k0:List Tok→Int→Int→Option R) (kk:List Tok→Option R):
  ∀ (f:Nat) (ys pre:List UInt8) (out:List Tok) (l:Int) (m:Nat),ys.length≤f→ys.length < m→(pre++ys).length < 30000→0≤l→l+ys.length≤1000000000→out.length+ys.length≤1000000000→
    l18_43 30000 (S44 30000) k0 (fun _ o _ _=>kk o) m (pre++ys) out l (pre.length:Int)=
     match toks f l ys with | .inl (l',e)=>k0 [] l' e | .inr ts=>kk (out++ts):=by
 intro f
 induction f with
 | zero=>
   intro ys pre out l m hf hm hb h0 h1 h2
   have:ys=[]:=List.length_eq_zero_iff.1 (by omega)
   subst this
   cases m with
   | zero=>simp at hm
   | succ m=>
     unfold l18_43
     simp only [g18_0,g18_1,g18_2,g18_46,g18_6,g18_7,g18_9,g18_10,g18_13,g18_14,g18_15,g18_16,g18_19,g18_20,g18_21,g18_22,g18_24,g18_26,g18_27,g18_29,g18_30,g18_31,g18_36,g18_42,g18_43,g18_45,g18_47,g18,lt_nil,bF,toks]
     rw [List.append_nil]
 | succ f ih=>
   intro ys pre out l m hf hm hb h0 h1 h2
   cases ys with
   | nil=>
     cases m with
     | zero=>simp at hm
     | succ m=>
       unfold l18_43
       simp only [g18_0,g18_1,g18_2,g18_46,g18_6,g18_7,g18_9,g18_10,g18_13,g18_14,g18_15,g18_16,g18_19,g18_20,g18_21,g18_22,g18_24,g18_26,g18_27,g18_29,g18_30,g18_31,g18_36,g18_42,g18_43,g18_45,g18_47,g18,lt_nil,bF,toks]
       rw [List.append_nil]
   | cons c s=>
     cases m with
     | zero=>simp at hm
     | succ m=>
       simp only [List.length_cons,List.length_append] at hf hm hb h1 h2
       have hbg:(pre++c::s).length≤BIG:=by unfold BIG; simp; omega
       have w1:IntKind.i64.wrap (l+1)=l+1:=wrap_id (by omega)
       have hgo:∀ (out:List Tok) (l:Int),0≤l→l+s.length≤1000000000→out.length+s.length≤1000000000→
         l18_43 30000 (S44 30000) k0 (fun _ o _ _=>kk o) m (pre++c::s) out l ((pre++[c]).length:Int)=match toks f l s with | .inl (l',e)=>k0 [] l' e | .inr ts=>kk (out++ts):=by
        intro out l g0 g1 g2
        rw [app_cons pre s c]
        exact ih s (pre++[c]) out l m (by omega) (by omega) (by simp; omega) g0 g1 g2
       have hsk:=lskip (R:=R) (l18_43 30000 (S44 30000) k0 (fun _ o _ _=>kk o) m) out l (c::s) pre 30000 (by simp; omega) (by simp; omega)
       have hnx:=(vnext c s (by simp; omega)).1
       unfold l18_43
       simp only [g18_0,g18_1,g18_2,g18_46,g18_6,g18_7,g18_9,g18_10,g18_13,g18_14,g18_15,g18_16,g18_19,g18_20,g18_21,g18_22,g18_24,g18_26,g18_27,g18_29,g18_30,g18_31,g18_36,g18_42,g18_43,g18_45,g18_47,g18,lt_cons,in_cons,at_cons,if_true,bT,w1,wrap_snoc pre s c hbg,in_pre,drop_pre,toks]
       by_cases c1:c.toNat=10
       ·have d1:((c.toNat:Int)==10)=true:=by simp [c1]
        simp only [d1,bT,if_pos c1]
        exact hgo out (l+1) (by omega) (by omega) (by omega)
       ·have d1:((c.toNat:Int)==10)=false:=by simp only [beq_eq_false_iff_ne,ne_eq]; omega
        simp only [d1,bF,if_neg c1]
        have go2:=hgo out l h0 (by omega) (by omega)
        by_cases c2:c.toNat=32
        ·have d2:((c.toNat:Int)==32)=true:=by simp [c2]
         have hw:isW c=true:=by unfold isW; simp [c2]
         simp only [d2,bT,hw,if_true]
         exact go2
        ·have d2:((c.toNat:Int)==32)=false:=by simp only [beq_eq_false_iff_ne,ne_eq]; omega
         simp only [d2,bF]
         by_cases c3:c.toNat=9
         ·have d3:((c.toNat:Int)==9)=true:=by simp [c3]
          have hw:isW c=true:=by unfold isW; simp [c3]
          simp only [d3,bT,hw,if_true]
          exact go2
         ·have d3:((c.toNat:Int)==9)=false:=by simp only [beq_eq_false_iff_ne,ne_eq]; omega
          simp only [d3,bF]
          by_cases c4:c.toNat=13
          ·have d4:((c.toNat:Int)==13)=true:=by simp [c4]
           have hw:isW c=true:=by unfold isW; simp [c4]
           simp only [d4,bT,hw,if_true]
           exact go2
          ·have d4:((c.toNat:Int)==13)=false:=by simp only [beq_eq_false_iff_ne,ne_eq]; omega
           have hw:isW c=false:=by unfold isW; simp [c2,c3,c4]
           simp only [d4,bF,hw,Bool.false_eq_true,if_false]
           by_cases c5:c.toNat=35
           ·have d5:((c.toNat:Int)==35)=true:=by simp [c5]
            simp only [d5,bT,if_pos c5]
            obtain ⟨q,hq,_⟩:=until_split s
            have hu:untilNL (c::s)=untilNL s:=by simp only [untilNL,if_neg c1]
            have hlq:s.length=q.length+(untilNL s).length:=by
             have:=congrArg List.length hq
             rw [List.length_append] at this; exact this
            have hpre:pre++c::s=(pre++c::q)++untilNL s:=by
             rw [List.append_assoc,List.cons_append,←hq]
            rw [hu] at hsk
            have hix:((pre.length+((c::s).length - (untilNL s).length):Nat):Int)=((pre++c::q).length:Int):=by
             simp only [List.length_cons,List.length_append]; omega
            rw [hix] at hsk
            have:=ih (untilNL s) (pre++c::q) out l m (by omega) (by omega) (by simp; omega) h0 (by omega) (by omega)
            rw [←hpre] at this
            have e:(fun (y0:List UInt8) (y1:List Tok) (y2 y3:Int)=>l18_43 30000 (S44 30000) k0 (fun _ o _ _=>kk o) m y0 y1 y2 y3)=l18_43 30000 (S44 30000) k0 (fun _ o _ _=>kk o) m:=rfl
            exact hsk.trans this
           ·have d5:((c.toNat:Int)==35)=false:=by simp only [beq_eq_false_iff_ne,ne_eq]; omega
            simp only [d5,bF,if_neg c5]
            unfold nxP at hnx
            cases hx:nx (c::s) with
            | inl e=>
              rw [hx] at hnx
              obtain ⟨he,t,n,hr⟩:=hnx
              have d6:(e != 0)=true:=by simpa using he
              simp only [hr,Option.bind_some,d6,bT]
            | inr q=>
              obtain ⟨k,x,n⟩:=q
              rw [hx] at hnx
              obtain ⟨hp,hle,hr⟩:=hnx
              have d6:((0:Int) != 0)=false:=rfl
              simp only [List.length_cons] at hle
              have w2:IntKind.i64.wrap ((pre.length:Int)+(n:Int))=((pre++(c::s).take n).length:Int):=by
               rw [wrap_id (by omega),List.length_append,List.length_take,List.length_cons]; omega
              have hl:out.length+[(k,(x,(l,())))].length≤4398046511104:=by simp; omega
              simp only [hr,Option.bind_some,d6,bF,if_pos hl,w2]
              have hpre:pre++c::s=(pre++(c::s).take n)++(c::s).drop n:=by rw [List.append_assoc,List.take_append_drop]
              have hdl:((c::s).drop n).length=s.length+1 - n:=by rw [List.length_drop,List.length_cons]
              have:=ih ((c::s).drop n) (pre++(c::s).take n) (out++[(k,(x,(l,())))]) l m (by omega) (by omega) (by rw [←hpre]; simp; omega) h0 (by omega) (by simp only [List.length_append,List.length_cons,List.length_nil]; omega)
              rw [←hpre] at this
              refine this.trans ?_
              cases toks f l ((c::s).drop n) with
              | inl q=>rfl
              | inr ts=>simp
def nls (s:List UInt8):Nat:=s.countP fun c=>c.toNat==10
theorem lfeeds {R:Type} (k0:List UInt8→Int→Int→Option R):
  ∀ (ys pre:List UInt8) (m:Nat) (a:Nat),ys.length < m→(pre++ys).length≤1000000→a+ys.length≤1000000→
    l48_11 k0 m (pre++ys) (a:Int) (pre.length:Int)=k0 (pre++ys) ((a+nls ys:Nat):Int) ((pre++ys).length:Int):=by
 intro ys
 induction ys with
 | nil=>
   intro pre m a hm hb ha
   cases m with
   | zero=>simp at hm
   | succ m=>
     unfold l48_11
     simp only [g48_14,g48_2,g48_3,g48_5,g48_6,g48_8,g48_9,g48_10,g48_11,g48_13,g48_14b,g48,lt_nil,bF]
     simp [nls]
 | cons y ys ih=>
   intro pre m a hm hb ha
   cases m with
   | zero=>simp at hm
   | succ m=>
     have hb':(pre++y::ys).length≤BIG:=by unfold BIG; omega
     simp only [List.length_cons] at ha
     have key:∀ a:Nat,a+ys.length≤1000000→l48_11 k0 m (pre++y::ys) (a:Int) ((pre++[y]).length:Int)=k0 (pre++y::ys) ((a+nls ys:Nat):Int) ((pre++y::ys).length:Int):=by
      intro a ha
      rw [app_cons pre ys y]
      exact ih (pre++[y]) m a (by simpa using hm) (by rw [←app_cons]; exact hb) ha
     unfold l48_11
     simp only [g48_14,g48_2,g48_3,g48_5,g48_6,g48_8,g48_9,g48_10,g48_11,g48_13,g48_14b,g48,lt_cons,in_cons,at_cons,if_true,bT,wrap_snoc pre ys y hb',wrap1 a (by unfold BIG; omega)]
     by_cases h:y.toNat=10
     ·have d:((y.toNat:Int)==10)=true:=by simp [h]
      simp only [d,bT]
      rw [key (a+1) (by omega)]
      have:nls (y::ys)=nls ys+1:=by unfold nls; rw [List.countP_cons]; simp [h]
      rw [this]; congr 2; omega
     ·have d:((y.toNat:Int)==10)=false:=by simp only [beq_eq_false_iff_ne,ne_eq]; omega
      simp only [d,bF]
      rw [key a (by omega)]
      have:nls (y::ys)=nls ys:=by unfold nls; rw [List.countP_cons]; simp [h]
      rw [this]
theorem v48 (s:List UInt8) (hs:s.length < 30000):S48 30000 s=some (nls s:Int):=by
 have:=lfeeds (R:=Int) (fun _ n _=>some n) s [] 30000 0 hs (by simp; omega) (by omega)
 unfold S48
 simp only [g48_14,g48_2,g48_3,g48_5,g48_6,g48_8,g48_9,g48_10,g48_11,g48_13,g48_14b,g48]
 simpa using this
def spF:Nat→List UInt8→Nat×List UInt8
 | _,[]=>(0,[])
 | 0,c::s=>(0,c::s)
 | f+1,c::s=>if c.toNat=10 then ((spF f s).1+1,(spF f s).2) else if isW c then spF f s else if c.toNat=35 then spF f (untilNL s) else (0,c::s)
theorem spF_split:∀ (f:Nat) (s:List UInt8),∃ q,s=q++(spF f s).2∧nls q=(spF f s).1
 | 0,[]=>⟨[],rfl,rfl⟩
 | _+1,[]=>⟨[],rfl,rfl⟩
 | 0,c::s=>⟨[],rfl,rfl⟩
 | f+1,c::s=>by
   simp only [spF]
   split
   ·rename_i h
    obtain ⟨q,h1,h2⟩:=spF_split f s
    refine ⟨c::q,by simp only [List.cons_append]; rw [←h1],?_⟩
    have:nls (c::q)=nls q+1:=by unfold nls; rw [List.countP_cons]; simp [h]
    rw [this,h2]
   ·rename_i h
    have hc:∀ q,nls (c::q)=nls q:=fun q=>by unfold nls; rw [List.countP_cons]; simp [h]
    split
    ·obtain ⟨q,h1,h2⟩:=spF_split f s
     exact ⟨c::q,by simp only [List.cons_append]; rw [←h1],by rw [hc,h2]⟩
    ·split
     ·obtain ⟨q1,g1,g2⟩:=until_split s
      obtain ⟨q,h1,h2⟩:=spF_split f (untilNL s)
      refine ⟨c::(q1++q),?_,?_⟩
      ·simp only [List.cons_append,List.append_assoc]; rw [←h1,←g1]
      ·rw [hc]; unfold nls; rw [List.countP_append,g2]; rw [Nat.zero_add]; exact h2
     ·exact ⟨[],rfl,rfl⟩
theorem spF_head:∀ (f:Nat) (s:List UInt8),s.length≤f→∀ c t,(spF f s).2=c::t→c.toNat≠10∧isW c=false∧c.toNat≠35
 | _,[],_,c,t,h=>by simp [spF] at h
 | 0,_::_,hl,_,_,_=>by simp at hl
 | f+1,d::s,hl,c,t,h=>by
   simp only [List.length_cons] at hl
   simp only [spF] at h
   split at h
   ·exact spF_head f s (by omega) c t h
   ·split at h
    ·exact spF_head f s (by omega) c t h
    ·split at h
     ·exact spF_head f (untilNL s) (by have:=untilNL_le s; omega) c t h
     ·rename_i h1 h2 h3
      cases h
      exact ⟨h1,by simpa using h2,h3⟩
theorem toks_sp:∀ (g f:Nat) (l:Int) (s:List UInt8),s.length≤g→s.length≤f→toks f l s=toks f (l+(spF g s).1) (spF g s).2
 | _,f,l,[],_,_=>by simp only [spF]; cases f<;>rfl
 | 0,_,_,_::_,h,_=>by simp at h
 | _,0,_,_::_,_,h=>by simp at h
 | g+1,f+1,l,c::s,h1,h2=>by
   simp only [List.length_cons] at h1 h2
   have hu:=untilNL_le s
   simp only [spF]
   have up:∀ (l:Int) (t:List UInt8),t.length≤f→toks f l t=toks (f+1) l t:=fun l t h=>toks_fuel f (f+1) l t h (by omega)
   have sl:∀ (t:List UInt8),(spF g t).2.length≤t.length:=fun t=>by
    obtain ⟨q,e,_⟩:=spF_split g t
    have:=congrArg List.length e
    rw [List.length_append] at this; omega
   by_cases c1:c.toNat=10
   ·rw [if_pos c1]
    simp only [toks,if_pos c1]
    rw [toks_sp g f (l+1) s (by omega) (by omega),up _ _ (by have:=sl s; omega)]
    congr 1
    simp only [Int.natCast_add]; omega
   ·rw [if_neg c1]
    by_cases c2:isW c=true
    ·rw [if_pos c2]
     simp only [toks,if_neg c1,if_pos c2]
     rw [toks_sp g f l s (by omega) (by omega),up _ _ (by have:=sl s; omega)]
    ·rw [if_neg c2]
     by_cases c3:c.toNat=35
     ·rw [if_pos c3]
      simp only [toks,if_neg c1,if_neg c2,if_pos c3]
      rw [toks_sp g f l (untilNL s) (by omega) (by omega),up _ _ (by have:=sl (untilNL s); omega)]
     ·rw [if_neg c3]; simp
theorem lskipR {R:Type} (k0:List UInt8→Int→Option R):
  ∀ (ys pre:List UInt8) (m:Nat),ys.length < m→(pre++ys).length≤1000000→
    l47_20 k0 m (pre++ys) (pre.length:Int)=k0 (pre++ys) ((pre.length+(ys.length - (untilNL ys).length):Nat):Int):=by
 intro ys
 induction ys with
 | nil=>
   intro pre m hm hb
   cases m with
   | zero=>simp at hm
   | succ m=>
     unfold l47_20
     simp only [g47_31,g47_2,g47_4,g47_5,g47_6,g47_7,g47_8,g47_12,g47_13,g47_14,g47_15,g47_17,g47_19,g47_20,g47_22,g47_27,g47_28,g47_30,g47_31b,g47,lt_nil,bF]
     simp
 | cons y ys ih=>
   intro pre m hm hb
   cases m with
   | zero=>simp at hm
   | succ m=>
     have hb':(pre++y::ys).length≤BIG:=by unfold BIG; omega
     unfold l47_20
     simp only [g47_31,g47_2,g47_4,g47_5,g47_6,g47_7,g47_8,g47_12,g47_13,g47_14,g47_15,g47_17,g47_19,g47_20,g47_22,g47_27,g47_28,g47_30,g47_31b,g47,lt_cons,in_cons,at_cons,if_true,bT,wrap_snoc pre ys y hb',untilNL]
     by_cases h:y.toNat=10
     ·have d:((y.toNat:Int) != 10)=false:=by simp [h]
      simp only [d,bF,if_pos h,Nat.sub_self,Nat.add_zero]
     ·have d:((y.toNat:Int) != 10)=true:=by simp only [bne_iff_ne,ne_eq]; omega
      simp only [d,bT,if_neg h]
      rw [app_cons pre ys y,ih (pre++[y]) m (by simpa using hm) (by rw [←app_cons]; exact hb)]
      have:=untilNL_le ys
      congr 2; simp; omega
theorem lspace {R:Type} (kk:Int→Option R):
  ∀ (f:Nat) (ys pre:List UInt8) (m:Nat),ys.length≤f→ys.length < m→(pre++ys).length < 30000→
    l47_28 30000 kk (fun _ i=>kk i) m (pre++ys) (pre.length:Int)=kk ((pre.length+(ys.length - (spF f ys).2.length):Nat):Int):=by
 intro f
 induction f with
 | zero=>
   intro ys pre m hf hm hb
   have:ys=[]:=List.length_eq_zero_iff.1 (by omega)
   subst this
   cases m with
   | zero=>simp at hm
   | succ m=>
     unfold l47_28
     simp only [g47_31,g47_2,g47_4,g47_5,g47_6,g47_7,g47_8,g47_12,g47_13,g47_14,g47_15,g47_17,g47_19,g47_20,g47_22,g47_27,g47_28,g47_30,g47_31b,g47,lt_nil,bF]
     simp
 | succ f ih=>
   intro ys pre m hf hm hb
   cases ys with
   | nil=>
     cases m with
     | zero=>simp at hm
     | succ m=>
       unfold l47_28
       simp only [g47_31,g47_2,g47_4,g47_5,g47_6,g47_7,g47_8,g47_12,g47_13,g47_14,g47_15,g47_17,g47_19,g47_20,g47_22,g47_27,g47_28,g47_30,g47_31b,g47,lt_nil,bF]
       simp
   | cons c s=>
     cases m with
     | zero=>simp at hm
     | succ m=>
       simp only [List.length_cons,List.length_append] at hf hm hb
       have hbg:(pre++c::s).length≤BIG:=by unfold BIG; simp; omega
       have sl:∀ (t:List UInt8),(spF f t).2.length≤t.length:=fun t=>by
        obtain ⟨q,e,_⟩:=spF_split f t
        have:=congrArg List.length e
        rw [List.length_append] at this; omega
       have hgo:l47_28 30000 kk (fun _ i=>kk i) m (pre++c::s) ((pre++[c]).length:Int)=kk ((pre.length+(s.length+1 - (spF f s).2.length):Nat):Int):=by
        rw [app_cons pre s c,ih s (pre++[c]) m (by omega) (by omega) (by simp; omega)]
        have:=sl s
        congr 2; simp; omega
       have hsk:=lskipR (R:=R) (l47_28 30000 kk (fun _ i=>kk i) m) (c::s) pre 30000 (by simp; omega) (by simp; omega)
       unfold l47_28
       simp only [g47_31,g47_2,g47_4,g47_5,g47_6,g47_7,g47_8,g47_12,g47_13,g47_14,g47_15,g47_17,g47_19,g47_20,g47_22,g47_27,g47_28,g47_30,g47_31b,g47,lt_cons,in_cons,at_cons,if_true,bT,wrap_snoc pre s c hbg,spF,List.length_cons]
       by_cases c2:c.toNat=32
       ·have d2:((c.toNat:Int)==32)=true:=by simp [c2]
        have hw:isW c=true:=by unfold isW; simp [c2]
        have c1:¬ c.toNat=10:=by omega
        simp only [d2,bT,hw,if_true,if_neg c1]
        exact hgo
       ·have d2:((c.toNat:Int)==32)=false:=by simp only [beq_eq_false_iff_ne,ne_eq]; omega
        simp only [d2,bF]
        by_cases c3:c.toNat=9
        ·have d3:((c.toNat:Int)==9)=true:=by simp [c3]
         have hw:isW c=true:=by unfold isW; simp [c3]
         have c1:¬ c.toNat=10:=by omega
         simp only [d3,bT,hw,if_true,if_neg c1]
         exact hgo
        ·have d3:((c.toNat:Int)==9)=false:=by simp only [beq_eq_false_iff_ne,ne_eq]; omega
         simp only [d3,bF]
         by_cases c1:c.toNat=10
         ·have d1:((c.toNat:Int)==10)=true:=by simp [c1]
          simp only [d1,bT,if_pos c1]
          exact hgo
         ·have d1:((c.toNat:Int)==10)=false:=by simp only [beq_eq_false_iff_ne,ne_eq]; omega
          simp only [d1,bF,if_neg c1]
          by_cases c4:c.toNat=13
          ·have d4:((c.toNat:Int)==13)=true:=by simp [c4]
           have hw:isW c=true:=by unfold isW; simp [c4]
           simp only [d4,bT,hw,if_true]
           exact hgo
          ·have d4:((c.toNat:Int)==13)=false:=by simp only [beq_eq_false_iff_ne,ne_eq]; omega
           have hw:isW c=false:=by unfold isW; simp [c2,c3,c4]
           simp only [d4,bF,hw,Bool.false_eq_true,if_false]
           by_cases c5:c.toNat=35
           ·have d5:((c.toNat:Int)==35)=true:=by simp [c5]
            simp only [d5,bT,if_pos c5]
            obtain ⟨q,hq,_⟩:=until_split s
            have hu:untilNL (c::s)=untilNL s:=by simp only [untilNL,if_neg c1]
            have hlq:s.length=q.length+(untilNL s).length:=by
             have:=congrArg List.length hq
             rw [List.length_append] at this; exact this
            have hpre:pre++c::s=(pre++c::q)++untilNL s:=by
             rw [List.append_assoc,List.cons_append,←hq]
            rw [hu] at hsk
            have hix:((pre.length+((c::s).length - (untilNL s).length):Nat):Int)=((pre++c::q).length:Int):=by
             simp only [List.length_cons,List.length_append]; omega
            rw [hix] at hsk
            have:=ih (untilNL s) (pre++c::q) m (by omega) (by omega) (by simp; omega)
            rw [←hpre] at this
            refine hsk.trans (this.trans ?_)
            have h3:=sl (untilNL s)
            congr 2
            simp only [List.length_append,List.length_cons]; omega
           ·have d5:((c.toNat:Int)==35)=false:=by simp only [beq_eq_false_iff_ne,ne_eq]; omega
            simp only [d5,bF,if_neg c5,List.length_cons,Nat.sub_self,Nat.add_zero]
theorem v47 (s:List UInt8) (hs:s.length < 30000):S47 30000 s=some ((s.length - (spF s.length s).2.length:Nat):Int):=by
 have:=lspace (R:=Int) some s.length s [] 30000 (Nat.le_refl _) hs (by simpa using hs)
 unfold S47
 simp only [g47_31,g47_2,g47_4,g47_5,g47_6,g47_7,g47_8,g47_12,g47_13,g47_14,g47_15,g47_17,g47_19,g47_20,g47_22,g47_27,g47_28,g47_30,g47_31b,g47]
 simpa using this
theorem ltokR {R:Type} (k0:Int→Int→List Tok→Option R) (k1:List Tok→Int→Int→Option R):
  ∀ (f:Nat) (ys pre:List UInt8) (out:List Tok) (l:Int) (m:Nat),ys.length≤f→ys.length < m→(pre++ys).length < 30000→0≤l→l+ys.length≤1000000000→out.length+ys.length≤1000000000→
    l24_23 (S47 30000) (S48 30000) (S49 30000) k0 k1 m (pre++ys) out l (pre.length:Int)=
     match toks f l ys with | .inl (l',e)=>k1 [] l' e | .inr ts=>k0 0 0 (out++ts):=by
 intro f
 induction f with
 | zero=>
   intro ys pre out l m hf hm hb h0 h1 h2
   have:ys=[]:=List.length_eq_zero_iff.1 (by omega)
   subst this
   cases m with
   | zero=>simp at hm
   | succ m=>
     have i0:=in_pre pre ([]:List UInt8)
     have i1:=drop_pre pre ([]:List UInt8)
     have hsp:S47 30000 ([]:List UInt8)=some 0:=v47 [] (by simp)
     have hfe:S48 30000 ([]:List UInt8)=some 0:=v48 [] (by simp)
     have w0:IntKind.i64.wrap ((pre.length:Int)+0)=(pre.length:Int):=by rw [wrap_id (by simp at hb; omega)]; simp
     have w1:IntKind.i64.wrap (l+0)=l:=by rw [wrap_id (by omega)]; simp
     have i2:(0≤(pre.length:Int)∧(pre.length:Int)≤(pre.length:Int)∧(pre.length:Int)≤((pre++([]:List UInt8)).length:Int))=True:=by simp
     have i3:((pre++([]:List UInt8)).drop (Int.toNat (pre.length:Int))).take (Int.toNat (pre.length:Int) - Int.toNat (pre.length:Int))=[]:=by simp
     have i4:((pre.length:Int)==((pre++([]:List UInt8)).length:Int))=true:=by simp
     unfold l24_23
     simp only [g24_0,g24_1,g24_2,g24_25,g24_21,g24_10,g24_11,g24_13,g24_14,g24_15,g24_20,g24_22,g24_23,g24_26,g24,i0,if_true,i1,hsp,Option.bind_some,w0,i2,i3,hfe,w1,i4,bT,toks]
     rw [List.append_nil]
 | succ f ih=>
   intro ys pre out l m hf hm hb h0 h1 h2
   cases m with
   | zero=>simp at hm
   | succ m=>
     have hyl:ys.length < 30000:=by simp at hb; omega
     obtain ⟨q,hq,hn⟩:=spF_split ys.length ys
     have hhd:=spF_head ys.length ys (Nat.le_refl _)
     have htk:=toks_sp ys.length (f+1) l ys (Nat.le_refl _) hf
     have hsp:=v47 ys hyl
     generalize hr:(spF ys.length ys).2=rest at hq hhd htk hsp
     generalize (spF ys.length ys).1=c at hn htk
     have hlen:ys.length=q.length+rest.length:=by
      have:=congrArg List.length hq
      rw [List.length_append] at this; exact this
     have hfe:=v48 q (by omega)
     have hn0:ys.length - rest.length=q.length:=by omega
     rw [hn0] at hsp
     have hcq:c≤q.length:=by rw [←hn]; exact List.countP_le_length
     have w0:IntKind.i64.wrap ((pre.length:Int)+(q.length:Int))=((pre++q).length:Int):=by
      rw [wrap_id (by simp at hb; omega)]; simp
     have w1:IntKind.i64.wrap (l+(c:Int))=l+(c:Int):=wrap_id (by omega)
     have i2:(0≤(pre.length:Int)∧(pre.length:Int)≤((pre++q).length:Int)∧((pre++q).length:Int)≤((pre++ys).length:Int))=True:=by
      simp only [List.length_append,eq_iff_iff,iff_true]; omega
     have i3:((pre++ys).drop (Int.toNat (pre.length:Int))).take (Int.toNat ((pre++q).length:Int) - Int.toNat (pre.length:Int))=q:=by
      rw [Int.toNat_natCast,Int.toNat_natCast,List.drop_left,List.length_append,Nat.add_sub_cancel_left]
      conv=>lhs; rw [hq]
      exact List.take_left
     rw [hn] at hfe
     unfold l24_23
     simp only [g24_0,g24_1,g24_2,g24_25,g24_21,g24_10,g24_11,g24_13,g24_14,g24_15,g24_20,g24_22,g24_23,g24_26,g24,in_pre,if_true,drop_pre,hsp,Option.bind_some,w0,i2,i3,hfe,w1]
     rw [htk]
     cases rest with
     | nil=>
       have i4:(((pre++q).length:Int)==((pre++ys).length:Int))=true:=by
        simp only [beq_iff_eq,List.length_append]; simp at hlen; omega
       simp only [i4,bT,toks,List.append_nil]
     | cons d t=>
       have i4:(((pre++q).length:Int)==((pre++ys).length:Int))=false:=by
        simp only [beq_eq_false_iff_ne,ne_eq,List.length_append]; simp at hlen; omega
       obtain ⟨c1,c2,c3⟩:=hhd d t rfl
       have hpre:pre++ys=(pre++q)++d::t:=by rw [List.append_assoc,←hq]
       have hnx:=(vnext d t (by simp only [List.length_cons] at hlen ⊢; omega)).2
       have c2':¬ isW d=true:=by rw [c2]; simp
       simp only [i4,bF,toks,if_neg c1,if_neg c2',if_neg c3]
       rw [hpre]
       simp only [in_pre,if_true,drop_pre]
       unfold nxP at hnx
       cases hx:nx (d::t) with
       | inl e=>
         rw [hx] at hnx
         obtain ⟨he,t',n,hr'⟩:=hnx
         have d6:(e != 0)=true:=by simpa using he
         simp only [hr',Option.bind_some,d6,bT]
       | inr qq=>
         obtain ⟨k,x,n⟩:=qq
         rw [hx] at hnx
         obtain ⟨hp,hle,hr'⟩:=hnx
         have d6:((0:Int) != 0)=false:=rfl
         simp only [List.length_cons] at hle hlen
         have hb2:pre.length+ys.length < 30000:=by simpa using hb
         have w2:IntKind.i64.wrap (((pre++q).length:Int)+(n:Int))=(((pre++q)++(d::t).take n).length:Int):=by
          rw [wrap_id (by simp; omega),List.length_append (as:=pre++q),List.length_take,List.length_cons]; omega
         have hl:out.length+[(k,(x,(l+(c:Int),())))].length≤4398046511104:=by simp; omega
         simp only [hr',Option.bind_some,d6,bF,if_pos hl,w2]
         have hpre2:(pre++q)++d::t=((pre++q)++(d::t).take n)++(d::t).drop n:=by rw [List.append_assoc (pre++q),List.take_append_drop]
         have hdl:((d::t).drop n).length=t.length+1 - n:=by rw [List.length_drop,List.length_cons]
         have:=ih ((d::t).drop n) ((pre++q)++(d::t).take n) (out++[(k,(x,(l+(c:Int),())))]) (l+(c:Int)) m (by omega) (by omega) (by rw [←hpre2]; simp; omega) (by omega) (by omega) (by simp only [List.length_append,List.length_cons,List.length_nil]; omega)
         rw [←hpre2] at this
         refine this.trans ?_
         cases toks f (l+(c:Int)) ((d::t).drop n) with
         | inl q=>rfl
         | inr ts=>simp
def tk (s:List UInt8):List Tok×(Int×Int):=match toks s.length 1 s with
 | .inl (l,e)=>([],l,e)
 | .inr ts=>(ts,0,0)
theorem vTokens (s:List UInt8) (hs:s.length < 30000) (h2:s.length≤20000):S18 30000 s=some (tk s)∧S24 30000 s=some (tk s):=by
 have d:decide ((s.length:Int) > 20000)=false:=decide_eq_false (by omega)
 have a1:=ltokens (R:=List Tok×Int×Int) (fun a b c=>some (a,b,c)) (fun o=>some (o,0,0)) s.length s [] [] 1 30000 (Nat.le_refl _) hs (by simpa using hs) (by omega) (by omega) (by simp; omega)
 have a2:=ltokR (R:=List Tok×Int×Int) (fun b c a=>some (a,b,c)) (fun a b c=>some (a,b,c)) s.length s [] [] 1 30000 (Nat.le_refl _) hs (by simpa using hs) (by omega) (by omega) (by simp; omega)
 unfold S18 S24
 simp only [g18_0,g18_1,g18_2,g18_46,g18_6,g18_7,g18_9,g18_10,g18_13,g18_14,g18_15,g18_16,g18_19,g18_20,g18_21,g18_22,g18_24,g18_26,g18_27,g18_29,g18_30,g18_31,g18_36,g18_42,g18_43,g18_45,g18_47,g18,g24_0,g24_1,g24_2,g24_25,g24_21,g24_10,g24_11,g24_13,g24_14,g24_15,g24_20,g24_22,g24_23,g24_26,g24,d,bF]
 simp only [List.nil_append,List.length_nil,Int.natCast_zero] at a1 a2
 unfold tk
 refine ⟨a1.trans ?_,a2.trans ?_⟩<;>cases toks s.length 1 s<;>rfl
abbrev Par:Type:=List Tok×(Int×(Bool×Unit))
def isT (ts:List Tok) (k:Int) (s:List UInt8):Bool:=match ts with
 | []=>false
 | t::_=>(t.1==k)&&((s==[]) || (t.2.1==s))
def hdT (ts:List Tok):Tok:=ts.headD ((0:Int),([],((0:Int),())))
def pos (L ts:List Tok):Int:=((L.length - ts.length:Nat):Int)
theorem suf_tail {L ts:List Tok} (h:ts <:+L):ts.tail <:+L:=(List.tail_suffix ts).trans h
theorem suf_len {L ts:List Tok} (h:ts <:+L):ts.length≤L.length:=h.length_le
theorem pos_lt {L ts:List Tok} (h:ts <:+L):decide (pos L ts < (L.length:Int))=!ts.isEmpty:=by
 have:=suf_len h
 unfold pos
 cases ts with
 | nil=>simp
 | cons t r=>simp only [List.length_cons] at *; simp; omega
theorem pos_in {L r:List Tok} {t:Tok} (h:(t::r) <:+L):(0≤pos L (t::r)∧pos L (t::r) < (L.length:Int))=True:=by
 have:=suf_len h
 unfold pos
 simp only [List.length_cons] at *
 simp only [eq_iff_iff,iff_true]; omega
theorem at_pos {L r:List Tok} {t:Tok} (h:(t::r) <:+L) (d:Tok):L.getD (Int.toNat (pos L (t::r))) d=t:=by
 obtain ⟨p,rfl⟩:=h
 unfold pos
 rw [Int.toNat_natCast,List.length_append,Nat.add_sub_cancel]
 simp
theorem pos_succ {L r:List Tok} {t:Tok} (h:(t::r) <:+L) (hL:L.length≤1000000):IntKind.i64.wrap (pos L (t::r)+1)=pos L r:=by
 have:=suf_len h
 unfold pos
 simp only [List.length_cons] at *
 rw [wrap_id (by omega)]; omega
theorem pos_pred {L r:List Tok} {t:Tok} (h:(t::r) <:+L) (hL:L.length≤1000000):IntKind.i64.wrap (pos L r - 1)=pos L (t::r):=by
 have:=suf_len h
 unfold pos
 simp only [List.length_cons] at *
 rw [wrap_id (by omega)]; omega
theorem pis {L ts:List Tok} (h:ts <:+L) (b:Bool) (k:Int) (s:List UInt8):S20 30000 (L,(pos L ts,(b,()))) k s=some (isT ts k s):=by
 unfold S20
 simp only [g20_2,g20_2b,g20,pos_lt h]
 cases ts with
 | nil=>rfl
 | cons t r=>
   simp only [List.isEmpty_cons,Bool.not_false,bT,pos_in h,if_true,at_pos h,isT]
   cases (t.1==k) with
   | false=>simp only [bF,Bool.false_and]
   | true=>
     simp only [bT,Bool.true_and]
     cases (s==([]:List UInt8)) with
     | true=>simp only [bT,Bool.true_or]
     | false=>simp only [bF,Bool.false_or]
theorem isT_cons {ts:List Tok} {k:Int} {s:List UInt8} (h:isT ts k s=true):∃ t r,ts=t::r:=by
 cases ts with
 | nil=>simp [isT] at h
 | cons t r=>exact ⟨t,r,rfl⟩
theorem ptake_ok {L ts:List Tok} (h:ts <:+L) (hL:L.length≤1000000) {k:Int} {s:List UInt8} (hi:isT ts k s=true):
  S19 30000 (L,(pos L ts,(false,()))) k s=some ((L,(pos L ts.tail,(false,()))),(hdT ts).2.1):=by
 obtain ⟨t,r,rfl⟩:=isT_cons hi
 unfold S19
 simp only [g19_0,g19_1,g19_4,g19_8,g19_9,g19,pis h,hi,Option.bind_some,bF,Bool.not_true,pos_succ h hL,pos_pred h hL,pos_in h,if_true,at_pos h]
 rfl
theorem ptake_no {L ts:List Tok} (h:ts <:+L) {k:Int} {s:List UInt8} (hi:isT ts k s=false):
  S19 30000 (L,(pos L ts,(false,()))) k s=some ((L,(pos L ts,(true,()))),[]):=by
 unfold S19
 simp only [g19_0,g19_1,g19_4,g19_8,g19_9,g19,pis h,hi,Option.bind_some,bF,Bool.not_false,bT]
theorem ptake_bad (L:List Tok) (i:Int) (k:Int) (s:List UInt8):
  S19 30000 (L,(i,(true,()))) k s=some ((L,(i,(true,()))),[]):=by
 unfold S19
 simp only [g19_0,g19_1,g19_4,g19_8,g19_9,g19,bT]
theorem pquoted (x:Par):S46 30000 x=S19 30000 x 3 []:=by
 unfold S46
 simp only [g46_2,g46_2b,g46]
 cases S19 30000 x 3 []<;>rfl
def lineT (L ts:List Tok):Int:=match ts with
 | t::_=>t.2.2.1
 | []=>match L.getLast? with
   | some t=>t.2.2.1
   | none=>1
theorem last_get (L:List Tok) (h:L≠[]) (d:Tok):∃ t,L.getLast?=some t∧L.getD (L.length - 1) d=t:=by
 refine ⟨L.getLast h,List.getLast?_eq_some_getLast h,?_⟩
 rw [List.getD_eq_getElem?_getD,List.getElem?_eq_getElem (by have:=List.length_pos_iff.2 h; omega),Option.getD_some,List.getLast_eq_getElem]
theorem pline {L ts:List Tok} (h:ts <:+L) (hL:L.length≤1000000) (b:Bool):S21 30000 (L,(pos L ts,(b,())))=some (lineT L ts):=by
 unfold S21
 simp only [g21_0,g21_1,g21_2,g21_3,g21_4,g21_8,g21_9,g21,pos_lt h]
 cases ts with
 | cons t r=>simp only [List.isEmpty_cons,Bool.not_false,bT,pos_in h,if_true,at_pos h,lineT]
 | nil=>
   simp only [List.isEmpty_nil,Bool.not_true,bF,lineT]
   by_cases hn:L=[]
   ·subst hn; rfl
   ·have hp:=List.length_pos_iff.2 hn
    obtain ⟨t,h1,h2⟩:=last_get L hn ((0:Int),([],((0:Int),())))
    have d:decide ((L.length:Int) > 0)=true:=decide_eq_true (by omega)
    have w:IntKind.i64.wrap ((L.length:Int) - 1)=((L.length - 1:Nat):Int):=by rw [wrap_id (by omega)]; omega
    have hb:0≤((L.length - 1:Nat):Int)∧((L.length - 1:Nat):Int) < (L.length:Int):=by omega
    simp only [d,bT,w,if_pos hb,Int.toNat_natCast,h2,h1]
def pW:List Tok→Sum (List Tok) (List (List UInt8)×List Tok)
 | c::q::r=>if isT (c::q::r) 4 [44] then (if isT (q::r) 3 [] then (match pW r with
    | .inl f=>.inl f
    | .inr (ws,r')=>.inr (q.2.1::ws,r')) else .inl (q::r)) else .inr ([],c::q::r)
 | [c]=>if isT [c] 4 [44] then .inl [] else .inr ([],[c])
 | []=>.inr ([],[])
def sufO {α:Type} (L:List Tok):Sum (List Tok) (α×List Tok)→Prop
 | .inl f=>f <:+L
 | .inr q=>q.2 <:+L
theorem pW_suf {L:List Tok}:∀ (n:Nat) (ts:List Tok),ts.length≤n→ts <:+L→sufO L (pW ts)
 | _,[],_,h=>h
 | _,[c],_,h=>by
   simp only [pW]
   split
   ·exact suf_tail h
   ·exact h
 | 0,_::_::_,hn,_=>by simp at hn
 | n+1,c::q::r,hn,h=>by
   have h1:(q::r) <:+L:=suf_tail h
   have h2:r <:+L:=suf_tail h1
   have ih:=pW_suf (L:=L) n r (by simp at hn; omega) h2
   simp only [pW]
   split
   ·split
    ·cases hp:pW r with
     | inl f=>rw [hp] at ih; exact ih
     | inr x=>rw [hp] at ih; exact ih
    ·exact h1
   ·exact h
theorem lwords {R:Type} (k0:Par→Rul→Rul→List UInt8→Option R) (L:List Tok) (hL:L.length≤1000000) (x1:Rul) (x3:List UInt8):
  ∀ (n:Nat) (ts:List Tok) (m:Nat) (r:Rul),ts.length≤n→n < m→ts <:+L→r.2.2.1.length+ts.length≤2000000→
    match pW ts with
    | .inl f=>∃ r',l22_14 (S20 30000) (S46 30000) k0 m (L,(pos L ts,(false,()))) x1 r x3=k0 (L,(pos L f,(true,()))) x1 r' x3
    | .inr (ws,r2)=>l22_14 (S20 30000) (S46 30000) k0 m (L,(pos L ts,(false,()))) x1 r x3=k0 (L,(pos L r2,(false,()))) x1 (r.1,(r.2.1,(r.2.2.1++ws,r.2.2.2))) x3:=by
 intro n
 induction n with
 | zero=>
   intro ts m r hn hm hs hr
   have:ts=[]:=List.length_eq_zero_iff.1 (by omega)
   subst this
   cases m with
   | zero=>omega
   | succ m=>
     simp only [pW]
     unfold l22_14
     simp only [g22_22,g22_4,g22_16,g22_7,g22_11,g22_13,g22_14,g22_18,g22_21,g22_22b,g22,pis hs,isT,Option.bind_some,bF,List.append_nil]
 | succ n ih=>
   intro ts m r hn hm hs hr
   cases m with
   | zero=>omega
   | succ m=>
     have bad:∀ (f:List Tok) (r':Rul),f <:+L→0 < m→l22_14 (S20 30000) (S46 30000) k0 m (L,(pos L f,(true,()))) x1 r' x3=k0 (L,(pos L f,(true,()))) x1 r' x3:=by
      intro f r' hf hm
      obtain ⟨m,rfl⟩:∃ k,m=k+1:=⟨m - 1,by omega⟩
      unfold l22_14
      simp only [g22_22,g22_4,g22_16,g22_7,g22_11,g22_13,g22_14,g22_18,g22_21,g22_22b,g22,pis hf,Option.bind_some]
      cases isT f 4 [44] with
      | true=>simp only [bT,Bool.not_true,bF]
      | false=>simp only [bF]
     cases ts with
     | nil=>
       simp only [pW]
       unfold l22_14
       simp only [g22_22,g22_4,g22_16,g22_7,g22_11,g22_13,g22_14,g22_18,g22_21,g22_22b,g22,pis hs,isT,Option.bind_some,bF,List.append_nil]
     | cons c ts=>
       have hs1:ts <:+L:=suf_tail hs
       simp only [List.length_cons] at hn hr
       cases hi:isT (c::ts) 4 [44] with
       | false=>
         have hpw:pW (c::ts)=.inr ([],c::ts):=by
          cases ts with
          | nil=>simp only [pW,hi,Bool.false_eq_true,if_false]
          | cons q rr=>simp only [pW,hi,Bool.false_eq_true,if_false]
         rw [hpw]
         unfold l22_14
         simp only [g22_22,g22_4,g22_16,g22_7,g22_11,g22_13,g22_14,g22_18,g22_21,g22_22b,g22,pis hs,hi,Option.bind_some,bF,List.append_nil]
       | true=>
         unfold l22_14
         simp only [g22_22,g22_4,g22_16,g22_7,g22_11,g22_13,g22_14,g22_18,g22_21,g22_22b,g22,pis hs,hi,Option.bind_some,bT,Bool.not_false,pos_succ hs hL,pquoted]
         have hlim:∀ w:List UInt8,r.2.2.1.length+[w].length≤8796093022208:=fun w=>by simp; omega
         cases hq:isT ts 3 [] with
         | false=>
           have hpw:pW (c::ts)=.inl ts:=by
            cases ts with
            | nil=>simp only [pW,hi,if_true]
            | cons q rr=>simp only [pW,hi,hq,Bool.false_eq_true,if_false,if_true]
           rw [hpw]
           simp only [ptake_no hs1 hq,Option.bind_some,if_pos (hlim _)]
           exact ⟨_,bad ts _ hs1 (by omega)⟩
         | true=>
           obtain ⟨q,rr,rfl⟩:=isT_cons hq
           have hs2:rr <:+L:=suf_tail hs1
           simp only [List.length_cons] at hn hr
           simp only [ptake_ok hs1 hL hq,Option.bind_some,if_pos (hlim _),List.tail_cons,pW,hi,hq,if_true]
           have:=ih rr m (r.1,(r.2.1,((r.2.2.1++[(hdT (q::rr)).2.1]),r.2.2.2))) (by omega) (by omega) hs2 (by simp; omega)
           cases hp:pW rr with
           | inl f=>
             rw [hp] at this
             exact this
           | inr x=>
             obtain ⟨ws,r2⟩:=x
             rw [hp] at this
             simp only at this ⊢
             rw [this]
             have e:(hdT (q::rr)).2.1=q.2.1:=rfl
             rw [e,List.append_assoc,List.singleton_append]
def pIn (r2:List Tok):Sum (List Tok) (List (List UInt8)×List Tok):=
 if isT r2 1 [105,110]=true then (if isT r2.tail 3 []=true then (match pW r2.tail.tail with
  | .inl f=>.inl f
  | .inr (ws,r)=>.inr ((hdT r2.tail).2.1::ws,r)) else .inl r2.tail) else .inr ([],r2)
def pRule (ts:List Tok):Sum (List Tok) ((List UInt8×(Int×List (List UInt8)))×List Tok):=
 if isT ts 1 []=true then (if isT ts.tail 2 []=true then (match pIn ts.tail.tail with
  | .inl f=>.inl f
  | .inr (ws,r)=>if isT r 4 [59]=true then .inr (((hdT ts).2.1,((numR (hdT ts.tail).2.1).1,ws)),r.tail) else .inl r) else .inl ts.tail) else .inl ts
theorem pIn_suf {L ts:List Tok} (h:ts <:+L):sufO L (pIn ts):=by
 unfold pIn
 split
 ·split
  ·have:=pW_suf (L:=L) _ ts.tail.tail (Nat.le_refl _) (suf_tail (suf_tail h))
   cases hp:pW ts.tail.tail with
   | inl f=>rw [hp] at this; exact this
   | inr x=>rw [hp] at this; exact this
  ·exact suf_tail h
 ·exact h
theorem pRule_suf {L ts:List Tok} (h:ts <:+L):sufO L (pRule ts):=by
 unfold pRule
 split
 ·split
  ·have:=pIn_suf (suf_tail (suf_tail h))
   cases hp:pIn ts.tail.tail with
   | inl f=>rw [hp] at this; exact this
   | inr x=>
     rw [hp] at this
     obtain ⟨ws,r⟩:=x
     simp only
     split
     ·exact suf_tail this
     ·exact this
  ·exact suf_tail h
 ·exact h
theorem hd_mem {L ts:List Tok} (h:ts <:+L) {k:Int} {s:List UInt8} (hi:isT ts k s=true):hdT ts∈L:=by
 obtain ⟨t,r,rfl⟩:=isT_cons hi
 exact h.mem (List.mem_cons_self ..)
theorem ptl (ts:List Tok):ts.tail=ts.tail:=rfl
theorem prule {L ts:List Tok} (h:ts <:+L) (hL:L.length < 30000) (hx:∀ t∈L,t.2.1.length < 30000):
  match pRule ts with
  | .inl f=>∃ r' nm,S22 30000 (L,(pos L ts,(false,())))=some ((L,(pos L f,(true,()))),r',nm)
  | .inr ((nm,(c,ws)),r)=>S22 30000 (L,(pos L ts,(false,())))=some ((L,(pos L r,(false,()))),(0,(c,(ws,()))),nm):=by
 have hL':L.length≤1000000:=by omega
 have hnil:S45 30000 ([]:List UInt8)=some (numR []):=(vnum [] (by simp)).1
 -- what follows the cost, if something went wrong
 have bad:∀ (f:List Tok) (nm:List UInt8) (c:Int),f <:+L→∃ (q:Option (Par×Rul×List UInt8)) (r':Rul),q=some ((L,(pos L f,(true,()))),r',nm):=fun f nm c _=>⟨_,(0,(c,([],()))),rfl⟩
 unfold S22
 simp only [g22_22,g22_4,g22_16,g22_7,g22_11,g22_13,g22_14,g22_18,g22_21,g22_22b,g22]
 unfold pRule
 cases h1:isT ts 1 [] with
 | false=>
   simp only [ptake_no h h1,ptake_bad,hnil,Option.bind_some,pis h,Bool.false_eq_true,if_false]
   cases isT ts 1 [105,110] with
   | true=>exact ⟨_,_,by simp only [bT,Bool.not_true,bF]; rfl⟩
   | false=>exact ⟨_,_,by simp only [bF]; rfl⟩
 | true=>
   have g1:ts.tail <:+L:=suf_tail h
   simp only [ptake_ok h hL' h1,Option.bind_some,if_true]
   cases h2:isT ts.tail 2 [] with
   | false=>
     simp only [ptake_no g1 h2,ptake_bad,hnil,Option.bind_some,pis g1,Bool.false_eq_true,if_false]
     cases isT ts.tail 1 [105,110] with
     | true=>exact ⟨_,_,by simp only [bT,Bool.not_true,bF]; rfl⟩
     | false=>exact ⟨_,_,by simp only [bF]; rfl⟩
   | true=>
     have g2:ts.tail.tail <:+L:=suf_tail g1
     have hnm:=(vnum (hdT ts.tail).2.1 (hx _ (hd_mem g1 h2))).1
     simp only [ptake_ok g1 hL' h2,hnm,Option.bind_some,if_true,pis g2]
     have hps:=pIn_suf g2
     have fin:∀ (r:List Tok) (c:Int) (ws:List (List UInt8)) (nm:List UInt8),r <:+L→∀ k:Option (Par×Rul×List UInt8),
       k=((S19 30000 (L,(pos L r,(false,()))) 4 [59]).bind fun q=>some (q.1,((0:Int),(c,(ws,()))),nm))→
       match (if isT r 4 [59]=true then Sum.inr ((nm,(c,ws)),r.tail) else Sum.inl r:Sum (List Tok) ((List UInt8×(Int×List (List UInt8)))×List Tok)) with
       | .inl f=>∃ (r':Rul) (nm':List UInt8),k=some ((L,(pos L f,(true,()))),r',nm')
       | .inr ((nm,(c,ws)),r')=>k=some ((L,(pos L r',(false,()))),(0,(c,(ws,()))),nm):=by
      intro r c ws nm hr k hk
      subst hk
      cases h6:isT r 4 [59] with
      | true=>simp only [if_true,ptake_ok hr hL' h6,Option.bind_some]
      | false=>
        simp only [Bool.false_eq_true,if_false,ptake_no hr h6,Option.bind_some]
        exact ⟨_,_,rfl⟩
     unfold pIn at hps ⊢
     cases h3:isT ts.tail.tail 1 [105,110] with
     | false=>
       simp only [bF,Bool.false_eq_true,if_false]
       exact fin ts.tail.tail (numR (hdT ts.tail).2.1).1 [] (hdT ts).2.1 g2 _ rfl
     | true=>
       have g3:ts.tail.tail.tail <:+L:=suf_tail g2
       obtain ⟨t0,r0,e0⟩:=isT_cons h3
       have hsuc:IntKind.i64.wrap (pos L ts.tail.tail+1)=pos L ts.tail.tail.tail:=by
        rw [e0]; exact pos_succ (by rw [←e0]; exact g2) hL'
       have hlim:∀ w:List UInt8,([]:List (List UInt8)).length+[w].length≤8796093022208:=fun w=>by simp
       simp only [bT,Bool.not_false,if_true,hsuc,pquoted]
       cases h4:isT ts.tail.tail.tail 3 [] with
       | false=>
         simp only [ptake_no g3 h4,Option.bind_some,if_pos (hlim _),Bool.false_eq_true,if_false]
         have hb:∀ (r':Rul) (x1:Rul) (nm:List UInt8) (k0:Par→Rul→Rul→List UInt8→Option (Par×Rul×List UInt8)),l22_14 (S20 30000) (S46 30000) k0 30000 (L,(pos L ts.tail.tail.tail,(true,()))) x1 r' nm=k0 (L,(pos L ts.tail.tail.tail,(true,()))) x1 r' nm:=by
          intro r' x1 nm k0
          unfold l22_14
          simp only [g22_22,g22_4,g22_16,g22_7,g22_11,g22_13,g22_14,g22_18,g22_21,g22_22b,g22,pis g3,Option.bind_some]
          cases isT ts.tail.tail.tail 4 [44] with
          | true=>simp only [bT,Bool.not_true,bF]
          | false=>simp only [bF]
         refine ⟨((0:Int),((numR (hdT ts.tail).2.1).1,([]++[[]],()))),(hdT ts).2.1,Eq.trans (hb _ _ _ _) ?_⟩
         show Option.bind (S19 30000 (L,(pos L ts.tail.tail.tail,(true,()))) 4 [59]) _=_
         rw [ptake_bad]
         rfl
       | true=>
         have g4:ts.tail.tail.tail.tail <:+L:=suf_tail g3
         simp only [ptake_ok g3 hL' h4,Option.bind_some,if_pos (hlim _),if_true]
         have hlen:=suf_len g4
         have hw:=lwords (R:=Par×Rul×List UInt8) (fun x0 x1 x2 x3=>(S19 30000 x0 4 [59]).bind fun r=>some (r.1,x2,x3)) L hL' ((0:Int),((0:Int),([],()))) (hdT ts).2.1 ts.tail.tail.tail.tail.length ts.tail.tail.tail.tail 30000 ((0:Int),((numR (hdT ts.tail).2.1).1,(([]++[(hdT ts.tail.tail.tail).2.1]),()))) (Nat.le_refl _) (by omega) g4 (by simp only [List.nil_append,List.length_singleton]; omega)
         have hws:=pW_suf (L:=L) _ ts.tail.tail.tail.tail (Nat.le_refl _) g4
         cases hp:pW ts.tail.tail.tail.tail with
         | inl f=>
           rw [hp] at hw hws
           obtain ⟨r',hw⟩:=hw
           refine ⟨r',(hdT ts).2.1,?_⟩
           refine Eq.trans hw ?_
           simp only [ptake_bad,Option.bind_some]
         | inr x=>
           obtain ⟨ws,r⟩:=x
           rw [hp] at hw hws
           simp only at hw hws ⊢
           exact fin r (numR (hdT ts.tail).2.1).1 ((hdT ts.tail.tail.tail).2.1::ws) (hdT ts).2.1 hws _ hw
abbrev Qr:Type:=List UInt8×(Int×List (List UInt8))
theorem isT_nil (k:Int) (s:List UInt8):isT [] k s=false:=rfl
theorem pRule_dec {ts r:List Tok} {q:Qr} (h:pRule ts=.inr (q,r)):r.length < ts.length∧isT ts 1 []=true∧q.1=(hdT ts).2.1:=by
 unfold pRule at h
 split at h
 ·rename_i h1
  split at h
  ·rename_i h2
   have hs:=pIn_suf (L:=ts.tail.tail) (ts:=ts.tail.tail) (List.suffix_refl _)
   split at h
   ·cases h
   ·rename_i ws r0 he
    rw [he] at hs
    have hl:=suf_len hs
    simp only [List.length_tail] at hl
    obtain ⟨t,r',rfl⟩:=isT_cons h1
    split at h
    ·cases h
     exact ⟨by simp only [List.length_cons,List.length_tail] at *; omega,h1,rfl⟩
    ·cases h
  ·cases h
 ·cases h
def pRs:Nat→List Tok→Sum (List Tok) (List (Int×Qr)×List Tok)
 | 0,ts=>.inl ts
 | n+1,ts=>if isT ts 4 [125]=true then .inr ([],ts) else match pRule ts with
   | .inl f=>.inl f
   | .inr (q,r)=>match pRs n r with
     | .inl f=>.inl f
     | .inr (qs,r')=>.inr (((hdT ts).2.2.1,q)::qs,r')
theorem pRs_suf {L:List Tok}:∀ (n:Nat) (ts:List Tok),ts <:+L→(match pRs n ts with
  | .inl f=>f <:+L
  | .inr (qs,r)=>r <:+L∧isT r 4 [125]=true∧qs.length+r.length≤ts.length)
 | 0,ts,h=>h
 | n+1,ts,h=>by
   unfold pRs
   by_cases h0:isT ts 4 [125]=true
   ·rw [if_pos h0]; exact ⟨h,h0,by simp⟩
   ·rw [if_neg h0]
    have h1:=pRule_suf h
    cases hp:pRule ts with
    | inl f=>rw [hp] at h1; exact h1
    | inr x=>
      obtain ⟨q,r⟩:=x
      rw [hp] at h1
      have hd:=(pRule_dec hp).1
      have:=pRs_suf n r h1
      simp only
      cases hq:pRs n r with
      | inl f=>rw [hq] at this; exact this
      | inr y=>
        obtain ⟨qs,r'⟩:=y
        rw [hq] at this
        exact ⟨this.1,this.2.1,by have:=this.2.2; simp only [List.length_cons]; omega⟩
def kN:List (List UInt8):=[[109,117,116,101],[110,101,120,116],[98,114,101,118,105,115],[105,110,100,105,102,102,101,114,101,110,116],[108,101,110,103,116,104,101,110],[115,104,111,114,116,101,110],[115,121,110,105,122,101,115,105,115],[101,108,105,115,105,111,110],[101,99,116,104,108,105,112,115,105,115],[112,114,111,100,101,108,105,115,105,111,110],[104,105,97,116,117,115],[99,111,114,114,101,112,116,105,111,110]]
def kndL (s:List UInt8):List (List UInt8)→Int→Int
 | [],_=>0
 | n::r,k=>if n=s then k else kndL s r (k+1)
def knd (s:List UInt8):Int:=kndL s kN 1
def rules0 (qs:List (Int×Qr)):List Rul:=qs.map fun q=>(0,(q.2.2.1,(q.2.2.2,())))
def rulesK (qs:List (Int×Qr)):List Rul:=qs.map fun q=>(knd q.2.1,(q.2.2.1,(q.2.2.2,())))
def namesQ (qs:List (Int×Qr)):List (List UInt8):=qs.map fun q=>q.2.1
def linesQ (qs:List (Int×Qr)):List Int:=qs.map fun q=>q.1
def pK:List (Int×Qr)→Option Int
 | []=>none
 | q::r=>if knd q.2.1=0 then some q.1 else pK r
theorem lprs {R:Type} (k0:Lic→List Tok→Lic→List (List UInt8)→List Int→Par→Option R) (z:Lic) (nm:List UInt8) {L:List Tok} (hL:L.length < 30000) (hx:∀ t∈L,t.2.1.length < 30000):
  ∀ (n:Nat) (ts:List Tok) (m:Nat) (rs:List Rul) (ns:List (List UInt8)) (ls:List Int),ts.length≤n→n+1 < m→ts <:+L→rs.length+ts.length≤100000→ns.length+ts.length≤100000→ls.length+ts.length≤100000→
    match pRs n ts with
    | .inl f=>∃ x2 x3 x4,l6_20 (S20 30000) (S21 30000) (S22 30000) k0 m z L (nm,(rs,())) ns ls (L,(pos L ts,(false,())))=k0 z L x2 x3 x4 (L,(pos L f,(true,())))
    | .inr (qs,r)=>l6_20 (S20 30000) (S21 30000) (S22 30000) k0 m z L (nm,(rs,())) ns ls (L,(pos L ts,(false,())))=k0 z L (nm,(rs++rules0 qs,())) (ns++namesQ qs) (ls++linesQ qs) (L,(pos L r,(false,()))):=by
 have hL':L.length≤1000000:=by omega
 have bad:∀ (f:List Tok) (m:Nat) (x2:Lic) (x3:List (List UInt8)) (x4:List Int),0 < m→l6_20 (S20 30000) (S21 30000) (S22 30000) k0 m z L x2 x3 x4 (L,(pos L f,(true,())))=k0 z L x2 x3 x4 (L,(pos L f,(true,()))):=by
  intro f m x2 x3 x4 hm
  obtain ⟨m,rfl⟩:∃ k,m=k+1:=⟨m - 1,by omega⟩
  unfold l6_20
  simp only [g6_47,g6_2,g6_3,g6_46,g6_12,g6_17,g6_19,g6_20,g6_22,g6_23,g6_24,g6_26,g6_27,g6_34,g6_32,g6_36,g6_37,g6_38,g6_44,g6_42,g6_45,g6_47b,g6,Bool.not_true,bF]
 -- a rule that fails
 have fl:∀ (ts f:List Tok) (m:Nat) (rs:List Rul) (ns:List (List UInt8)) (ls:List Int),0 < m→ts <:+L→isT ts 4 [125]=false→pRule ts=.inl f→rs.length≤100000→ns.length≤100000→ls.length≤100000→
   ∃ x2 x3 x4,l6_20 (S20 30000) (S21 30000) (S22 30000) k0 (m+1) z L (nm,(rs,())) ns ls (L,(pos L ts,(false,())))=k0 z L x2 x3 x4 (L,(pos L f,(true,()))):=by
  intro ts f m rs ns ls hm hs h0 hp hr hn hl
  have hr1:=prule hs hL hx
  rw [hp] at hr1
  obtain ⟨r',nm',hr1⟩:=hr1
  have c1:∀ x:Int,ls.length+[x].length≤17592186044416:=fun x=>by simp; omega
  have c2:∀ x:Rul,rs.length+[x].length≤3518437208883:=fun x=>by simp; omega
  have c3:∀ x:List UInt8,ns.length+[x].length≤8796093022208:=fun x=>by simp; omega
  unfold l6_20
  simp only [g6_47,g6_2,g6_3,g6_46,g6_12,g6_17,g6_19,g6_20,g6_22,g6_23,g6_24,g6_26,g6_27,g6_34,g6_32,g6_36,g6_37,g6_38,g6_44,g6_42,g6_45,g6_47b,g6,Bool.not_false,bT,pis hs,h0,Option.bind_some,pline hs hL',hr1,if_pos (c1 _),if_pos (c2 _),if_pos (c3 _)]
  exact ⟨_,_,_,bad f m _ _ _ hm⟩
 intro n
 induction n with
 | zero=>
   intro ts m rs ns ls hn hm hs hr1 hr2 hr3
   have:ts=[]:=List.length_eq_zero_iff.1 (by omega)
   subst this
   obtain ⟨m,rfl⟩:∃ k,m=k+1:=⟨m - 1,by omega⟩
   simp only [pRs]
   exact fl [] [] m rs ns ls (by omega) hs rfl rfl (by omega) (by omega) (by omega)
 | succ n ih=>
   intro ts m rs ns ls hn hm hs hr1 hr2 hr3
   obtain ⟨m,rfl⟩:∃ k,m=k+1:=⟨m - 1,by omega⟩
   unfold pRs
   cases h0:isT ts 4 [125] with
   | true=>
     simp only [if_true]
     unfold l6_20
     simp only [g6_47,g6_2,g6_3,g6_46,g6_12,g6_17,g6_19,g6_20,g6_22,g6_23,g6_24,g6_26,g6_27,g6_34,g6_32,g6_36,g6_37,g6_38,g6_44,g6_42,g6_45,g6_47b,g6,Bool.not_false,bT,pis hs,h0,Option.bind_some,Bool.not_true,bF,rules0,namesQ,linesQ,List.map_nil,List.append_nil]
   | false=>
     simp only [Bool.false_eq_true,if_false]
     cases hp:pRule ts with
     | inl f=>exact fl ts f m rs ns ls (by omega) hs h0 hp (by omega) (by omega) (by omega)
     | inr x=>
       obtain ⟨⟨nm',c,ws⟩,r⟩:=x
       have hr1':=prule hs hL hx
       rw [hp] at hr1'
       have hd:=pRule_dec hp
       have hrs:r <:+L:=by have:=pRule_suf hs; rw [hp] at this; exact this
       have hln:lineT L ts=(hdT ts).2.2.1:=by
        obtain ⟨t,r',rfl⟩:=isT_cons hd.2.1; rfl
       have c1:∀ x:Int,ls.length+[x].length≤17592186044416:=fun x=>by simp; omega
       have c2:∀ x:Rul,rs.length+[x].length≤3518437208883:=fun x=>by simp; omega
       have c3:∀ x:List UInt8,ns.length+[x].length≤8796093022208:=fun x=>by simp; omega
       have hst:∀ y,y=l6_20 (S20 30000) (S21 30000) (S22 30000) k0 (m+1) z L (nm,(rs,())) ns ls (L,(pos L ts,(false,())))→
         y=l6_20 (S20 30000) (S21 30000) (S22 30000) k0 m z L (nm,(rs++[(0,(c,(ws,())))],())) (ns++[nm']) (ls++[(hdT ts).2.2.1]) (L,(pos L r,(false,()))):=by
        intro y hy
        rw [hy]
        conv=>lhs; unfold l6_20
        simp only [g6_47,g6_2,g6_3,g6_46,g6_12,g6_17,g6_19,g6_20,g6_22,g6_23,g6_24,g6_26,g6_27,g6_34,g6_32,g6_36,g6_37,g6_38,g6_44,g6_42,g6_45,g6_47b,g6,Bool.not_false,bT,pis hs,h0,Option.bind_some,pline hs hL',hr1',if_pos (c1 _),if_pos (c2 _),if_pos (c3 _),hln]
       have hi:=ih r m (rs++[(0,(c,(ws,())))]) (ns++[nm']) (ls++[(hdT ts).2.2.1]) (by omega) (by omega) hrs (by simp; omega) (by simp; omega) (by simp; omega)
       simp only
       cases hq:pRs n r with
       | inl f=>
         rw [hq] at hi
         obtain ⟨x2,x3,x4,hi⟩:=hi
         exact ⟨x2,x3,x4,(hst _ rfl).trans hi⟩
       | inr x=>
         obtain ⟨qs,r'⟩:=x
         rw [hq] at hi
         refine ((hst _ rfl).trans hi).trans ?_
         simp only [rules0,namesQ,linesQ,List.map_cons,List.append_assoc,List.singleton_append]
theorem kinds_ok:((List.range 12).all fun n=>S31 30000 ((n+1:Nat):Int)==some (kN.getD n [])&&S28 30000 ((n+1:Nat):Int)==some (kN.getD n []))=true:=by kernel_rfl
theorem vKind (n:Nat) (h:n < 12):S31 30000 ((n+1:Nat):Int)=some (kN.getD n [])∧S28 30000 ((n+1:Nat):Int)=some (kN.getD n []):=by
 have:=List.all_eq_true.1 kinds_ok n (List.mem_range.2 h)
 rw [Bool.and_eq_true,beq_iff_eq,beq_iff_eq] at this
 exact this
theorem lkind {R:Type} (k0:Int→Option R) (k1:List UInt8→Int→Option R) (s:List UInt8) (hk:∀ i,k1 s i=k0 0):
  ∀ (d n m:Nat),n+d=12→d < m→l23_10 (S31 30000) k0 k1 m s ((n+1:Nat):Int)=k0 (kndL s (kN.drop n) ((n+1:Nat):Int)):=by
 intro d
 induction d with
 | zero=>
   intro n m hn hm
   have:n=12:=by omega
   subst this
   obtain ⟨m,rfl⟩:∃ k,m=k+1:=⟨m - 1,by omega⟩
   unfold l23_10
   have d:decide (((12+1:Nat):Int)≤12)=false:=by decide
   simp only [g23_0,g23_1,g23_2,g23_4,g23_5,g23_8,g23_9,g23_10,g23_12,g23_13,g23,d,bF,hk]
   rfl
 | succ d ih=>
   intro n m hn hm
   obtain ⟨m,rfl⟩:∃ k,m=k+1:=⟨m - 1,by omega⟩
   unfold l23_10
   have dd:decide (((n+1:Nat):Int)≤12)=true:=decide_eq_true (by omega)
   have hl:n < kN.length:=by show n < 12; omega
   have w:IntKind.i64.wrap (((n+1:Nat):Int)+1)=((n+1+1:Nat):Int):=by rw [wrap_id (by omega)]; omega
   have hd:kN.drop n=kN.getD n []::kN.drop (n+1):=by
    rw [List.drop_eq_getElem_cons hl,List.getD_eq_getElem?_getD,List.getElem?_eq_getElem hl]; rfl
   simp only [g23_0,g23_1,g23_2,g23_4,g23_5,g23_8,g23_9,g23_10,g23_12,g23_13,g23,dd,bT,(vKind n (by omega)).1,Option.bind_some,w]
   rw [hd]
   simp only [kndL]
   by_cases he:kN.getD n []=s
   ·have e1:(kN.getD n []==s)=true:=by simpa using he
    rw [if_pos he,e1,bT]
   ·have e1:(kN.getD n []==s)=false:=by simpa using he
    rw [if_neg he,e1,bF,ih (n+1) m (by omega) (by omega)]
    congr 2
theorem vkind (s:List UInt8):S23 30000 s=some (knd s):=by
 have:=lkind (R:=Int) some (fun _ _=>some 0) s (fun _=>rfl) 12 0 30000 rfl (by omega)
 unfold S23
 simp only [g23_0,g23_1,g23_2,g23_4,g23_5,g23_8,g23_9,g23_10,g23_12,g23_13,g23]
 exact this
theorem lkinds {R:Type} (k0:Lic→Int→Int→Option R) (k1:Lic→Lic→List (List UInt8)→List Int→Int→Int→Option R) (z:Lic) (nm:List UInt8):
  ∀ (ys pre:List (Int×Qr)) (m:Nat),ys.length < m→(pre++ys).length≤100000→
    match pK ys with
    | some ln=>l6_38 (S23 30000) k0 k1 m z (nm,(rulesK pre++rules0 ys,())) (namesQ pre++namesQ ys) (linesQ pre++linesQ ys) ((pre++ys).length:Int) (pre.length:Int)=k0 ([],([],())) ln 9
    | none=>l6_38 (S23 30000) k0 k1 m z (nm,(rulesK pre++rules0 ys,())) (namesQ pre++namesQ ys) (linesQ pre++linesQ ys) ((pre++ys).length:Int) (pre.length:Int)=k1 z (nm,(rulesK (pre++ys),())) (namesQ (pre++ys)) (linesQ (pre++ys)) ((pre++ys).length:Int) ((pre++ys).length:Int):=by
 intro ys
 induction ys with
 | nil=>
   intro pre m hm hb
   obtain ⟨m,rfl⟩:∃ k,m=k+1:=⟨m - 1,by simp at hm; omega⟩
   simp only [pK]
   unfold l6_38
   simp only [g6_47,g6_2,g6_3,g6_46,g6_12,g6_17,g6_19,g6_20,g6_22,g6_23,g6_24,g6_26,g6_27,g6_34,g6_32,g6_36,g6_37,g6_38,g6_44,g6_42,g6_45,g6_47b,g6,lt_nil,bF,List.append_nil,rules0,namesQ,linesQ,List.map_nil]
   have:decide ((pre.length:Int) < (pre.length:Int))=false:=decide_eq_false (by omega)
   rw [this,bF]
 | cons y ys ih=>
   intro pre m hm hb
   obtain ⟨m,rfl⟩:∃ k,m=k+1:=⟨m - 1,by simp at hm; omega⟩
   have hl1:(rulesK pre).length=pre.length:=by simp [rulesK]
   have hl2:(namesQ pre).length=pre.length:=by simp [namesQ]
   have hl3:(linesQ pre).length=pre.length:=by simp [linesQ]
   have e1:rules0 (y::ys)=(0,(y.2.2.1,(y.2.2.2,())))::rules0 ys:=rfl
   have e2:namesQ (y::ys)=y.2.1::namesQ ys:=rfl
   have e3:linesQ (y::ys)=y.1::linesQ ys:=rfl
   have i1:∀ (a b:List Rul) (r:Rul),a.length=pre.length→(0≤(pre.length:Int)∧(pre.length:Int) < ((a++r::b).length:Int))=True:=by intro a b r h; rw [←h]; exact in_cons ..
   have i2:∀ (a b:List (List UInt8)) (r:List UInt8),a.length=pre.length→(0≤(pre.length:Int)∧(pre.length:Int) < ((a++r::b).length:Int))=True:=by intro a b r h; rw [←h]; exact in_cons ..
   have i3:∀ (a b:List Int) (r:Int),a.length=pre.length→(0≤(pre.length:Int)∧(pre.length:Int) < ((a++r::b).length:Int))=True:=by intro a b r h; rw [←h]; exact in_cons ..
   have t1:∀ (a b:List Rul) (r:Rul),a.length=pre.length→((pre.length:Int).toNat < (a++r::b).length)=True:=by intro a b r h; rw [←h]; exact lt_at ..
   have t2:∀ (a b:List (List UInt8)) (r:List UInt8),a.length=pre.length→((pre.length:Int).toNat < (a++r::b).length)=True:=by intro a b r h; rw [←h]; exact lt_at ..
   have t3:∀ (a b:List Int) (r:Int),a.length=pre.length→((pre.length:Int).toNat < (a++r::b).length)=True:=by intro a b r h; rw [←h]; exact lt_at ..
   have s1:∀ (a b:List Rul) (r q:Rul),a.length=pre.length→(a++r::b).set (pre.length:Int).toNat q=a++q::b:=by intro a b r q h; rw [←h]; exact set_at ..
   have g1:∀ (a b:List Rul) (r q:Rul),a.length=pre.length→(a++r::b).getD (pre.length:Int).toNat q=r:=by intro a b r q h; rw [←h]; exact at_cons ..
   have g2:∀ (a b:List (List UInt8)) (r q:List UInt8),a.length=pre.length→(a++r::b).getD (pre.length:Int).toNat q=r:=by intro a b r q h; rw [←h]; exact at_cons ..
   have g3:∀ (a b:List Int) (r q:Int),a.length=pre.length→(a++r::b).getD (pre.length:Int).toNat q=r:=by intro a b r q h; rw [←h]; exact at_cons ..
   have f1:rulesK pre++(knd y.2.1,(y.2.2.1,(y.2.2.2,())))::rules0 ys=rulesK (pre++[y])++rules0 ys:=by simp [rulesK]
   have f2:namesQ pre++y.2.1::namesQ ys=namesQ (pre++[y])++namesQ ys:=by simp [namesQ]
   have f3:linesQ pre++y.1::linesQ ys=linesQ (pre++[y])++linesQ ys:=by simp [linesQ]
   have lc:decide ((pre.length:Int) < ((pre++y::ys).length:Int))=true:=lt_cons ..
   rw [e1,e2,e3]
   have hst:∀ o,o=l6_38 (S23 30000) k0 k1 (m+1) z (nm,(rulesK pre++(0,(y.2.2.1,(y.2.2.2,())))::rules0 ys,())) (namesQ pre++y.2.1::namesQ ys) (linesQ pre++y.1::linesQ ys) ((pre++y::ys).length:Int) (pre.length:Int)→
     o=brB (knd y.2.1==0) (k0 ([],([],())) y.1 9) (l6_38 (S23 30000) k0 k1 m z (nm,(rulesK (pre++[y])++rules0 ys,())) (namesQ (pre++[y])++namesQ ys) (linesQ (pre++[y])++linesQ ys) (((pre++[y])++ys).length:Int) ((pre++[y]).length:Int)):=by
    intro o ho
    rw [ho]
    conv=>lhs; unfold l6_38
    simp only [g6_47,g6_2,g6_3,g6_46,g6_12,g6_17,g6_19,g6_20,g6_22,g6_23,g6_24,g6_26,g6_27,g6_34,g6_32,g6_36,g6_37,g6_38,g6_44,g6_42,g6_45,g6_47b,g6,lc,bT,i1 _ _ _ hl1,i2 _ _ _ hl2,i3 _ _ _ hl3,t1 _ _ _ hl1,t2 _ _ _ hl2,t3 _ _ _ hl3,s1 _ _ _ _ hl1,g1 _ _ _ _ hl1,g2 _ _ _ _ hl2,g3 _ _ _ _ hl3,if_true,vkind,Option.bind_some,wrap_snoc pre ys y (by unfold BIG; omega)]
    rw [f1,f2,f3,←app_cons pre ys y]
   have hi:=ih (pre++[y]) m (by simpa using hm) (by rw [←app_cons]; exact hb)
   simp only [pK]
   by_cases hz:knd y.2.1=0
   ·have eb:(knd y.2.1==0)=true:=by simpa using hz
    rw [if_pos hz]
    simp only
    refine (hst _ rfl).trans ?_
    rw [eb,bT]
   ·have eb:(knd y.2.1==0)=false:=by simpa using hz
    rw [if_neg hz]
    cases hp:pK ys with
    | some ln=>
      rw [hp] at hi
      refine (hst _ rfl).trans ?_
      rw [eb,bF]; exact hi
    | none=>
      rw [hp] at hi
      refine (hst _ rfl).trans ?_
      rw [eb,bF]
      refine hi.trans ?_
      rw [←app_cons]
def pAll (L:List Tok):Sum (List Tok) (List UInt8×List (Int×Qr)):=
 if isT L 1 [108,105,99,101,110,99,101]=true then (if isT L.tail 1 []=true then (if isT L.tail.tail 4 [123]=true then (match pRs L.length L.tail.tail.tail with
  | .inl f=>.inl f
  | .inr (qs,r)=>if r.tail=[] then .inr ((hdT L.tail).2.1,qs) else .inl r.tail) else .inl L.tail.tail) else .inl L.tail) else .inl L
def pEnd (x:List UInt8×List (Int×Qr)):Lic×(Int×Int):=match pK x.2 with
 | some ln=>(([],([],())),ln,9)
 | none=>if lic (x.1,(rulesK x.2,()))=0 then ((x.1,(rulesK x.2,())),0,0) else (([],([],())),0,lic (x.1,(rulesK x.2,())))
def pOut (s:List UInt8):Lic×(Int×Int):=
 if (tk s).2.2=0 then (match pAll (tk s).1 with
  | .inl f=>(([],([],())),lineT (tk s).1 f,2)
  | .inr x=>pEnd x) else (([],([],())),(tk s).2.1,(tk s).2.2)
theorem nx_bd {s:List UInt8} {k:Int} {x:List UInt8} {n:Nat} (h:nx s=.inr (k,x,n)):x.length≤n∧n≤s.length:=by
 unfold nx at h
 split at h
 ·cases h
 ·rename_i c t
  have n1:=nmL_le (c::t)
  have n2:=cnt_le dgB (c::t)
  split at h
  ·split at h
   ·cases h
   ·cases h; exact ⟨by rw [List.length_take]; omega,n1⟩
  ·split at h
   ·split at h
    ·cases h
    ·split at h
     ·cases h
     ·cases h; exact ⟨by rw [List.length_take]; omega,n2⟩
   ·split at h
    ·split at h
     ·rename_i hq
      cases h
      have:=quoT_len t hq
      simp only [List.length_cons]; omega
     ·cases h
    ·split at h
     ·cases h; simp
     ·cases h
theorem toks_bd:∀ (f:Nat) (l:Int) (s:List UInt8) (ts:List Tok),toks f l s=.inr ts→ts.length≤s.length∧∀ t∈ts,t.2.1.length≤s.length
 | f,l,[],ts,h=>by
   have:ts=[]:=by cases f<;>(simp only [toks] at h; cases h; rfl)
   subst this; simp
 | 0,l,c::s,ts,h=>by
   simp only [toks] at h; cases h; simp
 | f+1,l,c::s,ts,h=>by
   simp only [toks] at h
   have up:∀ (a:List UInt8),a.length≤s.length→ts.length≤a.length∧(∀ t∈ts,t.2.1.length≤a.length)→ts.length≤(c::s).length∧∀ t∈ts,t.2.1.length≤(c::s).length:=by
    intro a ha hh
    simp only [List.length_cons]
    exact ⟨by omega,fun t ht=>by have:=hh.2 t ht; omega⟩
   split at h
   ·exact up s (Nat.le_refl _) (toks_bd f _ s ts h)
   ·split at h
    ·exact up s (Nat.le_refl _) (toks_bd f _ s ts h)
    ·split at h
     ·exact up _ (untilNL_le s) (toks_bd f _ _ ts h)
     ·split at h
      ·cases h
      ·rename_i k x n hn
       have hp:=nx_pos hn
       have hb:=nx_bd hn
       cases hr:toks f l ((c::s).drop n) with
       | inl q=>rw [hr] at h; cases h
       | inr tt=>
         rw [hr] at h
         cases h
         have ih:=toks_bd f _ _ tt hr
         rw [List.length_drop] at ih
         simp only [List.length_cons] at ih hb ⊢
         refine ⟨by omega,?_⟩
         intro t ht
         rcases List.mem_cons.1 ht with rfl | ht
         ·simp only; omega
         ·have:=ih.2 t ht; omega
theorem tk_bd (s:List UInt8):(tk s).1.length≤s.length∧∀ t∈(tk s).1,t.2.1.length≤s.length:=by
 unfold tk
 cases h:toks s.length 1 s with
 | inl q=>simp
 | inr ts=>exact toks_bd _ _ _ _ h
theorem pos_self (L:List Tok):pos L L=0:=by unfold pos; simp
theorem fin (l:Lic) (e:Int):brB (e != 0) (some ((([],([],())):Lic),((0:Int),e))) (some (l,((0:Int),(0:Int))))=some (if e=0 then (l,(0,0)) else (([],([],())),(0,e))):=by
 by_cases h:e=0
 ·subst h; rfl
 ·have e1:(e != 0)=true:=by simpa using h
  rw [if_neg h,e1,bT]
theorem vParse (s:List UInt8) (hs:s.length+2 < 30000) (h2:s.length≤20000):S6 30000 s=some (pOut s):=by
 have hbd:=tk_bd s
 have hL2:(tk s).1.length+2 < 30000:=by omega
 have hL:(tk s).1.length < 30000:=by omega
 have hL':(tk s).1.length≤1000000:=by omega
 have hx:∀ t∈(tk s).1,t.2.1.length < 30000:=fun t ht=>by have:=hbd.2 t ht; omega
 unfold S6 pOut
 simp only [g6_47,g6_2,g6_3,g6_46,g6_12,g6_17,g6_19,g6_20,g6_22,g6_23,g6_24,g6_26,g6_27,g6_34,g6_32,g6_36,g6_37,g6_38,g6_44,g6_42,g6_45,g6_47b,g6,(vTokens s (by omega) h2).1,Option.bind_some]
 by_cases he:(tk s).2.2=0
 ·have e1:((tk s).2.2 != 0)=false:=by simpa using he
  rw [if_pos he]
  simp only [e1,bF]
  generalize (tk s).1=L at hL hL2 hL' hx
  clear hbd he e1
  have hs0:L <:+L:=List.suffix_refl L
  have hs1:L.tail <:+L:=suf_tail hs0
  have hs2:L.tail.tail <:+L:=suf_tail hs1
  have hs3:L.tail.tail.tail <:+L:=suf_tail hs2
  have p0:(L,((0:Int),(false,())))=((L,(pos L L,(false,()))):Par):=by rw [pos_self]
  rw [p0]
  -- the loop at once at its end
  have bad:∀ (k0:Lic→List Tok→Lic→List (List UInt8)→List Int→Par→Option (Lic×Int×Int)) (z:Lic) (f:List Tok) (x2:Lic) (x3:List (List UInt8)) (x4:List Int),l6_20 (S20 30000) (S21 30000) (S22 30000) k0 30000 z L x2 x3 x4 (L,(pos L f,(true,())))=k0 z L x2 x3 x4 (L,(pos L f,(true,()))):=by
   intro k0 z f x2 x3 x4
   conv=>lhs; unfold l6_20
   simp only [g6_47,g6_2,g6_3,g6_46,g6_12,g6_17,g6_19,g6_20,g6_22,g6_23,g6_24,g6_26,g6_27,g6_34,g6_32,g6_36,g6_37,g6_38,g6_44,g6_42,g6_45,g6_47b,g6,Bool.not_true,bF]
  unfold pAll
  cases h1:isT L 1 [108,105,99,101,110,99,101] with
  | false=>
    simp only [ptake_no hs0 h1,ptake_bad,Option.bind_some,bad,bT,pline hs0 hL',Bool.false_eq_true,if_false]
    simp only [g6_47,g6_2,g6_3,g6_46,g6_12,g6_17,g6_19,g6_20,g6_22,g6_23,g6_24,g6_26,g6_27,g6_34,g6_32,g6_36,g6_37,g6_38,g6_44,g6_42,g6_45,g6_47b,g6,ptake_bad,Option.bind_some,bT,pline hs0 hL']
  | true=>
    simp only [ptake_ok hs0 hL' h1,Option.bind_some,if_true]
    cases h2:isT L.tail 1 [] with
    | false=>
      simp only [ptake_no hs1 h2,ptake_bad,Option.bind_some,bad,bT,pline hs1 hL',Bool.false_eq_true,if_false]
      simp only [g6_47,g6_2,g6_3,g6_46,g6_12,g6_17,g6_19,g6_20,g6_22,g6_23,g6_24,g6_26,g6_27,g6_34,g6_32,g6_36,g6_37,g6_38,g6_44,g6_42,g6_45,g6_47b,g6,ptake_bad,Option.bind_some,bT,pline hs1 hL']
    | true=>
      simp only [ptake_ok hs1 hL' h2,Option.bind_some,if_true]
      cases h3:isT L.tail.tail 4 [123] with
      | false=>
        simp only [ptake_no hs2 h3,ptake_bad,Option.bind_some,bad,bT,pline hs2 hL',Bool.false_eq_true,if_false]
        simp only [g6_47,g6_2,g6_3,g6_46,g6_12,g6_17,g6_19,g6_20,g6_22,g6_23,g6_24,g6_26,g6_27,g6_34,g6_32,g6_36,g6_37,g6_38,g6_44,g6_42,g6_45,g6_47b,g6,ptake_bad,Option.bind_some,bT,pline hs2 hL']
      | true=>
        simp only [ptake_ok hs2 hL' h3,Option.bind_some,if_true]
        have hlen:=suf_len hs3
        have hp:=fun (k0:Lic→List Tok→Lic→List (List UInt8)→List Int→Par→Option (Lic×Int×Int)) (z:Lic) (nm:List UInt8)=>lprs k0 z nm hL hx L.length L.tail.tail.tail 30000 [] [] [] (suf_len hs3) (by omega) hs3 (by simp only [List.length_nil]; omega) (by simp only [List.length_nil]; omega) (by simp only [List.length_nil]; omega)
        have hsf:=pRs_suf L.length L.tail.tail.tail hs3
        cases hq:pRs L.length L.tail.tail.tail with
        | inl f=>
          rw [hq] at hsf
          simp only [hq] at hp
          have hf:∀ (k0:Lic→List Tok→Lic→List (List UInt8)→List Int→Par→Option (Lic×Int×Int)) (z:Lic) (nm:List UInt8) (o:Option (Lic×Int×Int)),(∀ x2 x3 x4,k0 z L x2 x3 x4 (L,(pos L f,(true,())))=o)→l6_20 (S20 30000) (S21 30000) (S22 30000) k0 30000 z L (nm,([],())) [] [] (L,(pos L L.tail.tail.tail,(false,())))=o:=by
           intro k0 z nm o ho
           obtain ⟨x2,x3,x4,h⟩:=hp k0 z nm
           rw [h,ho]
          refine hf _ _ _ _ ?_
          intro x2 x3 x4
          simp only [g6_47,g6_2,g6_3,g6_46,g6_12,g6_17,g6_19,g6_20,g6_22,g6_23,g6_24,g6_26,g6_27,g6_34,g6_32,g6_36,g6_37,g6_38,g6_44,g6_42,g6_45,g6_47b,g6,ptake_bad,Option.bind_some,bT,pline hsf hL']
        | inr x=>
          obtain ⟨qs,r⟩:=x
          rw [hq] at hsf
          simp only [hq] at hp
          obtain ⟨hr,hi,hql⟩:=hsf
          have hrt:r.tail <:+L:=suf_tail hr
          refine (hp _ _ _).trans ?_
          simp only [g6_47,g6_2,g6_3,g6_46,g6_12,g6_17,g6_19,g6_20,g6_22,g6_23,g6_24,g6_26,g6_27,g6_34,g6_32,g6_36,g6_37,g6_38,g6_44,g6_42,g6_45,g6_47b,g6,ptake_ok hr hL' hi,Option.bind_some,bF,pos_lt hrt,List.nil_append]
          have pl:=pline hrt hL' false
          cases hr0:r.tail with
          | cons t rr=>
            rw [hr0] at pl
            simp only [List.isEmpty_cons,Bool.not_false,bT,if_false,reduceCtorEq,pl,Option.bind_some]
          | nil=>
            simp only [List.isEmpty_nil,Bool.not_true,bF,if_true,pEnd]
            have hqn:(namesQ qs).length=qs.length:=by simp [namesQ]
            have hk:=fun (k0:Lic→Int→Int→Option (Lic×Int×Int)) (k1:Lic→Lic→List (List UInt8)→List Int→Int→Int→Option (Lic×Int×Int)) (z:Lic) (nm:List UInt8)=>lkinds k0 k1 z nm qs [] 30000 (by omega) (by simp only [List.nil_append]; omega)
            simp only [List.nil_append,rulesK,namesQ,linesQ,List.map_nil,List.length_nil,Int.natCast_zero] at hk hqn ⊢
            rw [hqn]
            cases hz:pK qs with
            | some ln=>
              simp only [hz] at hk
              exact hk _ _ _ _
            | none=>
              simp only [hz] at hk
              refine (hk _ _ _ _).trans ?_
              simp only [v13,Option.bind_some]
              exact fin _ _
 ·have e1:((tk s).2.2 != 0)=true:=by simpa using he
  rw [if_neg he]
  simp only [e1,bT]
theorem ris {L ts:List Tok} (h:ts <:+L) (k:Int) (s:List UInt8):S25 30000 L (pos L ts) k s=some (isT ts k s):=by
 unfold S25
 simp only [g25_2,g25_2b,g25,pos_lt h]
 cases ts with
 | nil=>rfl
 | cons t r=>
   simp only [List.isEmpty_cons,Bool.not_false,bT,pos_in h,if_true,at_pos h,isT]
   cases (t.1==k) with
   | false=>simp only [bF,Bool.false_and]
   | true=>
     simp only [bT,Bool.true_and]
     cases (s==([]:List UInt8)) with
     | true=>simp only [bT,Bool.true_or]
     | false=>simp only [bF,Bool.false_or]
theorem rfails {L ts:List Tok} (h:ts <:+L) (hL:L.length≤1000000):S26 30000 L (pos L ts)=some (([],([],())),lineT L ts,2):=by
 unfold S26
 simp only [g26_0,g26_1,g26_2,g26_4,g26_5,g26_7,g26_8,g26,pos_lt h]
 cases ts with
 | cons t r=>simp only [List.isEmpty_cons,Bool.not_false,bT,pos_in h,if_true,at_pos h,lineT]
 | nil=>
   simp only [List.isEmpty_nil,Bool.not_true,bF,lineT]
   by_cases hn:L=[]
   ·subst hn; rfl
   ·have hp:=List.length_pos_iff.2 hn
    obtain ⟨t,h1,h2⟩:=last_get L hn ((0:Int),([],((0:Int),())))
    have d:decide ((L.length:Int) > 0)=true:=decide_eq_true (by omega)
    have w:IntKind.i64.wrap ((L.length:Int) - 1)=((L.length - 1:Nat):Int):=by rw [wrap_id (by omega)]; omega
    have hb:0≤((L.length - 1:Nat):Int)∧((L.length - 1:Nat):Int) < (L.length:Int):=by omega
    simp only [d,bT,w,if_pos hb,Int.toNat_natCast,h2,h1]
theorem pos_succ2 {L r:List Tok} {c t:Tok} (h:(c::t::r) <:+L) (hL:L.length≤1000000):IntKind.i64.wrap (pos L (c::t::r)+2)=pos L r:=by
 have:=suf_len h
 unfold pos
 simp only [List.length_cons] at *
 rw [wrap_id (by omega)]; omega
def pI (ts:List Tok):Sum (List Tok) (List (List UInt8)×List Tok):=if isT ts 3 []=true then (match pW ts.tail with
    | .inl f=>.inl f
    | .inr (ws,r)=>.inr ((hdT ts).2.1::ws,r)) else .inl ts
theorem pW_pI {c:Tok} {ts:List Tok} (h:isT (c::ts) 4 [44]=true):pW (c::ts)=pI ts:=by
 cases ts with
 | nil=>simp only [pW,h,if_true,pI,isT_nil,Bool.false_eq_true,if_false]
 | cons q r=>simp only [pW,h,if_true,pI]; rfl
theorem pW_no {ts:List Tok} (h:isT ts 4 [44]=false):pW ts=.inr ([],ts):=by
 match ts,h with
 | [],_=>rfl
 | [c],h=>simp only [pW,h,Bool.false_eq_true,if_false]
 | c::q::r,h=>simp only [pW,h,Bool.false_eq_true,if_false]
theorem lparsed {R:Type} (k0:Rul→Int→Bool→Option R) (k1:List Tok→Int→Rul→Rul→Option R) {L:List Tok} (hL:L.length≤1000000) (z:Rul):
  ∀ (n:Nat) (ts:List Tok) (c:Tok) (m:Nat) (r:Rul),ts.length≤n→n < m→(c::ts) <:+L→r.2.2.1.length+ts.length≤2000000→
    match pI ts with
    | .inl f=>∃ r',l27_20 (S25 30000) k0 k1 m L (pos L (c::ts)) z r=k0 r' (pos L f) false
    | .inr (ws,r2)=>l27_20 (S25 30000) k0 k1 m L (pos L (c::ts)) z r=k1 L (pos L r2) z (r.1,(r.2.1,(r.2.2.1++ws,r.2.2.2))):=by
 intro n
 induction n with
 | zero=>
   intro ts c m r hn hm hs hr
   have:ts=[]:=List.length_eq_zero_iff.1 (by omega)
   subst this
   obtain ⟨m,rfl⟩:∃ k,m=k+1:=⟨m - 1,by omega⟩
   have hs1:([]:List Tok) <:+L:=suf_tail hs
   simp only [pI,isT_nil,Bool.false_eq_true,if_false]
   unfold l27_20
   simp only [g27_29,g27_2,g27_3,g27_5,g27_6,g27_28,g27_10,g27_11,g27_12,g27_18,g27_19,g27_20,g27_23,g27_24,g27_25,g27_27,g27_29b,g27,pos_succ hs hL,ris hs1,isT_nil,Option.bind_some,Bool.not_false,bT]
   exact ⟨_,rfl⟩
 | succ n ih=>
   intro ts c m r hn hm hs hr
   obtain ⟨m,rfl⟩:∃ k,m=k+1:=⟨m - 1,by omega⟩
   have hs1:ts <:+L:=suf_tail hs
   cases hq:isT ts 3 [] with
   | false=>
     simp only [pI,hq,Bool.false_eq_true,if_false]
     unfold l27_20
     simp only [g27_29,g27_2,g27_3,g27_5,g27_6,g27_28,g27_10,g27_11,g27_12,g27_18,g27_19,g27_20,g27_23,g27_24,g27_25,g27_27,g27_29b,g27,pos_succ hs hL,ris hs1,hq,Option.bind_some,Bool.not_false,bT]
     exact ⟨_,rfl⟩
   | true=>
     obtain ⟨q,rr,rfl⟩:=isT_cons hq
     have hs2:rr <:+L:=suf_tail hs1
     simp only [List.length_cons] at hn hr
     have hlim:∀ w:List UInt8,r.2.2.1.length+[w].length≤8796093022208:=fun w=>by simp; omega
     have hst:∀ o,o=l27_20 (S25 30000) k0 k1 (m+1) L (pos L (c::q::rr)) z r→
       o=brB (!isT rr 4 [44]) (k1 L (pos L rr) z (r.1,(r.2.1,(r.2.2.1++[q.2.1],r.2.2.2)))) (l27_20 (S25 30000) k0 k1 m L (pos L rr) z (r.1,(r.2.1,(r.2.2.1++[q.2.1],r.2.2.2)))):=by
      intro o ho
      rw [ho]
      conv=>lhs; unfold l27_20
      simp only [g27_29,g27_2,g27_3,g27_5,g27_6,g27_28,g27_10,g27_11,g27_12,g27_18,g27_19,g27_20,g27_23,g27_24,g27_25,g27_27,g27_29b,g27,pos_succ hs hL,pos_succ2 hs hL,ris hs1,ris hs2,hq,Option.bind_some,Bool.not_true,bF,pos_in hs1,at_pos hs1,if_true,if_pos (hlim _)]
     simp only [pI,hq,if_true,List.tail_cons]
     cases hc:isT rr 4 [44] with
     | false=>
       rw [pW_no hc]
       simp only
       refine (hst _ rfl).trans ?_
       rw [hc,Bool.not_false,bT]
       rfl
     | true=>
       obtain ⟨c2,ts2,rfl⟩:=isT_cons hc
       rw [pW_pI hc]
       have hi:=ih ts2 c2 m (r.1,(r.2.1,(r.2.2.1++[q.2.1],r.2.2.2))) (by simp only [List.length_cons] at hn; omega) (by omega) hs2 (by simp only [List.length_cons,List.length_append,List.length_nil] at hr ⊢; omega)
       cases hp:pI ts2 with
       | inl f=>
         rw [hp] at hi
         obtain ⟨r',hi⟩:=hi
         refine ⟨r',(hst _ rfl).trans ?_⟩
         rw [hc,Bool.not_true,bF]; exact hi
       | inr x=>
         obtain ⟨ws,r2⟩:=x
         rw [hp] at hi
         refine (hst _ rfl).trans ?_
         rw [hc,Bool.not_true,bF]
         refine hi.trans ?_
         simp only [List.append_assoc,List.singleton_append]
         rfl
theorem tsT {L ts:List Tok} {k:Int} {s:List UInt8} (hi:isT ts k s=true) (h:ts <:+L) (hL:L.length≤1000000):
  IntKind.i64.wrap (pos L ts+1)=pos L ts.tail∧(0≤pos L ts∧pos L ts < (L.length:Int))∧∀ d,L.getD (Int.toNat (pos L ts)) d=hdT ts:=by
 obtain ⟨t,r,rfl⟩:=isT_cons hi
 exact ⟨pos_succ h hL,of_eq_true (pos_in h),fun d=>at_pos h d⟩
theorem tsT2 {L ts:List Tok} {k k2:Int} {s s2:List UInt8} (hi:isT ts k s=true) (hi2:isT ts.tail k2 s2=true) (h:ts <:+L) (hL:L.length≤1000000):IntKind.i64.wrap (pos L ts+2)=pos L ts.tail.tail:=by
 obtain ⟨t,r,rfl⟩:=isT_cons hi
 obtain ⟨t2,r2,e⟩:=isT_cons hi2
 simp only [List.tail_cons] at e ⊢
 subst e
 exact pos_succ2 h hL
theorem pIn_eq (r2:List Tok):pIn r2=if isT r2 1 [105,110]=true then pI r2.tail else .inr ([],r2):=rfl
theorem pI_suf {L ts:List Tok} (h:ts <:+L):sufO L (pI ts):=by
 unfold pI
 split
 ·have:=pW_suf (L:=L) _ ts.tail (Nat.le_refl _) (suf_tail h)
  cases hp:pW ts.tail with
  | inl f=>rw [hp] at this; exact this
  | inr x=>rw [hp] at this; exact this
 ·exact h
theorem rparsed {L ts:List Tok} (h:ts <:+L) (hL:L.length < 30000) (hx:∀ t∈L,t.2.1.length < 30000):
  match pRule ts with
  | .inl f=>∃ r',S27 30000 L (pos L ts)=some (r',pos L f,false)
  | .inr ((nm,(c,ws)),r)=>S27 30000 L (pos L ts)=some ((0,(c,(ws,()))),pos L r,true):=by
 have hL':L.length≤1000000:=by omega
 unfold S27
 simp only [g27_29,g27_2,g27_3,g27_5,g27_6,g27_28,g27_10,g27_11,g27_12,g27_18,g27_19,g27_20,g27_23,g27_24,g27_25,g27_27,g27_29b,g27,ris h,Option.bind_some]
 unfold pRule
 rw [pIn_eq]
 cases h1:isT ts 1 [] with
 | false=>
   simp only [Bool.not_false,bT,Bool.false_eq_true,if_false]
   exact ⟨_,rfl⟩
 | true=>
   have g1:ts.tail <:+L:=suf_tail h
   have w1:=(tsT h1 h hL').1
   simp only [Bool.not_true,bF,if_true,w1,ris g1,Option.bind_some]
   cases h2:isT ts.tail 2 [] with
   | false=>
     simp only [Bool.not_false,bT,Bool.false_eq_true,if_false]
     exact ⟨_,rfl⟩
   | true=>
     have g2:ts.tail.tail <:+L:=suf_tail g1
     have hnm:=(vnum (hdT ts.tail).2.1 (hx _ (hd_mem g1 h2))).2
     obtain ⟨_,i1,a1⟩:=tsT h2 g1 hL'
     have w2:=tsT2 h1 h2 h hL'
     simp only [Bool.not_true,bF,if_true,if_pos i1,a1,hnm,Option.bind_some,w2,ris g2]
     have fin:∀ (r:List Tok) (c:Int) (ws:List (List UInt8)) (nm:List UInt8),r <:+L→∀ k:Option (Rul×Int×Bool),
       k=(brB (!isT r 4 [59]) (some (((0:Int),(c,(ws,()))),pos L r,false)) (some (((0:Int),(c,(ws,()))),IntKind.i64.wrap (pos L r+1),true)))→
       match (if isT r 4 [59]=true then Sum.inr ((nm,(c,ws)),r.tail) else Sum.inl r:Sum (List Tok) ((List UInt8×(Int×List (List UInt8)))×List Tok)) with
       | .inl f=>∃ r':Rul,k=some (r',pos L f,false)
       | .inr ((nm,(c,ws)),r')=>k=some ((0,(c,(ws,()))),pos L r',true):=by
      intro r c ws nm hr k hk
      subst hk
      cases h6:isT r 4 [59] with
      | true=>
        simp only [if_true,Bool.not_true,bF,(tsT h6 hr hL').1]
      | false=>
        simp only [Bool.false_eq_true,if_false,Bool.not_false,bT]
        exact ⟨_,rfl⟩
     cases h3:isT ts.tail.tail 1 [105,110] with
     | false=>
       simp only [bF,Bool.false_eq_true,if_false]
       exact fin ts.tail.tail (numR (hdT ts.tail).2.1).1 [] (hdT ts).2.1 g2 _ rfl
     | true=>
       have g3:ts.tail.tail.tail <:+L:=suf_tail g2
       simp only [bT,if_true]
       have hlen:=suf_len g3
       obtain ⟨t2,ts3,e3⟩:=isT_cons h3
       have et:ts.tail.tail.tail=ts3:=by rw [e3]; rfl
       have hw:=fun (k0:Rul→Int→Bool→Option (Rul×Int×Bool)) (k1:List Tok→Int→Rul→Rul→Option (Rul×Int×Bool)) (z r:Rul) (hr:r.2.2.1=[])=>lparsed k0 k1 hL' z ts3.length ts3 t2 30000 r (Nat.le_refl _) (by rw [←et]; omega) (by rw [←e3]; exact g2) (by rw [hr,←et]; simp only [List.length_nil]; omega)
       simp only [←e3] at hw
       simp only [←et] at hw
       have hsuf:=pI_suf g3
       cases hp:pI ts.tail.tail.tail with
       | inl f=>
         simp only [hp] at hw
         refine hw _ _ _ _ ?_
         rfl
       | inr x=>
         obtain ⟨ws,r⟩:=x
         simp only [hp] at hw
         rw [hp] at hsuf
         refine fin r (numR (hdT ts.tail).2.1).1 ws (hdT ts).2.1 hsuf _ ?_
         refine Eq.trans (hw _ _ _ _ ?_) ?_
         ·rfl
         simp only [g27_29,g27_2,g27_3,g27_5,g27_6,g27_28,g27_10,g27_11,g27_12,g27_18,g27_19,g27_20,g27_23,g27_24,g27_25,g27_27,g27_29b,g27,ris hsuf,Option.bind_some,List.nil_append]
def posQ (L:List Tok) (p:Int) (q:Int×Qr):Prop:=(0≤p∧p < (L.length:Int))∧(L.getD p.toNat ((0:Int),([],((0:Int),())))).2.1=q.2.1∧(L.getD p.toNat ((0:Int),([],((0:Int),())))).2.2.1=q.1
def posR (L:List Tok):List Int→List (Int×Qr)→Prop
 | [],[]=>True
 | p::ps,q::qs=>posQ L p q∧posR L ps qs
 | _,_=>False
theorem posR_len {L:List Tok}:∀ {ps:List Int} {qs:List (Int×Qr)},posR L ps qs→ps.length=qs.length
 | [],[],_=>rfl
 | _::ps,_::qs,h=>by simp only [List.length_cons]; rw [posR_len h.2]
 | [],_::_,h | _::_,[],h=>h.elim
theorem rlprs {R:Type} (k0:Lic→Int→Int→Option R) (k1:Lic→List Tok→Lic→List Int→Int→Option R) (z:Lic) (nm:List UInt8) {L:List Tok} (hL:L.length < 30000) (hx:∀ t∈L,t.2.1.length < 30000):
  ∀ (n:Nat) (ts:List Tok) (m:Nat) (rs:List Rul) (ns:List Int),ts.length≤n→n+1 < m→ts <:+L→rs.length+ts.length≤100000→ns.length+ts.length≤100000→
    match pRs n ts with
    | .inl f=>l7_29 (S25 30000) (S26 30000) (S27 30000) k0 k1 m z L (nm,(rs,())) ns (pos L ts)=k0 ([],([],())) (lineT L f) 2
    | .inr (qs,r)=>∃ ps,posR L ps qs∧l7_29 (S25 30000) (S26 30000) (S27 30000) k0 k1 m z L (nm,(rs,())) ns (pos L ts)=k1 z L (nm,(rs++rules0 qs,())) (ns++ps) (pos L r):=by
 have hL':L.length≤1000000:=by omega
 have fl:∀ (ts f:List Tok) (m:Nat) (rs:List Rul) (ns:List Int),ts <:+L→isT ts 4 [125]=false→pRule ts=.inl f→
   l7_29 (S25 30000) (S26 30000) (S27 30000) k0 k1 (m+1) z L (nm,(rs,())) ns (pos L ts)=k0 ([],([],())) (lineT L f) 2:=by
  intro ts f m rs ns hs h0 hp
  have hr1:=rparsed hs hL hx
  have hf:=pRule_suf hs
  rw [hp] at hr1 hf
  obtain ⟨r',hr1⟩:=hr1
  unfold l7_29
  simp only [g7_63,g7_2,g7_3,g7_5,g7_6,g7_8,g7_9,g7_11,g7_12,g7_62,g7_17,g7_19,g7_20,g7_21,g7_26,g7_28,g7_29,g7_31,g7_32,g7_34,g7_35,g7_37,g7_38,g7_40,g7_41,g7_43,g7_44,g7_45,g7_46,g7_48,g7_49,g7_52,g7_53,g7_54,g7_60,g7_58,g7_61,g7_63b,g7,ris hs,h0,Bool.not_false,bT,Option.bind_some,hr1,rfails hf hL']
 intro n
 induction n with
 | zero=>
   intro ts m rs ns hn hm hs hr1 hr2
   have:ts=[]:=List.length_eq_zero_iff.1 (by omega)
   subst this
   obtain ⟨m,rfl⟩:∃ k,m=k+1:=⟨m - 1,by omega⟩
   simp only [pRs]
   exact fl [] [] m rs ns hs rfl rfl
 | succ n ih=>
   intro ts m rs ns hn hm hs hr1 hr2
   obtain ⟨m,rfl⟩:∃ k,m=k+1:=⟨m - 1,by omega⟩
   unfold pRs
   cases h0:isT ts 4 [125] with
   | true=>
     simp only [if_true]
     refine ⟨[],trivial,?_⟩
     unfold l7_29
     simp only [g7_63,g7_2,g7_3,g7_5,g7_6,g7_8,g7_9,g7_11,g7_12,g7_62,g7_17,g7_19,g7_20,g7_21,g7_26,g7_28,g7_29,g7_31,g7_32,g7_34,g7_35,g7_37,g7_38,g7_40,g7_41,g7_43,g7_44,g7_45,g7_46,g7_48,g7_49,g7_52,g7_53,g7_54,g7_60,g7_58,g7_61,g7_63b,g7,ris hs,h0,Bool.not_true,bF,Option.bind_some,rules0,List.map_nil,List.append_nil]
   | false=>
     simp only [Bool.false_eq_true,if_false]
     cases hp:pRule ts with
     | inl f=>exact fl ts f m rs ns hs h0 hp
     | inr x=>
       obtain ⟨⟨nm',c,ws⟩,r⟩:=x
       have hr1':=rparsed hs hL hx
       rw [hp] at hr1'
       have hd:=pRule_dec hp
       have hrs:r <:+L:=by have:=pRule_suf hs; rw [hp] at this; exact this
       have c1:∀ x:Int,ns.length+[x].length≤17592186044416:=fun x=>by simp; omega
       have c2:∀ x:Rul,rs.length+[x].length≤3518437208883:=fun x=>by simp; omega
       have hst:∀ y,y=l7_29 (S25 30000) (S26 30000) (S27 30000) k0 k1 (m+1) z L (nm,(rs,())) ns (pos L ts)→
         y=l7_29 (S25 30000) (S26 30000) (S27 30000) k0 k1 m z L (nm,(rs++[(0,(c,(ws,())))],())) (ns++[pos L ts]) (pos L r):=by
        intro y hy
        rw [hy]
        conv=>lhs; unfold l7_29
        simp only [g7_63,g7_2,g7_3,g7_5,g7_6,g7_8,g7_9,g7_11,g7_12,g7_62,g7_17,g7_19,g7_20,g7_21,g7_26,g7_28,g7_29,g7_31,g7_32,g7_34,g7_35,g7_37,g7_38,g7_40,g7_41,g7_43,g7_44,g7_45,g7_46,g7_48,g7_49,g7_52,g7_53,g7_54,g7_60,g7_58,g7_61,g7_63b,g7,ris hs,h0,Bool.not_false,Bool.not_true,bT,bF,Option.bind_some,hr1',if_pos (c1 _),if_pos (c2 _)]
       have hi:=ih r m (rs++[(0,(c,(ws,())))]) (ns++[pos L ts]) (by omega) (by omega) hrs (by simp; omega) (by simp; omega)
       simp only
       cases hq:pRs n r with
       | inl f=>
         rw [hq] at hi
         exact (hst _ rfl).trans hi
       | inr x=>
         obtain ⟨qs,r'⟩:=x
         rw [hq] at hi
         obtain ⟨ps,hps,hi⟩:=hi
         obtain ⟨_,i1,a1⟩:=tsT hd.2.1 hs hL'
         refine ⟨pos L ts::ps,⟨⟨i1,?_,?_⟩,hps⟩,((hst _ rfl).trans hi).trans ?_⟩
         ·rw [a1]; exact hd.2.2.symm
         ·rw [a1]
         ·simp only [rules0,List.map_cons,List.append_assoc,List.singleton_append]
def kF (s:List UInt8):List (List UInt8)→Int→Int→Int
 | [],_,c=>c
 | n::r,k,c=>kF s r (k+1) (if n=s then k else c)
theorem kF_no (s:List UInt8):∀ (l:List (List UInt8)) (k c:Int),s∉l→kF s l k c=c
 | [],_,_,_=>rfl
 | n::r,k,c,h=>by
   simp only [List.mem_cons,not_or] at h
   simp only [kF]
   rw [if_neg (fun e=>h.1 e.symm),kF_no s r _ _ h.2]
theorem kF_knd (s:List UInt8):∀ (l:List (List UInt8)) (k c:Int),l.Nodup→kF s l k c=if s∈l then kndL s l k else c
 | [],_,_,_=>rfl
 | n::r,k,c,h=>by
   rw [List.nodup_cons] at h
   simp only [kF,kndL]
   by_cases hn:n=s
   ·subst hn
    rw [if_pos rfl,if_pos rfl,if_pos (List.mem_cons_self ..),kF_no n r _ _ h.1]
   ·rw [if_neg hn,if_neg hn,kF_knd s r _ _ h.2]
    have:(s∈n::r)↔s∈r:=by
     rw [List.mem_cons]
     exact ⟨fun h=>h.resolve_left fun e=>hn e.symm,Or.inr⟩
    by_cases hm:s∈r
    ·rw [if_pos hm,if_pos (this.2 hm)]
    ·rw [if_neg hm,if_neg (fun e=>hm (this.1 e))]
theorem kndL_no (s:List UInt8):∀ (l:List (List UInt8)) (k:Int),s∉l→kndL s l k=0
 | [],_,_=>rfl
 | n::r,k,h=>by
   simp only [List.mem_cons,not_or] at h
   simp only [kndL]
   rw [if_neg (fun e=>h.1 e.symm),kndL_no s r _ h.2]
theorem kF_eq (s:List UInt8):kF s kN 1 0=knd s:=by
 rw [kF_knd s kN 1 0 (by decide)]
 unfold knd
 by_cases hm:s∈kN
 ·rw [if_pos hm]
 ·rw [if_neg hm,kndL_no s kN 1 hm]
theorem rkinds {R:Type} (k0:Lic→List Tok→Lic→List Int→Int→Int→Option R) (z:Lic) (L:List Tok) (nm:List UInt8) (pr ys:List Rul) (np nps:List Int) (p:Int) (q:Int×Qr) (c:Int) (w:List (List UInt8)×Unit) (hp:posQ L p q) (hl:np.length=pr.length):
  ∀ (d n m:Nat) (k:Int),n+d=12→d < m→
    l7_46 (S28 30000) k0 m z L (nm,(pr++(k,(c,w))::ys,())) (np++p::nps) (pr.length:Int) ((n+1:Nat):Int)=k0 z L (nm,(pr++(kF q.2.1 (kN.drop n) ((n+1:Nat):Int) k,(c,w))::ys,())) (np++p::nps) (pr.length:Int) 13:=by
 have e1:(0≤(pr.length:Int)∧(pr.length:Int) < ((np++p::nps).length:Int))=True:=by rw [←hl]; exact in_cons ..
 have e2:((pr.length:Int).toNat < (np++p::nps).length)=True:=by rw [←hl]; exact lt_at ..
 have e3:∀ d,(np++p::nps).getD (pr.length:Int).toNat d=p:=fun d=>by rw [←hl]; exact at_cons ..
 intro d
 induction d with
 | zero=>
   intro n m k hn hm
   have:n=12:=by omega
   subst this
   obtain ⟨m,rfl⟩:∃ k,m=k+1:=⟨m - 1,by omega⟩
   unfold l7_46
   have d:decide (((12+1:Nat):Int)≤12)=false:=by decide
   simp only [g7_63,g7_2,g7_3,g7_5,g7_6,g7_8,g7_9,g7_11,g7_12,g7_62,g7_17,g7_19,g7_20,g7_21,g7_26,g7_28,g7_29,g7_31,g7_32,g7_34,g7_35,g7_37,g7_38,g7_40,g7_41,g7_43,g7_44,g7_45,g7_46,g7_48,g7_49,g7_52,g7_53,g7_54,g7_60,g7_58,g7_61,g7_63b,g7,d,bF]
   rfl
 | succ d ih=>
   intro n m k hn hm
   obtain ⟨m,rfl⟩:∃ k,m=k+1:=⟨m - 1,by omega⟩
   have dd:decide (((n+1:Nat):Int)≤12)=true:=decide_eq_true (by omega)
   have hl2:n < kN.length:=by show n < 12; omega
   have wr:IntKind.i64.wrap (((n+1:Nat):Int)+1)=((n+1+1:Nat):Int):=by rw [wrap_id (by omega)]; omega
   have hd:kN.drop n=kN.getD n []::kN.drop (n+1):=by
    rw [List.drop_eq_getElem_cons hl2,List.getD_eq_getElem?_getD,List.getElem?_eq_getElem hl2]; rfl
   rw [hd]
   simp only [kF]
   conv=>lhs; unfold l7_46
   simp only [g7_63,g7_2,g7_3,g7_5,g7_6,g7_8,g7_9,g7_11,g7_12,g7_62,g7_17,g7_19,g7_20,g7_21,g7_26,g7_28,g7_29,g7_31,g7_32,g7_34,g7_35,g7_37,g7_38,g7_40,g7_41,g7_43,g7_44,g7_45,g7_46,g7_48,g7_49,g7_52,g7_53,g7_54,g7_60,g7_58,g7_61,g7_63b,g7,dd,bT,(vKind n (by omega)).2,Option.bind_some,e1,e2,e3,if_true,if_pos hp.1,hp.2.1,wr,in_cons,lt_at,at_cons,set_at]
   by_cases he:kN.getD n []=q.2.1
   ·have eb:(kN.getD n []==q.2.1)=true:=by simpa using he
    rw [if_pos he,eb,bT]
    exact ih (n+1) m ((n+1:Nat):Int) (by omega) (by omega)
   ·have eb:(kN.getD n []==q.2.1)=false:=by simpa using he
    rw [if_neg he,eb,bF]
    exact ih (n+1) m k (by omega) (by omega)
theorem rkk {R:Type} (k0:Lic→Int→Int→Option R) (k1:Lic→List Tok→Lic→List Int→Int→Option R) (z:Lic) (L:List Tok) (nm:List UInt8):
  ∀ (ys pre:List (Int×Qr)) (pp py:List Int) (m:Nat),ys.length < m→(pre++ys).length≤100000→pp.length=pre.length→posR L py ys→
    match pK ys with
    | some ln=>l7_54 30000 (S28 30000) k0 k1 m z L (nm,(rulesK pre++rules0 ys,())) (pp++py) (pre.length:Int)=k0 ([],([],())) ln 9
    | none=>l7_54 30000 (S28 30000) k0 k1 m z L (nm,(rulesK pre++rules0 ys,())) (pp++py) (pre.length:Int)=k1 z L (nm,(rulesK (pre++ys),())) (pp++py) ((pre++ys).length:Int):=by
 intro ys
 induction ys with
 | nil=>
   intro pre pp py m hm hb hl hp
   cases py with
   | cons=>exact hp.elim
   | nil=>
     obtain ⟨m,rfl⟩:∃ k,m=k+1:=⟨m - 1,by simp at hm; omega⟩
     simp only [pK]
     unfold l7_54
     have:decide ((pre.length:Int) < (pp.length:Int))=false:=decide_eq_false (by omega)
     simp only [g7_63,g7_2,g7_3,g7_5,g7_6,g7_8,g7_9,g7_11,g7_12,g7_62,g7_17,g7_19,g7_20,g7_21,g7_26,g7_28,g7_29,g7_31,g7_32,g7_34,g7_35,g7_37,g7_38,g7_40,g7_41,g7_43,g7_44,g7_45,g7_46,g7_48,g7_49,g7_52,g7_53,g7_54,g7_60,g7_58,g7_61,g7_63b,g7,List.append_nil,this,bF,rules0,List.map_nil]
 | cons y ys ih=>
   intro pre pp py m hm hb hl hp
   cases py with
   | nil=>exact hp.elim
   | cons p py=>
     obtain ⟨hp,hps⟩:=hp
     obtain ⟨m,rfl⟩:∃ k,m=k+1:=⟨m - 1,by simp at hm; omega⟩
     have hl1:(rulesK pre).length=pre.length:=by simp [rulesK]
     have e1:rules0 (y::ys)=(0,(y.2.2.1,(y.2.2.2,())))::rules0 ys:=rfl
     have lc:decide ((pre.length:Int) < ((pp++p::py).length:Int))=true:=decide_eq_true (by simp only [List.length_append,List.length_cons]; omega)
     have f1:rulesK pre++(knd y.2.1,(y.2.2.1,(y.2.2.2,())))::rules0 ys=rulesK (pre++[y])++rules0 ys:=by simp [rulesK]
     have f2:pp++p::py=(pp++[p])++py:=by simp
     have b1:(0≤(pre.length:Int)∧(pre.length:Int) < ((rulesK pre++(knd y.2.1,(y.2.2.1,(y.2.2.2,())))::rules0 ys).length:Int))=True:=by rw [←hl1]; exact in_cons ..
     have b2:((pre.length:Int).toNat < (rulesK pre++(knd y.2.1,(y.2.2.1,(y.2.2.2,())))::rules0 ys).length)=True:=by rw [←hl1]; exact lt_at ..
     have b3:∀ d,(rulesK pre++(knd y.2.1,(y.2.2.1,(y.2.2.2,())))::rules0 ys).getD (pre.length:Int).toNat d=(knd y.2.1,(y.2.2.1,(y.2.2.2,()))):=fun d=>by rw [←hl1]; exact at_cons ..
     have c1:(0≤(pre.length:Int)∧(pre.length:Int) < ((pp++p::py).length:Int))=True:=by rw [←hl]; exact in_cons ..
     have c2:((pre.length:Int).toNat < (pp++p::py).length)=True:=by rw [←hl]; exact lt_at ..
     have c3:∀ d,(pp++p::py).getD (pre.length:Int).toNat d=p:=fun d=>by rw [←hl]; exact at_cons ..
     have wr:IntKind.i64.wrap ((pre.length:Int)+1)=((pre++[y]).length:Int):=by rw [wrap_id (by simp only [List.length_append,List.length_cons] at hb; omega)]; simp
     have hin:=fun k0=>rkinds (R:=R) k0 z L nm (rulesK pre) (rules0 ys) pp py p y y.2.2.1 (y.2.2.2,()) hp (by rw [hl1,hl]) 12 0 30000 0 rfl (by omega)
     rw [List.drop_zero] at hin
     have k1e:kF y.2.1 kN ((0+1:Nat):Int) 0=knd y.2.1:=kF_eq y.2.1
     simp only [k1e,hl1] at hin
     rw [e1]
     have hst:∀ o,o=l7_54 30000 (S28 30000) k0 k1 (m+1) z L (nm,(rulesK pre++(0,(y.2.2.1,(y.2.2.2,())))::rules0 ys,())) (pp++p::py) (pre.length:Int)→
       o=brB (knd y.2.1==0) (k0 ([],([],())) y.1 9) (l7_54 30000 (S28 30000) k0 k1 m z L (nm,(rulesK (pre++[y])++rules0 ys,())) ((pp++[p])++py) ((pre++[y]).length:Int)):=by
      intro o ho
      rw [ho]
      conv=>lhs; unfold l7_54
      simp only [g7_63,g7_2,g7_3,g7_5,g7_6,g7_8,g7_9,g7_11,g7_12,g7_62,g7_17,g7_19,g7_20,g7_21,g7_26,g7_28,g7_29,g7_31,g7_32,g7_34,g7_35,g7_37,g7_38,g7_40,g7_41,g7_43,g7_44,g7_45,g7_46,g7_48,g7_49,g7_52,g7_53,g7_54,g7_60,g7_58,g7_61,g7_63b,g7,lc,bT]
      refine (hin _).trans ?_
      simp only [g7_63,g7_2,g7_3,g7_5,g7_6,g7_8,g7_9,g7_11,g7_12,g7_62,g7_17,g7_19,g7_20,g7_21,g7_26,g7_28,g7_29,g7_31,g7_32,g7_34,g7_35,g7_37,g7_38,g7_40,g7_41,g7_43,g7_44,g7_45,g7_46,g7_48,g7_49,g7_52,g7_53,g7_54,g7_60,g7_58,g7_61,g7_63b,g7,b1,b2,b3,c1,c2,c3,if_true,if_pos hp.1,hp.2.2,wr]
      rw [f1,f2]
     have hi:=ih (pre++[y]) (pp++[p]) py m (by simpa using hm) (by rw [←app_cons]; exact hb) (by simp [hl]) hps
     simp only [pK]
     by_cases hz:knd y.2.1=0
     ·have eb:(knd y.2.1==0)=true:=by simpa using hz
      rw [if_pos hz]
      simp only
      refine (hst _ rfl).trans ?_
      rw [eb,bT]
     ·have eb:(knd y.2.1==0)=false:=by simpa using hz
      rw [if_neg hz]
      cases hpk:pK ys with
      | some ln=>
        rw [hpk] at hi
        refine (hst _ rfl).trans ?_
        rw [eb,bF]; exact hi
      | none=>
        rw [hpk] at hi
        refine (hst _ rfl).trans ?_
        rw [eb,bF]
        refine hi.trans ?_
        rw [←app_cons,←app_cons]
theorem vRParse (s:List UInt8) (hs:s.length+2 < 30000) (h2:s.length≤20000):S7 30000 s=some (pOut s):=by
 have hbd:=tk_bd s
 have hL2:(tk s).1.length+2 < 30000:=by omega
 have hL:(tk s).1.length < 30000:=by omega
 have hL':(tk s).1.length≤1000000:=by omega
 have hx:∀ t∈(tk s).1,t.2.1.length < 30000:=fun t ht=>by have:=hbd.2 t ht; omega
 unfold S7 pOut
 simp only [g7_63,g7_2,g7_3,g7_5,g7_6,g7_8,g7_9,g7_11,g7_12,g7_62,g7_17,g7_19,g7_20,g7_21,g7_26,g7_28,g7_29,g7_31,g7_32,g7_34,g7_35,g7_37,g7_38,g7_40,g7_41,g7_43,g7_44,g7_45,g7_46,g7_48,g7_49,g7_52,g7_53,g7_54,g7_60,g7_58,g7_61,g7_63b,g7,(vTokens s (by omega) h2).2,Option.bind_some]
 by_cases he:(tk s).2.2=0
 ·have e1:((tk s).2.2 != 0)=false:=by simpa using he
  rw [if_pos he]
  simp only [e1,bF]
  have hLs:(tk s).1.length≤20000:=by omega
  generalize (tk s).1=L at hL hL2 hL' hx hLs
  clear hbd he e1
  have hs0:L <:+L:=List.suffix_refl L
  have hs1:L.tail <:+L:=suf_tail hs0
  have hs2:L.tail.tail <:+L:=suf_tail hs1
  have hs3:L.tail.tail.tail <:+L:=suf_tail hs2
  have i0:=ris hs0
  have f0:=rfails hs0 hL'
  rw [pos_self] at i0 f0
  unfold pAll
  simp only [i0,Option.bind_some]
  cases h1:isT L 1 [108,105,99,101,110,99,101] with
  | false=>simp only [Bool.not_false,bT,f0,Option.bind_some,Bool.false_eq_true,if_false]
  | true=>
    have w1:=(tsT h1 hs0 hL').1
    have p1:pos L L.tail=1:=by rw [←w1,pos_self]; rfl
    have i1:=ris hs1
    have f1:=rfails hs1 hL'
    rw [p1] at i1 f1
    simp only [Bool.not_true,bF,i1,Option.bind_some,if_true]
    cases h2:isT L.tail 1 [] with
    | false=>simp only [Bool.not_false,bT,f1,Option.bind_some,Bool.false_eq_true,if_false]
    | true=>
      obtain ⟨w2,b2,a2⟩:=tsT h2 hs1 hL'
      have p2:pos L L.tail.tail=2:=by rw [←w2,p1]; rfl
      have i2:=ris hs2
      have f2:=rfails hs2 hL'
      rw [p2] at i2 f2
      rw [p1] at b2 a2
      simp only [Bool.not_true,bF,i2,Option.bind_some,if_true]
      cases h3:isT L.tail.tail 4 [123] with
      | false=>simp only [Bool.not_false,bT,f2,Option.bind_some,Bool.false_eq_true,if_false]
      | true=>
        obtain ⟨w3,_,_⟩:=tsT h3 hs2 hL'
        have p3:pos L L.tail.tail.tail=3:=by rw [←w3,p2]; rfl
        simp only [Bool.not_true,bF,if_true,if_pos b2,a2]
        have hlen:=suf_len hs3
        have hp:=fun (k0:Lic→Int→Int→Option (Lic×Int×Int)) (k1:Lic→List Tok→Lic→List Int→Int→Option (Lic×Int×Int)) (z:Lic) (nm:List UInt8)=>rlprs k0 k1 z nm hL hx L.length L.tail.tail.tail 30000 [] [] (suf_len hs3) (by omega) hs3 (by simp only [List.length_nil]; omega) (by simp only [List.length_nil]; omega)
        have hsf:=pRs_suf L.length L.tail.tail.tail hs3
        simp only [p3] at hp
        cases hq:pRs L.length L.tail.tail.tail with
        | inl f=>
          simp only [hq] at hp
          exact hp _ _ _ _
        | inr x=>
          obtain ⟨qs,r⟩:=x
          rw [hq] at hsf
          simp only [hq] at hp
          obtain ⟨hr,hi,hql⟩:=hsf
          have hrt:r.tail <:+L:=suf_tail hr
          obtain ⟨wr,_,_⟩:=tsT hi hr hL'
          have hp2:∀ (k0:Lic→Int→Int→Option (Lic×Int×Int)) (k1:Lic→List Tok→Lic→List Int→Int→Option (Lic×Int×Int)) (z:Lic) (nm:List UInt8) (o:Option (Lic×Int×Int)),(∀ ps,posR L ps qs→k1 z L (nm,(rules0 qs,())) ps (pos L r)=o)→
            l7_29 (S25 30000) (S26 30000) (S27 30000) k0 k1 30000 z L (nm,([],())) [] 3=o:=by
           intro k0 k1 z nm o ho
           obtain ⟨ps,h5,h6⟩:=hp k0 k1 z nm
           rw [h6]
           exact ho ps h5
          refine hp2 _ _ _ _ _ ?_
          intro ps hps
          simp only [g7_63,g7_2,g7_3,g7_5,g7_6,g7_8,g7_9,g7_11,g7_12,g7_62,g7_17,g7_19,g7_20,g7_21,g7_26,g7_28,g7_29,g7_31,g7_32,g7_34,g7_35,g7_37,g7_38,g7_40,g7_41,g7_43,g7_44,g7_45,g7_46,g7_48,g7_49,g7_52,g7_53,g7_54,g7_60,g7_58,g7_61,g7_63b,g7,wr]
          have hpt:(pos L r.tail != (L.length:Int))=!r.tail.isEmpty:=by
           have:=pos_lt hrt
           have hle:=suf_len hrt
           unfold pos
           cases r.tail with
           | nil=>simp
           | cons t q=>simp only [List.length_cons] at *; simp; omega
          rw [hpt]
          have fl:=rfails hrt hL'
          cases hr0:r.tail with
          | cons t rr=>
            rw [hr0] at fl
            simp only [List.isEmpty_cons,Bool.not_false,bT,if_false,reduceCtorEq,fl,Option.bind_some]
          | nil=>
            simp only [List.isEmpty_nil,Bool.not_true,bF,if_true,pEnd]
            have hk:=fun (k0:Lic→Int→Int→Option (Lic×Int×Int)) (k1:Lic→List Tok→Lic→List Int→Int→Option (Lic×Int×Int)) (z:Lic) (nm:List UInt8)=>rkk k0 k1 z L nm qs [] [] ps 30000 (by omega) (by simp only [List.nil_append]; omega) rfl hps
            simp only [List.nil_append,List.length_nil,Int.natCast_zero] at hk
            have e0:rulesK []=[]:=rfl
            simp only [e0,List.nil_append] at hk
            cases hz:pK qs with
            | some ln=>
              simp only [hz] at hk
              exact hk _ _ _ _
            | none=>
              simp only [hz] at hk
              refine (hk _ _ _ _).trans ?_
              simp only [v14,Option.bind_some]
              exact fin _ _
 ·have e1:((tk s).2.2 != 0)=true:=by simpa using he
  rw [if_neg he]
  simp only [e1,bT]
theorem isNm_eq (s:List UInt8):isNm s=(decide (s≠[])&&(decide (s.length≤20)&&decide (nmL s=s.length))):=by
 unfold isNm S40
 simp only [g40_2,g40_2b,g40]
 by_cases h0:s=[]
 ·subst h0; rfl
 ·have e0:(s != ([]:List UInt8))=true:=by simpa using h0
  have e1:decide (s≠[])=true:=decide_eq_true h0
  simp only [e0,e1,bT,Bool.true_and]
  by_cases h1:s.length≤20
  ·have d:decide ((s.length:Int)≤20)=true:=decide_eq_true (by omega)
   have e2:decide (s.length≤20)=true:=decide_eq_true h1
   simp only [d,e2,bT,Bool.true_and,(vnm s (by omega)).2,Option.bind_some]
   by_cases h2:nmL s=s.length
   ·simp [h2]
   ·have:((nmL s:Int)==(s.length:Int))=false:=by simpa using fun h=>h2 (by omega)
    rw [this,decide_eq_false h2]
  ·have d:decide ((s.length:Int)≤20)=false:=decide_eq_false (by omega)
   have e2:decide (s.length≤20)=false:=decide_eq_false h1
   simp only [d,e2,bF,Bool.false_and]
theorem isNm_of {s:List UInt8} (h:isNm s=true):s≠[]∧s.length≤20∧nmL s=s.length:=by
 rw [isNm_eq] at h
 simpa using h
def brk:List UInt8→Bool
 | []=>true
 | c::_=>!smB c&&(!dgB c&&(c.toNat != 45))
theorem nmT_brk {r:List UInt8} (h:brk r=true):nmT r=0:=by
 cases r with
 | nil=>rfl
 | cons c t=>
   simp only [brk,Bool.and_eq_true,Bool.not_eq_true',bne_iff_ne,ne_eq] at h
   obtain ⟨h1,h2,h3⟩:=h
   unfold nmT
   simp [h1,h2,h3]
theorem nmT_app {r:List UInt8} (h:brk r=true):∀ (n:Nat) (p:List UInt8),p.length≤n→nmT p=p.length→nmT (p++r)=p.length
 | _,[],_,_=>nmT_brk h
 | 0,_::_,hn,_=>by simp at hn
 | n+1,[c],hn,hp=>by
   unfold nmT at hp ⊢
   simp only [List.cons_append,List.nil_append,List.length_singleton]
   by_cases h1:(smB c || dgB c)=true
   ·rw [if_pos h1,nmT_brk h]
   ·rw [if_neg h1] at hp
    split at hp<;>simp at hp
 | n+1,c::d::t,hn,hp=>by
   unfold nmT at hp ⊢
   simp only [List.cons_append,List.length_cons] at hn hp ⊢
   by_cases h1:(smB c || dgB c)=true
   ·rw [if_pos h1] at hp ⊢
    have:=nmT_app h n (d::t) (by simp only [List.length_cons]; omega) (by simp only [List.length_cons]; omega)
    simp only [List.cons_append,List.length_cons] at this
    rw [this]
   ·rw [if_neg h1] at hp ⊢
    by_cases h2:c.toNat=45
    ·rw [if_pos h2] at hp ⊢
     by_cases h3:(smB d || dgB d)=true
     ·simp only [h3,if_true] at hp ⊢
      rw [nmT_app h n t (by omega) (by omega)]
     ·simp only [h3,Bool.false_eq_true,if_false] at hp
      omega
    ·rw [if_neg h2] at hp
     omega
theorem nmL_app {p r:List UInt8} (h:brk r=true) (h0:p≠[]) (hp:nmL p=p.length):nmL (p++r)=p.length:=by
 cases p with
 | nil=>exact absurd rfl h0
 | cons c s=>
   simp only [nmL,List.cons_append,List.length_cons] at hp ⊢
   split at hp
   ·rename_i h1
    rw [if_pos h1,nmT_app h _ s (Nat.le_refl _) (by omega)]
   ·omega
theorem cnt_app (p:UInt8→Bool):∀ (a r:List UInt8),(∀ c∈a,p c=true)→(match r with | []=>true | c::_=>!p c)=true→cnt p (a++r)=a.length
 | [],[],_,_=>rfl
 | [],c::r,_,h=>by
   simp only [Bool.not_eq_true'] at h
   simp [cnt,h]
 | c::a,r,ha,h=>by
   simp only [List.cons_append,cnt,ha c (by simp),if_true,List.length_cons]
   rw [cnt_app p a r (fun x hx=>ha x (by simp [hx])) h]
def Good (t:Int×List UInt8):Prop:=
 (t.1=1∧isNm t.2=true)∨(t.1=2∧t.2≠[]∧t.2.length≤6∧(∀ c∈t.2,dgB c=true)∧(2≤t.2.length→∀ c r,t.2=c::r→c.toNat≠48))∨
 (t.1=3∧(∀ c∈t.2,inB' c=true)∧t.2.length≤60)∨(t.1=4∧∃ c,t.2=[c]∧sgB c=true∧smB c=false∧dgB c=false∧c.toNat≠34∧c.toNat≠10∧isW c=false∧c.toNat≠35)
def piece (t:Int×List UInt8):List UInt8:=if t.1=3 then 34::(t.2++[34]) else t.2
theorem sm_no {c:UInt8} (h:smB c=true):dgB c=false∧c.toNat≠34∧c.toNat≠10∧isW c=false∧c.toNat≠35:=by
 have:97≤c.toNat∧c.toNat≤122:=by
  unfold smB sm at h
  simp only [Bool.and_eq_true,decide_eq_true_eq] at h
  omega
 refine ⟨?_,by omega,by omega,?_,by omega⟩
 ·unfold dgB dg
  have:decide ((c.toNat:Int)≤57)=false:=decide_eq_false (by omega)
  rw [this,Bool.and_false]
 ·unfold isW
  simp; omega
theorem dg_no {c:UInt8} (h:dgB c=true):smB c=false∧c.toNat≠34∧c.toNat≠10∧isW c=false∧c.toNat≠35:=by
 have:=dg_rng h
 refine ⟨?_,by omega,by omega,?_,by omega⟩
 ·unfold smB sm
  have:decide ((c.toNat:Int)≥97)=false:=decide_eq_false (by omega)
  rw [this,Bool.false_and]
 ·unfold isW
  simp; omega
theorem nx_good {t:Int×List UInt8} (h:Good t) {r:List UInt8} (hr:brk r=true):
  nx (piece t++r)=.inr (t.1,t.2,(piece t).length)∧∃ c q,piece t=c::q∧c.toNat≠10∧isW c=false∧c.toNat≠35:=by
 obtain ⟨k,x⟩:=t
 rcases h with ⟨h1,h2⟩ | ⟨h1,h2,h3,h4,h5⟩ | ⟨h1,h2,h3⟩ | ⟨h1,c,h2,h3,h4,h5,h6,h7,h8,h9⟩
 ·simp only at h1 h2
  subst h1
  obtain ⟨g1,g2,g3⟩:=isNm_of h2
  have e:piece (1,x)=x:=rfl
  rw [e]
  have hn:=nmL_app hr g1 g3
  cases x with
  | nil=>exact absurd rfl g1
  | cons c q=>
    have hc:smB c=true:=by
     simp only [nmL,List.length_cons] at g3
     split at g3
     ·assumption
     ·omega
    have hs:=sm_no hc
    refine ⟨?_,c,q,rfl,hs.2.2⟩
    simp only [List.cons_append] at hn
    simp only [List.cons_append,nx,hc,if_true,hn]
    rw [if_neg (by omega),←List.cons_append,List.take_left]
 ·simp only at h1 h2 h3 h4 h5
  subst h1
  have e:piece (2,x)=x:=rfl
  rw [e]
  have hn:=cnt_app dgB x r h4 (by
   cases r with
   | nil=>rfl
   | cons c t=>
     simp only [brk,Bool.and_eq_true] at hr
     exact hr.2.1)
  cases x with
  | nil=>exact absurd rfl h2
  | cons c q=>
    have hc:=h4 c (by simp)
    have hs:=dg_no hc
    refine ⟨?_,c,q,rfl,hs.2.2⟩
    simp only [List.cons_append] at hn
    simp only [List.cons_append,nx,hc,hs.1,if_true,hn,Bool.false_eq_true,if_false]
    rw [if_neg (by omega),if_neg (by
     rintro ⟨a,b⟩
     exact h5 (by omega) c q rfl a),←List.cons_append,List.take_left]
 ·simp only at h1 h2 h3
  subst h1
  have e:piece (3,x)=34::(x++[34]):=rfl
  rw [e]
  have hn:=cnt_app inB' x (34::r) h2 rfl
  refine ⟨?_,34,_,rfl,by decide,by decide,by decide⟩
  have q1:smB 34=false:=by decide
  have q2:dgB 34=false:=by decide
  have q3:(34:UInt8).toNat=34:=rfl
  have q4:quoT (x++34::r)=(0,x):=by
   unfold quoT
   rw [hn]
   simp only [List.drop_left,List.take_left]
   rw [if_neg (by decide),if_neg (by omega)]
  simp only [List.cons_append,List.append_assoc,List.nil_append,nx,q1,q2,q3,q4,Bool.false_eq_true,if_false,if_true,List.length_cons,List.length_append,List.length_nil]
 ·simp only at h1 h2
  subst h1 h2
  have e:piece (4,[c])=[c]:=rfl
  rw [e]
  refine ⟨?_,c,[],rfl,h7,h8,h9⟩
  simp only [List.cons_append,List.nil_append,nx,h3,h4,h5,h6,Bool.false_eq_true,if_false,if_true,List.length_singleton]
def TK (s:List UInt8) (ks:List (Int×List UInt8)):Prop:=∀ l,∃ ts,toks s.length l s=.inr ts∧ts.map (fun t=>(t.1,t.2.1))=ks
theorem TK.nil:TK [] []:=fun l=>⟨[],rfl,rfl⟩
theorem TK.sp {s:List UInt8} {ks} (h:TK s ks):TK (32::s) ks:=by
 intro l
 obtain ⟨ts,h1,h2⟩:=h l
 exact ⟨ts,by simp only [List.length_cons,toks]; exact h1,h2⟩
theorem TK.tab {s:List UInt8} {ks} (h:TK s ks):TK (9::s) ks:=by
 intro l
 obtain ⟨ts,h1,h2⟩:=h l
 exact ⟨ts,by simp only [List.length_cons,toks]; exact h1,h2⟩
theorem TK.nl {s:List UInt8} {ks} (h:TK s ks):TK (10::s) ks:=by
 intro l
 obtain ⟨ts,h1,h2⟩:=h (l+1)
 exact ⟨ts,by simp only [List.length_cons,toks]; exact h1,h2⟩
theorem TK.cm {s:List UInt8} {ks} (h:TK s ks):TK (35::32::99::10::s) ks:=by
 intro l
 obtain ⟨ts,h1,h2⟩:=h.nl l
 refine ⟨ts,?_,h2⟩
 rw [←h1]
 exact toks_fuel _ _ l (10::s) (by simp) (Nat.le_refl _)
theorem TK.tok {t:Int×List UInt8} (hg:Good t) {r:List UInt8} {ks} (hr:brk r=true) (h:TK r ks):TK (piece t++r) (t::ks):=by
 intro l
 obtain ⟨ts,h1,h2⟩:=h l
 obtain ⟨hn,c,q,hq,g1,g2,g3⟩:=nx_good hg hr
 refine ⟨(t.1,(t.2,(l,())))::ts,?_,by simp [h2]⟩
 have hl:(piece t++r).length=(q++r).length+1:=by rw [hq]; simp
 have hd:(piece t++r).drop (piece t).length=r:=List.drop_left
 rw [hl]
 rw [hq] at hn hd ⊢
 simp only [List.cons_append] at hn hd ⊢
 simp only [toks,if_neg g1,g2,Bool.false_eq_true,if_false,if_neg g3,hn]
 rw [hd,toks_fuel (q++r).length r.length l r (by simp) (Nat.le_refl _),h1]
def dig3 (n:Nat):List UInt8:=if n < 10 then [UInt8.ofNat (48+n)] else if n / 10 < 10 then [UInt8.ofNat (48+n / 10),UInt8.ofNat (48+n % 10)] else [UInt8.ofNat (48+n / 10 / 10),UInt8.ofNat (48+n / 10 % 10),UInt8.ofNat (48+n % 10)]
def dgs (n:Int):List UInt8:=dig3 n.toNat
theorem digits_ok:((List.range 1000).all fun n=>decide ((dgs (n:Int)).length≤3)&&(numOk (dgs (n:Int))&&(numR (dgs (n:Int))==((n:Int),true))))=true:=by kernel_rfl
theorem vdigits {n:Int} (h:0≤n∧n≤999):True∧(dgs n).length≤3∧numOk (dgs n)=true∧numR (dgs n)=(n,true):=by
 have:=List.all_eq_true.1 digits_ok n.toNat (List.mem_range.2 (by omega))
 have e:((n.toNat:Nat):Int)=n:=by omega
 rw [e] at this
 exact ⟨trivial,by simpa only [Bool.and_eq_true,beq_iff_eq,decide_eq_true_eq] using this⟩
def kname (k:Int):List UInt8:=kN.getD (k.toNat - 1) []
theorem knames_ok:((List.range 12).all fun n=>isNm (kname ((n+1:Nat):Int))&&(decide ((kname ((n+1:Nat):Int)).length≤11)&&(knd (kname ((n+1:Nat):Int))==((n+1:Nat):Int))))=true:=by kernel_rfl
theorem vkname {k:Int} (h:1≤k∧k≤12):S28 30000 k=some (kname k)∧isNm (kname k)=true∧(kname k).length≤11∧knd (kname k)=k:=by
 have:=List.all_eq_true.1 knames_ok (k.toNat - 1) (List.mem_range.2 (by omega))
 have h2:=(vKind (k.toNat - 1) (by omega)).2
 have e:((k.toNat - 1+1:Nat):Int)=k:=by omega
 rw [e] at this h2
 simp only [Bool.and_eq_true,beq_iff_eq,decide_eq_true_eq] at this
 exact ⟨h2,this⟩
theorem letts_in:((List.range 256).all fun n=>!lett (n:Int) || inB' (UInt8.ofNat n))=true:=by kernel_rfl
theorem lett_in {c:UInt8} (h:lett (c.toNat:Int)=true):inB' c=true:=by
 have:=List.all_eq_true.1 letts_in c.toNat (List.mem_range.2 c.toNat_lt)
 rw [h] at this
 simpa using this
def ksWs (ws:List (List UInt8)):List (Int×List UInt8):=ws.flatMap fun w=> [(4,[44]),(3,w)]
def ksW:List (List UInt8)→List (Int×List UInt8)
 | []=> []
 | w::ws=>(1,[105,110])::(3,w)::ksWs ws
def ksR (r:Rul):List (Int×List UInt8):=(1,kname r.1)::(2,dgs r.2.1)::(ksW r.2.2.1++[(4,[59])])
def ksL (l:Lic):List (Int×List UInt8):=(1,[108,105,99,101,110,99,101])::(1,l.1)::(4,[123])::(l.2.1.flatMap ksR++[(4,[125])])
def kt (t:Tok):Int×List UInt8:=(t.1,t.2.1)
theorem isT_kt {ts:List Tok} {k:Int} {x:List UInt8} {ks} (h:ts.map kt=(k,x)::ks) (k':Int) (s:List UInt8):isT ts k' s=((k==k')&&((s==[]) || (x==s)))∧(hdT ts).2.1=x∧ts.tail.map kt=ks:=by
 cases ts with
 | nil=>cases h
 | cons t r=>
   simp only [List.map_cons,List.cons.injEq,kt,Prod.mk.injEq] at h
   obtain ⟨⟨h1,h2⟩,h3⟩:=h
   refine ⟨?_,h2,h3⟩
   simp only [isT,h1,h2]
theorem pW_kt:∀ (ws:List (List UInt8)) (ts:List Tok) (ks:List (Int×List UInt8)),ts.map kt=ksWs ws++(4,[59])::ks→∃ r,pW ts=.inr (ws,r)∧r.map kt=(4,[59])::ks
 | [],ts,ks,h=>by
   have h:ts.map kt=(4,[59])::ks:=h
   have hi:=(isT_kt h 4 [44]).1
   have hi:isT ts 4 [44]=false:=hi.trans (by decide)
   match ts,h,hi with
   | [c],h,hi=>exact ⟨[c],by simp only [pW,hi,Bool.false_eq_true,if_false],h⟩
   | c::q::r,h,hi=>exact ⟨c::q::r,by simp only [pW,hi,Bool.false_eq_true,if_false],h⟩
 | w::ws,ts,ks,h=>by
   have h:ts.map kt=(4,[44])::(3,w)::(ksWs ws++(4,[59])::ks):=h
   match ts,h with
   | [c],h=>simp at h
   | c::q::r,h=>
     have a1:=isT_kt h 4 [44]
     have a2:=isT_kt a1.2.2 3 []
     have i1:isT (c::q::r) 4 [44]=true:=a1.1.trans (by decide)
     have i2:isT (q::r) 3 []=true:=a2.1.trans (by simp)
     obtain ⟨r',g1,g2⟩:=pW_kt ws r ks a2.2.2
     refine ⟨r',?_,g2⟩
     have e:q.2.1=w:=a2.2.1
     simp only [pW,i1,i2,if_true,g1,e]
theorem pRule_kt (r:Rul) (hc:0≤r.2.1∧r.2.1≤999) (ts:List Tok) (ks:List (Int×List UInt8)) (h:ts.map kt=ksR r++ks):
  ∃ t',pRule ts=.inr ((kname r.1,(r.2.1,r.2.2.1)),t')∧t'.map kt=ks:=by
 obtain ⟨k,c,ws,u⟩:=r
 have hn:=(vdigits hc).2.2.2
 simp only at hn
 have h:ts.map kt=(1,kname k)::(2,dgs c)::((ksW ws++[(4,[59])])++ks):=h
 have a1:=isT_kt h 1 []
 have a2:=isT_kt a1.2.2 2 []
 have i1:isT ts 1 []=true:=a1.1.trans (by simp)
 have i2:isT ts.tail 2 []=true:=a2.1.trans (by simp)
 unfold pRule
 simp only [i1,i2,if_true,a1.2.1,a2.2.1,hn]
 have h3:=a2.2.2
 rw [List.append_assoc,List.singleton_append] at h3
 have hp:∃ t,pIn ts.tail.tail=.inr (ws,t)∧t.map kt=(4,[59])::ks:=by
  unfold pIn
  cases ws with
  | nil=>
    have a3:=isT_kt (h3:_=(4,[59])::ks) 1 [105,110]
    have i3:isT ts.tail.tail 1 [105,110]=false:=a3.1.trans (by decide)
    rw [i3]
    exact ⟨_,rfl,h3⟩
  | cons w ws=>
    have h3:ts.tail.tail.map kt=(1,[105,110])::(3,w)::(ksWs ws++(4,[59])::ks):=h3
    have a3:=isT_kt h3 1 [105,110]
    have a4:=isT_kt a3.2.2 3 []
    have i3:isT ts.tail.tail 1 [105,110]=true:=a3.1.trans (by decide)
    have i4:isT ts.tail.tail.tail 3 []=true:=a4.1.trans (by simp)
    obtain ⟨t,g1,g2⟩:=pW_kt ws _ ks a4.2.2
    simp only [i3,i4,if_true,g1,a4.2.1]
    exact ⟨t,rfl,g2⟩
 obtain ⟨t,g1,g2⟩:=hp
 have a5:=isT_kt g2 4 [59]
 have i5:isT t 4 [59]=true:=a5.1.trans (by decide)
 simp only [g1,i5,if_true]
 exact ⟨_,rfl,a5.2.2⟩
theorem pRs_kt:∀ (rs:List Rul) (n:Nat) (ts:List Tok),(∀ r∈rs,0≤r.2.1∧r.2.1≤999)→ts.length≤n→ts.map kt=rs.flatMap ksR++[(4,[125])]→
  ∃ qs t',pRs n ts=.inr (qs,t')∧t'.map kt=[(4,[125])]∧qs.map (·.2)=rs.map fun r=>(kname r.1,(r.2.1,r.2.2.1))
 | [],n,ts,_,hn,h=>by
   have h:ts.map kt=[(4,[125])]:=h
   have hl:ts.length=1:=by simpa using congrArg List.length h
   obtain ⟨n,rfl⟩:∃ k,n=k+1:=⟨n - 1,by omega⟩
   have i:isT ts 4 [125]=true:=(isT_kt h 4 [125]).1.trans (by decide)
   exact ⟨[],ts,by simp only [pRs,i,if_true],h,rfl⟩
 | r::rs,n,ts,hc,hn,h=>by
   have h:ts.map kt=ksR r++(rs.flatMap ksR++[(4,[125])]):=by rw [h,List.flatMap_cons,List.append_assoc]
   have i:isT ts 4 [125]=false:=by
    have h':ts.map kt=(1,kname r.1)::((2,dgs r.2.1)::(ksW r.2.2.1++[(4,[59])])++(rs.flatMap ksR++[(4,[125])])):=h
    exact (isT_kt h' 4 [125]).1.trans (by rw [show ((1:Int)==4)=false from rfl]; rfl)
   obtain ⟨t',g1,g2⟩:=pRule_kt r (hc r (by simp)) ts _ h
   have hd:=(pRule_dec g1).1
   obtain ⟨n,rfl⟩:∃ k,n=k+1:=⟨n - 1,by omega⟩
   obtain ⟨qs,t2,k1,k2,k3⟩:=pRs_kt rs n t' (fun r hr=>hc r (by simp [hr])) (by omega) g2
   exact ⟨_,t2,by simp only [pRs,i,Bool.false_eq_true,if_false,g1,k1]; rfl,k2,by simp [k3]⟩
theorem rlw_wd:∀ (ws:List (List UInt8)) (pre:List (List UInt8)),rlw ws pre=0→∀ w∈ws,wd w=0
 | [],_,_,_,h=>by cases h
 | v::ws,pre,h,w,hw=>by
   unfold rlw at h
   split at h
   ·rename_i h1
    exact absurd h h1
   ·rename_i h1
    have hv:wd v=0:=by simpa using h1
    split at h
    ·cases h
    ·rcases List.mem_cons.1 hw with rfl | hw
     ·exact hv
     ·exact rlw_wd ws _ h w hw
theorem rls_rul:∀ (rs:List Rul),rls rs=0→∀ r∈rs,rul r=0
 | [],_,_,h=>by cases h
 | v::rs,h,r,hr=>by
   unfold rls at h
   split at h
   ·rename_i h1
    exact absurd h h1
   ·rename_i h1
    rcases List.mem_cons.1 hr with rfl | hr
    ·simpa using h1
    ·exact rls_rul rs h r hr
def okR (r:Rul):Prop:=(1≤r.1∧r.1≤12)∧(0≤r.2.1∧r.2.1≤999)∧r.2.2.1.length≤20∧∀ w∈r.2.2.1,w.length≤16∧∀ c∈w,inB' c=true
theorem wd_ok {w:List UInt8} (h:wd w=0):w.length≤16∧∀ c∈w,inB' c=true:=by
 unfold wd at h
 split at h
 ·cases h
 ·split at h
  ·cases h
  ·rename_i h1 h2
   refine ⟨by omega,fun c hc=>?_⟩
   simp only [not_or,bad,List.any_eq_true,not_exists,not_and,Bool.not_eq_true',Bool.not_eq_true] at h2
   exact lett_in (by
    have:=h2.2.2 c hc
    simpa using this)
theorem rul_ok {r:Rul} (h:rul r=0):okR r:=by
 unfold rul at h
 split at h
 ·cases h
 ·split at h
  ·cases h
  ·rename_i h1 h2
   exact ⟨by omega,by omega,by omega,fun w hw=>wd_ok (rlw_wd _ _ h w hw)⟩
theorem lic_okR {x:Lic} (h:lic x=0):isNm x.1=true∧x.2.1.length≤30∧∀ r∈x.2.1,okR r:=by
 unfold lic at h
 split at h
 ·cases h
 ·rename_i h0
  split at h
  ·cases h
  ·rename_i h1
   exact ⟨by simpa using h0,by omega,fun r hr=>rul_ok (rls_rul _ h r hr)⟩
theorem parse_TK {s:List UInt8} {l:Lic} (h:TK s (ksL l)) (hl:lic l=0):pOut s=(l,0,0):=by
 obtain ⟨nm,rs,u⟩:=l
 obtain ⟨hn,h30,hr⟩:=lic_okR hl
 obtain ⟨ts,h1,h2⟩:=h 1
 have h2:ts.map kt=(1,[108,105,99,101,110,99,101])::(1,nm)::(4,[123])::(rs.flatMap ksR++[(4,[125])]):=h2
 have e:tk s=(ts,0,0):=by unfold tk; rw [h1]
 unfold pOut
 simp only [e,if_true]
 have a1:=isT_kt h2 1 [108,105,99,101,110,99,101]
 have a2:=isT_kt a1.2.2 1 []
 have a3:=isT_kt a2.2.2 4 [123]
 have i1:isT ts 1 [108,105,99,101,110,99,101]=true:=a1.1.trans (by decide)
 have i2:isT ts.tail 1 []=true:=a2.1.trans (by simp)
 have i3:isT ts.tail.tail 4 [123]=true:=a3.1.trans (by decide)
 obtain ⟨qs,t',k1,k2,k3⟩:=pRs_kt rs ts.length ts.tail.tail.tail (fun r hx=>(hr r hx).2.1) (by simp only [List.length_tail]; omega) a3.2.2
 have ht:t'.tail=[]:=by
  have:=congrArg List.length k2
  simp only [List.length_map,List.length_singleton] at this
  exact List.length_eq_zero_iff.1 (by rw [List.length_tail]; omega)
 unfold pAll
 simp only [i1,i2,i3,if_true,k1,ht,a2.2.1]
 have hq:∀ (rs:List Rul) (qs:List (Int×Qr)),(∀ r∈rs,okR r)→qs.map (·.2)=rs.map (fun r=>(kname r.1,(r.2.1,r.2.2.1)))→pK qs=none∧rulesK qs=rs:=by
  intro rs
  induction rs with
  | nil=>
    intro qs _ h
    have:qs=[]:=by simpa using h
    subst this; exact ⟨rfl,rfl⟩
  | cons r rs ih=>
    intro qs hr h
    cases qs with
    | nil=>simp at h
    | cons q qs=>
      simp only [List.map_cons,List.cons.injEq] at h
      obtain ⟨g1,g2⟩:=ih qs (fun r hx=>hr r (by simp [hx])) h.2
      have hk:=(vkname (hr r (by simp)).1).2.2.2
      have hq:=h.1
      obtain ⟨ql,qn,qc,qw⟩:=q
      simp only [Prod.mk.injEq] at hq
      obtain ⟨q1,q2,q3⟩:=hq
      subst q1 q2 q3
      have hk1:=(hr r (by simp)).1
      refine ⟨?_,?_⟩
      ·simp only [pK,hk]
       rw [if_neg (by omega)]
       exact g1
      ·simp only [rulesK,List.map_cons,hk]
       rw [show List.map (fun q:Int×Qr=>(knd q.2.1,(q.2.2.1,(q.2.2.2,())))) qs=rs from g2]
 obtain ⟨g1,g2⟩:=hq rs qs hr k3
 unfold pEnd
 simp only [g1,g2]
 rw [if_pos hl]
def fmtWs (ws:List (List UInt8)):List UInt8:=ws.flatMap fun w=> [44,32,34]++w++[34]
def fmtW:List (List UInt8)→List UInt8
 | []=> []
 | w::ws=> [32,105,110,32,34]++w++[34]++fmtWs ws
def fmtR (r:Rul):List UInt8:=[32,32]++kname r.1++[32]++dgs r.2.1++fmtW r.2.2.1++[59,10]
def fmt (l:Lic):List UInt8:=[108,105,99,101,110,99,101,32]++l.1++[32,123,10]++l.2.1.flatMap fmtR++[125,10]
theorem numOk_good {x:List UInt8} (h:numOk x=true):Good (2,x):=by
 unfold numOk at h
 simp only [Bool.and_eq_true,Bool.not_eq_true',decide_eq_true_eq,beq_iff_eq] at h
 obtain ⟨h1,h2,h3,h4⟩:=h
 refine .inr (.inl ⟨rfl,?_,h2,fun c hc=>cnt_all dgB h3 c hc,?_⟩)
 ·rintro rfl; simp at h1
 ·intro hl c r e
  simp only at e hl
  subst e
  rw [decide_eq_true (by omega)] at h4
  simpa using h4
theorem good_sign (c:UInt8) (h:(sgB c&&(!smB c&&(!dgB c&&(c.toNat != 34&&(c.toNat != 10&&(!isW c&&c.toNat != 35))))))=true):Good (4,[c]):=by
 simp only [Bool.and_eq_true,Bool.not_eq_true',bne_iff_ne,ne_eq] at h
 exact .inr (.inr (.inr ⟨rfl,c,rfl,h.1,h.2.1,h.2.2.1,h.2.2.2.1,h.2.2.2.2.1,h.2.2.2.2.2.1,h.2.2.2.2.2.2⟩))
theorem good_comma:Good (4,[44]):=good_sign 44 (by kernel_rfl)
theorem good_semi:Good (4,[59]):=good_sign 59 (by kernel_rfl)
theorem good_open:Good (4,[123]):=good_sign 123 (by kernel_rfl)
theorem good_close:Good (4,[125]):=good_sign 125 (by kernel_rfl)
theorem good_in:Good (1,[105,110]):=.inl ⟨rfl,by kernel_rfl⟩
theorem good_lic:Good (1,[108,105,99,101,110,99,101]):=.inl ⟨rfl,by kernel_rfl⟩
theorem good_w {w:List UInt8} (h:w.length≤16∧∀ c∈w,inB' c=true):Good (3,w):=.inr (.inr (.inl ⟨rfl,h.2,by have:=h.1; show w.length≤60; omega⟩))
theorem good_R {r:Rul} (h:okR r):∀ t∈ksR r,Good t:=by
 obtain ⟨k,c,ws,u⟩:=r
 obtain ⟨h1,h2,h3,h4⟩:=h
 simp only at h1 h2 h3 h4
 intro t ht
 simp only [ksR,List.mem_cons,List.mem_append,List.not_mem_nil,or_false] at ht
 rcases ht with rfl | rfl | ht | rfl
 ·exact .inl ⟨rfl,(vkname h1).2.1⟩
 ·exact numOk_good (vdigits h2).2.2.1
 ·cases ws with
  | nil=>cases ht
  | cons w ws=>
    simp only [ksW,List.mem_cons,ksWs,List.mem_flatMap,List.not_mem_nil,or_false] at ht
    rcases ht with rfl | rfl | ⟨v,hv,rfl | rfl⟩
    ·exact good_in
    ·exact good_w (h4 w (by simp))
    ·exact good_comma
    ·exact good_w (h4 v (by simp [hv]))
 ·exact good_semi
theorem good_L {l:Lic} (h:lic l=0):∀ t∈ksL l,Good t:=by
 obtain ⟨h1,h2,h3⟩:=lic_okR h
 intro t ht
 simp only [ksL,List.mem_cons,List.mem_append,List.mem_flatMap,List.not_mem_nil,or_false] at ht
 rcases ht with rfl | rfl | rfl | ⟨r,hr,ht⟩ | rfl
 ·exact good_lic
 ·exact .inl ⟨rfl,h1⟩
 ·exact good_open
 ·exact good_R (h3 r hr) t ht
 ·exact good_close
theorem TK.tok' {t:Int×List UInt8} (hg:Good t) {p r:List UInt8} {ks} (hp:p=piece t) (hr:brk r=true) (h:TK r ks):TK (p++r) (t::ks):=by
 subst hp; exact TK.tok hg hr h
theorem TK_ws:∀ (ws:List (List UInt8)) (r:List UInt8) (ks:List (Int×List UInt8)),(∀ w∈ws,w.length≤16∧∀ c∈w,inB' c=true)→brk r=true→TK r ks→TK (fmtWs ws++r) (ksWs ws++ks)∧brk (fmtWs ws++r)=true
 | [],r,ks,_,hb,h=>⟨h,hb⟩
 | w::ws,r,ks,hw,hb,h=>by
   obtain ⟨h1,h2⟩:=TK_ws ws r ks (fun v hv=>hw v (by simp [hv])) hb h
   have e:fmtWs (w::ws)++r=[44]++(32::((34::(w++[34]))++(fmtWs ws++r))):=by
    simp [fmtWs]
   have e2:ksWs (w::ws)++ks=(4,[44])::(3,w)::(ksWs ws++ks):=rfl
   rw [e,e2]
   exact ⟨TK.tok' good_comma rfl rfl (TK.sp (TK.tok' (good_w (hw w (by simp))) rfl h2 h1)),rfl⟩
theorem TK_w (ws:List (List UInt8)) (r:List UInt8) (ks:List (Int×List UInt8)) (hw:∀ w∈ws,w.length≤16∧∀ c∈w,inB' c=true) (hb:brk r=true) (h:TK r ks):TK (fmtW ws++r) (ksW ws++ks)∧brk (fmtW ws++r)=true:=by
 cases ws with
 | nil=>exact ⟨h,hb⟩
 | cons w ws=>
   obtain ⟨h1,h2⟩:=TK_ws ws r ks (fun v hv=>hw v (by simp [hv])) hb h
   have e:fmtW (w::ws)++r=32::([105,110]++(32::((34::(w++[34]))++(fmtWs ws++r)))):=by
    simp [fmtW]
   have e2:ksW (w::ws)++ks=(1,[105,110])::(3,w)::(ksWs ws++ks):=rfl
   rw [e,e2]
   exact ⟨TK.sp (TK.tok' good_in rfl rfl (TK.sp (TK.tok' (good_w (hw w (by simp))) rfl h2 h1))),rfl⟩
theorem TK_r {r:Rul} (hr:okR r) {s:List UInt8} {ks} (h:TK s ks):TK (fmtR r++s) (ksR r++ks):=by
 obtain ⟨k,c,ws,u⟩:=r
 obtain ⟨h1,h2,h3,h4⟩:=hr
 simp only at h1 h2 h3 h4
 obtain ⟨g1,g2⟩:=TK_w ws ([59]++(10::s)) ((4,[59])::ks) h4 rfl (TK.tok' good_semi rfl rfl (TK.nl h))
 have e:fmtR (k,c,ws,u)++s=32::32::(kname k++(32::(dgs c++(fmtW ws++([59]++(10::s)))))):=by
  simp [fmtR]
 have e2:ksR (k,c,ws,u)++ks=(1,kname k)::(2,dgs c)::(ksW ws++(4,[59])::ks):=by simp [ksR]
 rw [e,e2]
 exact TK.sp (TK.sp (TK.tok' (.inl ⟨rfl,(vkname h1).2.1⟩) rfl rfl (TK.sp (TK.tok' (numOk_good (vdigits h2).2.2.1) rfl g2 g1))))
theorem TK_rs:∀ (rs:List Rul) {s:List UInt8} {ks},(∀ r∈rs,okR r)→TK s ks→TK (rs.flatMap fmtR++s) (rs.flatMap ksR++ks)
 | [],_,_,_,h=>h
 | r::rs,s,ks,hr,h=>by
   rw [List.flatMap_cons,List.flatMap_cons,List.append_assoc,List.append_assoc]
   exact TK_r (hr r (by simp)) (TK_rs rs (fun x hx=>hr x (by simp [hx])) h)
theorem TK_fmt {l:Lic} (h:lic l=0):TK (fmt l) (ksL l):=by
 obtain ⟨h1,h2,h3⟩:=lic_okR h
 obtain ⟨nm,rs,u⟩:=l
 have e:fmt (nm,rs,u)=[108,105,99,101,110,99,101]++(32::(nm++(32::([123]++(10::(rs.flatMap fmtR++([125]++[10]))))))):=by simp [fmt]
 rw [e]
 exact TK.tok' good_lic rfl rfl (TK.sp (TK.tok' (.inl ⟨rfl,h1⟩) rfl rfl (TK.sp (TK.tok' good_open rfl rfl (TK.nl (TK_rs rs h3 (TK.tok' good_close rfl rfl (TK.nl TK.nil))))))))
def seps:List (List UInt8):=[[32],[10],[32,35,32,99,10],[9,32]]
def spaced (f:Nat→Nat):Nat→List (Int×List UInt8)→List UInt8
 | _,[]=> []
 | i,t::ts=>(seps.getD (f i) []++piece t)++spaced f (i+1) ts
theorem TK_spaced (f:Nat→Nat) (hf:∀ i,f i < 4):∀ (ks:List (Int×List UInt8)) (i:Nat),(∀ t∈ks,Good t)→TK (spaced f i ks) ks∧brk (spaced f i ks)=true
 | [],_,_=>⟨TK.nil,rfl⟩
 | t::ks,i,hg=>by
   obtain ⟨h1,h2⟩:=TK_spaced f hf ks (i+1) (fun x hx=>hg x (by simp [hx]))
   have hp:=TK.tok (hg t (by simp)) h2 h1
   unfold spaced
   rw [List.append_assoc]
   have:=hf i
   rcases (by omega:f i=0∨f i=1∨f i=2∨f i=3) with e | e | e | e<;>rw [e]
   ·exact ⟨TK.sp hp,rfl⟩
   ·exact ⟨TK.nl hp,rfl⟩
   ·exact ⟨TK.sp (TK.cm hp),rfl⟩
   ·exact ⟨TK.tab (TK.sp hp),rfl⟩
def wt (t:Int×List UInt8):Nat:=7+t.2.length
def wts (ks:List (Int×List UInt8)):Nat:=(ks.map fun t=>5+(piece t).length).sum
theorem spaced_len (f:Nat→Nat):∀ (ks:List (Int×List UInt8)) (i:Nat),(spaced f i ks).length≤wts ks
 | [],_=>Nat.le_refl _
 | t::ks,i=>by
   have h1:=spaced_len f ks (i+1)
   have h2:(seps.getD (f i) []).length≤5:=by
    match f i with
    | 0 | 1 | 2 | 3=>decide
    | n+4=>exact Nat.zero_le _
   simp only [spaced,wts,List.map_cons,List.sum_cons,List.length_append] at h1 ⊢
   omega
theorem wts_app (a b:List (Int×List UInt8)):wts (a++b)=wts a+wts b:=by simp [wts]
theorem wts_cons (t) (b:List (Int×List UInt8)):wts (t::b)=5+(piece t).length+wts b:=by simp [wts]
theorem wts_nil:wts []=0:=rfl
theorem pc1 (x:List UInt8):(piece (1,x)).length=x.length:=rfl
theorem pc2 (x:List UInt8):(piece (2,x)).length=x.length:=rfl
theorem pc3 (x:List UInt8):(piece (3,x)).length=x.length+2:=by simp [piece]
theorem pc4 (x:List UInt8):(piece (4,x)).length=x.length:=rfl
theorem wts_ws:∀ (ws:List (List UInt8)),(∀ w∈ws,w.length≤16∧∀ c∈w,inB' c=true)→wts (ksWs ws)≤29 * ws.length
 | [],_=>Nat.le_refl _
 | w::ws,h=>by
   have h1:=wts_ws ws (fun v hv=>h v (by simp [hv]))
   have h2:=(h w (by simp)).1
   have e:ksWs (w::ws)=(4,[44])::(3,w)::ksWs ws:=rfl
   rw [e,wts_cons,wts_cons,pc4,pc3]
   simp only [List.length_cons,List.length_nil]
   omega
theorem wts_R {r:Rul} (h:okR r):wts (ksR r)≤617:=by
 obtain ⟨k,c,ws,u⟩:=r
 obtain ⟨h1,h2,h3,h4⟩:=h
 simp only at h1 h2 h3 h4
 have a1:=(vkname h1).2.2.1
 have a2:=(vdigits h2).2.1
 have a3:wts (ksW ws)≤7+29 * ws.length:=by
  cases ws with
  | nil=>exact Nat.zero_le _
  | cons w ws=>
    have h5:=wts_ws ws (fun v hv=>h4 v (by simp [hv]))
    have h6:=(h4 w (by simp)).1
    have e:ksW (w::ws)=(1,[105,110])::(3,w)::ksWs ws:=rfl
    rw [e,wts_cons,wts_cons,pc1,pc3]
    simp only [List.length_cons,List.length_nil]
    omega
 have e:ksR (k,c,ws,u)=(1,kname k)::(2,dgs c)::(ksW ws++[(4,[59])]):=rfl
 rw [e,wts_cons,wts_cons,wts_app,wts_cons,wts_nil,pc1,pc2,pc4]
 simp only [List.length_cons,List.length_nil]
 omega
theorem wts_rs:∀ (rs:List Rul),(∀ r∈rs,okR r)→wts (rs.flatMap ksR)≤617 * rs.length
 | [],_=>Nat.le_refl _
 | r::rs,h=>by
   have h1:=wts_rs rs (fun x hx=>h x (by simp [hx]))
   have h2:=wts_R (h r (by simp))
   rw [List.flatMap_cons,wts_app,List.length_cons]
   omega
theorem wts_L {l:Lic} (h:lic l=0):wts (ksL l)≤19000:=by
 obtain ⟨h1,h2,h3⟩:=lic_okR h
 obtain ⟨nm,rs,u⟩:=l
 simp only at h1 h2 h3
 have a1:=wts_rs rs h3
 have a2:=(isNm_of h1).2.1
 have e:ksL (nm,rs,u)=(1,[108,105,99,101,110,99,101])::(1,nm)::(4,[123])::(rs.flatMap ksR++[(4,[125])]):=rfl
 rw [e,wts_cons,wts_cons,wts_cons,wts_app,wts_cons,wts_nil,pc1,pc1,pc4,pc4]
 simp only [List.length_cons,List.length_nil]
 omega
theorem fmtWs_len (ws:List (List UInt8)):(fmtWs ws).length≤wts (ksWs ws):=by
 induction ws with
 | nil=>exact Nat.le_refl _
 | cons w ws ih=>
   have e:ksWs (w::ws)=(4,[44])::(3,w)::ksWs ws:=rfl
   have e2:fmtWs (w::ws)=([44,32,34]++w++[34])++fmtWs ws:=rfl
   rw [e,e2,wts_cons,wts_cons,pc4,pc3]
   simp only [List.length_append,List.length_cons,List.length_nil]
   omega
theorem fmtR_len (r:Rul):(fmtR r).length≤wts (ksR r):=by
 obtain ⟨k,c,ws,u⟩:=r
 have a:(fmtW ws).length≤wts (ksW ws):=by
  cases ws with
  | nil=>exact Nat.le_refl _
  | cons w ws=>
    have:=fmtWs_len ws
    have e:ksW (w::ws)=(1,[105,110])::(3,w)::ksWs ws:=rfl
    have e2:fmtW (w::ws)=[32,105,110,32,34]++w++[34]++fmtWs ws:=rfl
    rw [e,e2,wts_cons,wts_cons,pc1,pc3]
    simp only [List.length_append,List.length_cons,List.length_nil]
    omega
 have e:ksR (k,c,ws,u)=(1,kname k)::(2,dgs c)::(ksW ws++[(4,[59])]):=rfl
 rw [e,wts_cons,wts_cons,wts_app,wts_cons,wts_nil,pc1,pc2,pc4]
 simp only [fmtR,List.length_append,List.length_cons,List.length_nil]
 omega
theorem fmtRs_len:∀ rs:List Rul,(rs.flatMap fmtR).length≤wts (rs.flatMap ksR)
 | []=>Nat.le_refl _
 | r::rs=>by
   have:=fmtRs_len rs
   have:=fmtR_len r
   rw [List.flatMap_cons,List.flatMap_cons,wts_app,List.length_append]
   omega
theorem fmt_len {l:Lic} (h:lic l=0):(fmt l).length≤19000:=by
 refine Nat.le_trans ?_ (wts_L h)
 obtain ⟨nm,rs,u⟩:=l
 have:=fmtRs_len rs
 have e:ksL (nm,rs,u)=(1,[108,105,99,101,110,99,101])::(1,nm)::(4,[123])::(rs.flatMap ksR++[(4,[125])]):=rfl
 rw [e,wts_cons,wts_cons,wts_cons,wts_app,wts_cons,wts_nil,pc1,pc1,pc4,pc4]
 simp only [fmt,List.length_append,List.length_cons,List.length_nil]
 omega
theorem decDigits_d3 (n:Nat) (h:n < 1000):Go.Lib.decDigits n=dig3 n:=by
 unfold dig3
 rw [Go.Lib.decDigits]
 split
 ·rfl
 ·rw [Go.Lib.decDigits]
  split
  ·rfl
  ·rw [Go.Lib.decDigits,dif_pos (by omega)]
   rfl
theorem vItoa {n:Int} (h:0≤n∧n≤999):S32 30000 n=some (dgs n):=by
 have e:Go.Lib.itoa n=dgs n:=by
  unfold Go.Lib.itoa
  rw [if_neg (by omega),decDigits_d3 _ (by omega)]
  rfl
 unfold S32
 rw [e]
theorem wS {a b:List UInt8} (h:a.length+b.length≤1000000):S30 30000 a b=some (a++b):=by
 unfold S30
 rw [if_pos (by omega)]
theorem sS {a:List UInt8} (h:a≠[]):S33 30000 a=some a:=by
 unfold S33
 rw [if_neg h]
theorem vpkname {k:Int} (h:1≤k∧k≤12):S31 30000 k=some (kname k):=by
 have h2:=(vKind (k.toNat - 1) (by omega)).1
 have e:((k.toNat - 1+1:Nat):Int)=k:=by omega
 rw [e] at h2
 exact h2
theorem pfmtW {R:Type} (k0:List UInt8→List Rul→Int→Int→List (List UInt8)→Int→Int→Option R) (rs:List Rul) (a b:Int):
  ∀ (ys pre:List (List UInt8)) (m:Nat) (out:List UInt8),ys.length < m→(pre++ys).length≤BIG→out.length+(fmtWs ys).length+(10 - 2 * min pre.length 1)≤1000000→
    ∃ out',out'=out++(if pre=[] then fmtW ys else fmtWs ys)∧l9_22 (S30 30000) k0 m out rs a b (pre++ys) ((pre++ys).length:Int) (pre.length:Int)=k0 out' rs a b (pre++ys) ((pre++ys).length:Int) ((pre++ys).length:Int):=by
 intro ys
 induction ys with
 | nil=>
   intro pre m out hm hb ho
   obtain ⟨m,rfl⟩:∃ k,m=k+1:=⟨m - 1,by simp at hm; omega⟩
   refine ⟨out,?_,?_⟩
   ·by_cases hp:pre=[]
    ·rw [if_pos hp]; simp [fmtW]
    ·rw [if_neg hp]; simp [fmtWs]
   ·unfold l9_22
    have:decide ((pre.length:Int) < (pre.length:Int))=false:=decide_eq_false (by omega)
    simp only [g9_0,g9_5,g9_3,g9_34,g9_8,g9_9,g9_25,g9_13,g9_14,g9_18,g9_20,g9_21,g9_22,g9_24,g9_27,g9_28,g9_29,g9_33,g9_35,g9,List.append_nil,this,bF]
 | cons y ys ih=>
   intro pre m out hm hb ho
   obtain ⟨m,rfl⟩:∃ k,m=k+1:=⟨m - 1,by simp at hm; omega⟩
   have hf:fmtWs (y::ys)=[44,32,34]++y++[34]++fmtWs ys:=rfl
   have hl:(fmtWs (y::ys)).length=4+y.length+(fmtWs ys).length:=by rw [hf]; simp only [List.length_append,List.length_cons,List.length_nil]; omega
   have key:∀ sep:List UInt8,sep.length+2 * min pre.length 1≤4→(∃ i:Int,(if (1:Int) < (pre.length:Int) then (1:Int) else (pre.length:Int))=i∧(0≤i∧i < (([([32,105,110,32]:List UInt8),([44,32]:List UInt8)].length:Nat):Int))∧i.toNat < [([32,105,110,32]:List UInt8),([44,32]:List UInt8)].length∧[([32,105,110,32]:List UInt8),([44,32]:List UInt8)].getD i.toNat []=sep)→
     ∃ out',out'=out++(sep++[34]++y++[34])++fmtWs ys∧l9_22 (S30 30000) k0 (m+1) out rs a b (pre++y::ys) ((pre++y::ys).length:Int) (pre.length:Int)=k0 out' rs a b (pre++y::ys) ((pre++y::ys).length:Int) ((pre++y::ys).length:Int):=by
    rintro sep hs ⟨i,e1,e2,e3,e4⟩
    have c1:sep.length+([34]:List UInt8).length≤140737488355328:=by simp only [List.length_cons,List.length_nil]; omega
    have c2:(sep++[34]).length+y.length≤140737488355328:=by simp only [List.length_append,List.length_cons,List.length_nil]; omega
    have c3:(sep++[34]++y).length+([34]:List UInt8).length≤140737488355328:=by simp only [List.length_append,List.length_cons,List.length_nil]; omega
    obtain ⟨out',h1,h2⟩:=ih (pre++[y]) m (out++(sep++[34]++y++[34])) (by simpa using hm) (by rw [←app_cons]; exact hb) (by simp only [List.length_append,List.length_cons,List.length_nil]; omega)
    rw [if_neg (by simp)] at h1
    rw [←app_cons pre ys y] at h2
    refine ⟨out',h1,?_⟩
    unfold l9_22
    simp only [g9_0,g9_5,g9_3,g9_34,g9_8,g9_9,g9_25,g9_13,g9_14,g9_18,g9_20,g9_21,g9_22,g9_24,g9_27,g9_28,g9_29,g9_33,g9_35,g9,lt_cons,in_cons,at_cons,if_true,bT,e1,if_pos e2,if_pos e3,e4,if_pos c1,if_pos c2,if_pos c3,wrap_snoc pre ys y hb]
    rw [wS (by simp only [List.length_append,List.length_cons,List.length_nil]; omega)]
    exact h2
   by_cases hp:pre=[]
   ·subst hp
    obtain ⟨out',h1,h2⟩:=key [32,105,110,32] (by decide) ⟨0,rfl,by decide,by decide,rfl⟩
    exact ⟨out',by rw [h1,if_pos rfl]; simp [fmtW],h2⟩
   ·have hpl:0 < pre.length:=List.length_pos_iff.2 hp
    obtain ⟨out',h1,h2⟩:=key [44,32] (by simp only [List.length_cons,List.length_nil]; omega) ⟨1,by split<;>omega,by decide,by decide,rfl⟩
    exact ⟨out',by rw [h1,if_neg hp,hf]; simp,h2⟩
theorem pfmtR {R:Type} (k0:List UInt8→List Rul→Int→Int→Option R):
  ∀ (ys pre:List Rul) (m:Nat) (out:List UInt8),ys.length < m→(pre++ys).length≤1000→(∀ r∈ys,okR r)→out.length+(ys.flatMap fmtR).length+30≤1000000→
    l9_29 30000 (S30 30000) (S31 30000) (S32 30000) k0 m out (pre++ys) ((pre++ys).length:Int) (pre.length:Int)=k0 (out++ys.flatMap fmtR) (pre++ys) ((pre++ys).length:Int) ((pre++ys).length:Int):=by
 intro ys
 induction ys with
 | nil=>
   intro pre m out hm hb hr ho
   obtain ⟨m,rfl⟩:∃ k,m=k+1:=⟨m - 1,by simp at hm; omega⟩
   unfold l9_29
   have:decide ((pre.length:Int) < (pre.length:Int))=false:=decide_eq_false (by omega)
   simp only [g9_0,g9_5,g9_3,g9_34,g9_8,g9_9,g9_25,g9_13,g9_14,g9_18,g9_20,g9_21,g9_22,g9_24,g9_27,g9_28,g9_29,g9_33,g9_35,g9,List.append_nil,this,bF,List.flatMap_nil]
 | cons y ys ih=>
   intro pre m out hm hb hr ho
   obtain ⟨m,rfl⟩:∃ k,m=k+1:=⟨m - 1,by simp at hm; omega⟩
   obtain ⟨k,c,ws,u⟩:=y
   obtain ⟨h1,h2,h3,h4⟩:=hr _ (List.mem_cons_self ..)
   simp only at h1 h2 h3 h4
   have hk:=vpkname h1
   have hd:=vItoa h2
   have hkl:=(vkname h1).2.2.1
   have hdl:=(vdigits h2).2.1
   have hl:(((k,c,ws,u)::ys).flatMap fmtR).length=5+(kname k).length+(dgs c).length+(fmtW ws).length+(ys.flatMap fmtR).length:=by
    rw [List.flatMap_cons,List.length_append]
    unfold fmtR; simp only [List.length_append,List.length_cons,List.length_nil]; omega
   have hf:((k,c,ws,u)::ys).flatMap fmtR=[32,32]++kname k++[32]++dgs c++fmtW ws++[59,10]++ys.flatMap fmtR:=rfl
   have hwl:(fmtWs ws).length≤(fmtW ws).length:=by
    cases ws with
    | nil=>simp [fmtWs]
    | cons w ws=>
      have e1:fmtWs (w::ws)=[44,32,34]++w++[34]++fmtWs ws:=rfl
      have e2:fmtW (w::ws)=[32,105,110,32,34]++w++[34]++fmtWs ws:=rfl
      rw [e1,e2]; simp only [List.length_append,List.length_cons,List.length_nil]; omega
   have c0:([32,32]:List UInt8).length+(kname k).length≤140737488355328:=by simp only [List.length_cons,List.length_nil]; omega
   have c1:(([32,32]:List UInt8)++kname k).length+([32]:List UInt8).length≤140737488355328:=by simp only [List.length_append,List.length_cons,List.length_nil]; omega
   have c2:(([32,32]:List UInt8)++kname k++[32]).length+(dgs c).length≤140737488355328:=by simp only [List.length_append,List.length_cons,List.length_nil]; omega
   have hbb:(pre++(k,c,ws,u)::ys).length≤BIG:=by unfold BIG; omega
   unfold l9_29
   simp only [g9_0,g9_5,g9_3,g9_34,g9_8,g9_9,g9_25,g9_13,g9_14,g9_18,g9_20,g9_21,g9_22,g9_24,g9_27,g9_28,g9_29,g9_33,g9_35,g9,lt_cons,in_cons,at_cons,if_true,bT,hk,hd,Option.bind_some,if_pos c0,if_pos c1,if_pos c2]
   rw [wS (by simp only [List.length_append,List.length_cons,List.length_nil]; omega)]
   have hw:=fun k0=>pfmtW (R:=R) k0 (pre++(k,c,ws,u)::ys) ((pre++(k,c,ws,u)::ys).length:Int) (pre.length:Int) ws [] 30000 (out++(([32,32]:List UInt8)++kname k++[32]++dgs c)) (by omega) (by unfold BIG; simp; omega) (by simp only [List.length_append,List.length_cons,List.length_nil]; omega)
   simp only [List.nil_append,if_true,List.length_nil,Int.natCast_zero] at hw
   have hw2:∀ k0:List UInt8→List Rul→Int→Int→List (List UInt8)→Int→Int→Option R,l9_22 (S30 30000) k0 30000 (out++(([32,32]:List UInt8)++kname k++[32]++dgs c)) (pre++(k,c,ws,u)::ys) ((pre++(k,c,ws,u)::ys).length:Int) (pre.length:Int) ws (ws.length:Int) 0=k0 (out++(([32,32]:List UInt8)++kname k++[32]++dgs c)++fmtW ws) (pre++(k,c,ws,u)::ys) ((pre++(k,c,ws,u)::ys).length:Int) (pre.length:Int) ws (ws.length:Int) (ws.length:Int):=by
    intro k0
    obtain ⟨o',e,h⟩:=hw k0
    rw [h,e]
   simp only [Option.bind_some]
   refine (hw2 _).trans ?_
   rw [wS (by simp only [List.length_append,List.length_cons,List.length_nil]; omega)]
   simp only [Option.bind_some,wrap_snoc pre ys (k,c,ws,u) hbb]
   rw [app_cons pre ys (k,c,ws,u)]
   refine (ih (pre++[(k,c,ws,u)]) m _ (by simpa using hm) (by rw [←app_cons]; exact hb) (fun r hx=>hr r (by simp [hx])) (by simp only [List.length_append,List.length_cons,List.length_nil]; omega)).trans ?_
   rw [hf]
   simp
theorem vPFormat (l:Lic) (hn:lic l=0∨lic l≠0):S9 30000 l=some (if lic l=0 then (fmt l,0) else ([],lic l)):=by
 have hv:=v13 l
 unfold S9
 simp only [g9_0,g9_5,g9_3,g9_34,g9_8,g9_9,g9_25,g9_13,g9_14,g9_18,g9_20,g9_21,g9_22,g9_24,g9_27,g9_28,g9_29,g9_33,g9_35,g9,hv,Option.bind_some]
 by_cases h:lic l=0
 ·have hl:=fmt_len h
  obtain ⟨h1,h2,h3⟩:=lic_okR h
  rw [if_pos h]
  have e0:(lic l != 0)=false:=by simpa using h
  obtain ⟨nm,rs,u⟩:=l
  simp only at h1 h2 h3
  have hl2:(fmt (nm,rs,u)).length=8+nm.length+3+(rs.flatMap fmtR).length+2:=by unfold fmt; simp only [List.length_append,List.length_cons,List.length_nil]
  have c0:([108,105,99,101,110,99,101,32]:List UInt8).length+nm.length≤140737488355328:=by simp only [List.length_cons,List.length_nil]; omega
  have c1:(([108,105,99,101,110,99,101,32]:List UInt8)++nm).length+([32,123,10]:List UInt8).length≤140737488355328:=by simp only [List.length_append,List.length_cons,List.length_nil]; omega
  simp only [e0,bF,if_pos c0,if_pos c1]
  rw [wS (by simp only [List.length_append,List.length_cons,List.length_nil]; omega)]
  have ll:=fun k0=>pfmtR (R:=List UInt8×Int) k0 rs [] 30000 ([]++(([108,105,99,101,110,99,101,32]:List UInt8)++nm++[32,123,10])) (by omega) (by simp; omega) h3 (by simp only [List.length_append,List.length_cons,List.length_nil]; omega)
  simp only [List.nil_append,List.length_nil,Int.natCast_zero] at ll
  simp only [Option.bind_some,List.nil_append]
  refine (ll _).trans ?_
  rw [wS (by simp only [List.length_append,List.length_cons,List.length_nil]; omega)]
  simp only [Option.bind_some]
  rw [sS (by simp)]
  rfl
 ·have e0:(lic l != 0)=true:=by simpa using h
  rw [if_neg h]
  simp only [e0,bT]
theorem pOut_ok (s:List UInt8):((pOut s).2.2=0→lic (pOut s).1=0)∧((pOut s).2.2≠0→(pOut s).1=([],([],()))):=by
 unfold pOut
 split
 ·cases pAll (tk s).1 with
  | inl f=>exact ⟨fun h=>by have h:(2:Int)=0:=h; omega,fun _=>rfl⟩
  | inr x=>
    unfold pEnd
    simp only
    cases pK x.2 with
    | some ln=>exact ⟨fun h=>by have h:(9:Int)=0:=h; omega,fun _=>rfl⟩
    | none=>
      simp only
      split
      ·rename_i h; exact ⟨fun _=>h,fun h=>absurd rfl h⟩
      ·rename_i h; exact ⟨fun h2=>absurd h2 h,fun _=>rfl⟩
 ·rename_i h
  exact ⟨fun h2=>absurd h2 h,fun _=>rfl⟩
theorem lic_small {l:Lic} (h:lic l=0):l.2.1.length < 30000∧∀ r∈l.2.1,r.2.2.1.length < 30000:=by
 have g:=lic_okR h
 exact ⟨by have:=g.2.1; omega,fun r hr=>by have:=(g.2.2 r hr).2.2.1; omega⟩
theorem again {l:Lic} (h:lic l=0):S6 30000 (fmt l)=some (l,0,0):=by
 have hl:=fmt_len h
 rw [vParse (fmt l) (by omega) (by omega),parse_TK (TK_fmt h) h]
theorem main3 (s:List UInt8) (i0:InR .str s) (z0:InZ reachBytes .str s):S3 30000 s=some true:=by
 unfold S3
 have e8:S5 30000=some true:=rfl
 simp only [g3_0,g3_1,g3_2,g3_13,g3_6,g3_7,g3_12,g3_14,g3,e8,Option.bind_some,Bool.not_true,bF]
 by_cases hs:(s.length:Int) > 0x7D0
 ·rw [decide_eq_true hs]; simp only [bT]
 ·rw [decide_eq_false hs]
  simp only [bF]
  have hne:∀ e:Int,(e != e)=false:=by intro e; simp
  have heq:∀ e:Int,(e==e)=true:=by intro e; simp
  simp only [vParse s (by omega) (by omega),vRParse s (by omega) (by omega),Option.bind_some,hne,bF]
  obtain ⟨o1,o2⟩:=pOut_ok s
  generalize pOut s=o at o1 o2
  obtain ⟨l,ln,e⟩:=o
  simp only at o1 o2 ⊢
  have hsm:l.2.1.length < 30000∧∀ r∈l.2.1,r.2.2.1.length < 30000:=by
   by_cases he:e=0
   ·exact lic_small (o1 he)
   ·rw [o2 he]; exact ⟨by simp,by simp⟩
  simp only [v8 l l hsm.1 hsm.2,Option.bind_some,sameL_refl,Bool.not_true,bF]
  by_cases he:e=0
  ·have e1:(e != 0)=false:=by simpa using he
   have hl:=o1 he
   simp only [e1,bF,vPFormat l (.inl hl),if_pos hl,Option.bind_some,again hl,heq,bT,v8 l l hsm.1 hsm.2,sameL_refl]
  ·have e1:(e != 0)=true:=by simpa using he
   simp only [e1,bT,heq]
end Go.Fw.L19
