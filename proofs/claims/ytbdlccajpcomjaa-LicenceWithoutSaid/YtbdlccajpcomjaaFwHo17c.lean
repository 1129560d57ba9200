/- Licences: the program's and the reference's errors agree. -/
import Derived.Test.YtbdlccajpcomjaaFwMo17
import Derived.Test.YtbdlccajpcomjaaFwB6
set_option linter.unusedVariables false
set_option linter.unusedSimpArgs false
namespace Go.Fw.L19
open Go Go.Fw
set_option maxRecDepth 100000
abbrev Rul:Type:=Int×(Int×(List (List UInt8)×Unit))
abbrev Lic:Type:=List UInt8×(List Rul×Unit)
def sm (c:Int):Bool:=decide (c≥97)&&decide (c≤122)
def dg (c:Int):Bool:=decide (c≥48)&&decide (c≤57)
theorem v76 (c:Int):S76 2000 c=some (sm c):=by
 unfold S76 sm
 simp only [g76_2,g76_2b,g76]
 cases decide (c≥97)<;>rfl
theorem v72 (c:Int):S72 2000 c=some (sm c):=by
 unfold S72 sm
 simp only [g72_2,g72_2b,g72]
 cases decide (c≥97)<;>rfl
theorem v77 (c:Int):S77 2000 c=some (dg c):=by
 unfold S77 dg
 simp only [g77_2,g77_2b,g77]
 cases decide (c≥48)<;>rfl
theorem v73 (c:Int):S73 2000 c=some (dg c):=by
 unfold S73 dg
 simp only [g73_2,g73_2b,g73]
 cases decide (c≥48)<;>rfl
theorem lname (s:List UInt8) (hs:s.length≤BIG) {R:Type} (k:Int→Option R):
  ∀ (m:Nat) (i:Int),0≤i→i≤s.length+1→l65_18 (S76 2000) (S77 2000) k (fun _ i=>k i) m s i=l54_15 (S72 2000) (S73 2000) (fun _ i=>k i) m s i:=by
 intro m
 induction m with
 | zero=>intro i _ _; rfl
 | succ m ih=>
   intro i h0 h1
   unfold l65_18 l54_15
   simp only [g65_0,g65_1,g65_2,g65_4,g65_5,g65_7,g65_8,g65_9,g65_10,g65_11,g65_12,g65_17,g65_18,g65_20,g65_21,g65,g54_0,g54_1,g54_2,g54_4,g54_5,g54_7,g54_8,g54_10,g54_12,g54_14,g54_15,g54_17,g54_18,g54,v76,v77,v72,v73,Option.bind_some]
   by_cases hi:i < (s.length:Int)
   ·have d:decide (i < (s.length:Int))=true:=decide_eq_true hi
    have hb:0≤i∧i < (s.length:Int):=⟨h0,hi⟩
    have w1:IntKind.i64.wrap (i+1)=i+1:=wrap_id (by unfold BIG at hs; omega)
    have w2:IntKind.i64.wrap (i+2)=i+2:=wrap_id (by unfold BIG at hs; omega)
    simp only [d,brB_true,if_pos hb,w1,w2]
    generalize hc:((s.getD i.toNat 0).toNat:Int)=c
    cases h3:sm c with
    | true=>simp only [brB_true]; exact ih (i+1) (by omega) (by omega)
    | false=>
      simp only [brB_false]
      cases h4:dg c with
      | true=>simp only [brB_true]; exact ih (i+1) (by omega) (by omega)
      | false=>
        simp only [brB_false]
        by_cases h5:c=45
        ·have e1:(c==(45:Int))=true:=by simpa using h5
         have e2:(c != (45:Int))=false:=by simp [h5]
         simp only [e1,e2,brB_true,brB_false]
         by_cases h6:i+1 < (s.length:Int)
         ·have e3:decide (i+1 < (s.length:Int))=true:=decide_eq_true h6
          have e4:((i+1)==(s.length:Int))=false:=by
           simp only [beq_eq_false_iff_ne,ne_eq]; omega
          have hb2:0≤i+1∧i+1 < (s.length:Int):=by omega
          simp only [e3,e4,brB_true,brB_false,if_pos hb2]
          generalize ((s.getD (i+1).toNat 0).toNat:Int)=c2
          cases h7:sm c2 with
          | true=>simp only [brB_true,Bool.not_true,brB_false]; exact ih (i+2) (by omega) (by omega)
          | false=>
            simp only [brB_false,Bool.not_false,brB_true]
            cases h8:dg c2 with
            | true=>simp only [brB_true,Bool.not_true,brB_false]; exact ih (i+2) (by omega) (by omega)
            | false=>simp only [brB_false,Bool.not_false,brB_true]
         ·have e3:decide (i+1 < (s.length:Int))=false:=decide_eq_false h6
          have e4:((i+1)==(s.length:Int))=true:=by
           simp only [beq_iff_eq]; omega
          simp only [e3,e4,brB_true,brB_false]
        ·have e1:(c==(45:Int))=false:=by simpa using h5
         have e2:(c != (45:Int))=true:=by simpa using h5
         simp only [e1,e2,brB_true,brB_false]
   ·have d:decide (i < (s.length:Int))=false:=decide_eq_false hi
    simp only [d,brB_false]
theorem lname_some (s:List UInt8) (hs:s.length≤BIG):
  ∀ (m:Nat) (i:Int),0≤i→i≤s.length+1→(s.length:Int)+1 - i < m→∃ n,l54_15 (S72 2000) (S73 2000) (fun _ i=>some i) m s i=some n:=by
 intro m
 induction m with
 | zero=>intro i h0 h1 h2; omega
 | succ m ih=>
   intro i h0 h1 h2
   unfold l54_15
   simp only [g54_0,g54_1,g54_2,g54_4,g54_5,g54_7,g54_8,g54_10,g54_12,g54_14,g54_15,g54_17,g54_18,g54,v72,v73,Option.bind_some]
   by_cases hi:i < (s.length:Int)
   ·have d:decide (i < (s.length:Int))=true:=decide_eq_true hi
    have hb:0≤i∧i < (s.length:Int):=⟨h0,hi⟩
    have w1:IntKind.i64.wrap (i+1)=i+1:=wrap_id (by unfold BIG at hs; omega)
    have w2:IntKind.i64.wrap (i+2)=i+2:=wrap_id (by unfold BIG at hs; omega)
    simp only [d,brB_true,if_pos hb,w1,w2]
    generalize hc:((s.getD i.toNat 0).toNat:Int)=c
    cases h3:sm c with
    | true=>simp only [brB_true]; exact ih (i+1) (by omega) (by omega) (by omega)
    | false=>
      simp only [brB_false]
      cases h4:dg c with
      | true=>simp only [brB_true]; exact ih (i+1) (by omega) (by omega) (by omega)
      | false=>
        simp only [brB_false]
        cases e2:(c != (45:Int)) with
        | true=>exact ⟨i,by simp only [brB_true]⟩
        | false=>
          simp only [brB_false]
          by_cases h6:i+1 < (s.length:Int)
          ·have e4:((i+1)==(s.length:Int))=false:=by
            simp only [beq_eq_false_iff_ne,ne_eq]; omega
           have hb2:0≤i+1∧i+1 < (s.length:Int):=by omega
           simp only [e4,brB_false,if_pos hb2]
           generalize ((s.getD (i+1).toNat 0).toNat:Int)=c2
           cases h7:sm c2 with
           | true=>simp only [Bool.not_true,brB_false]; exact ih (i+2) (by omega) (by omega) (by omega)
           | false=>
             simp only [Bool.not_false,brB_true]
             cases h8:dg c2 with
             | true=>simp only [Bool.not_true,brB_false]; exact ih (i+2) (by omega) (by omega) (by omega)
             | false=>exact ⟨i,by simp only [Bool.not_false,brB_true]⟩
          ·have e4:((i+1)==(s.length:Int))=true:=by
            simp only [beq_iff_eq]; omega
           exact ⟨i,by simp only [e4,brB_true]⟩
   ·have d:decide (i < (s.length:Int))=false:=decide_eq_false hi
    exact ⟨i,by simp only [d,brB_false]⟩
theorem v65 (s:List UInt8) (hs:s.length < 1900):∃ n,S65 2000 s=some n∧S54 2000 s=some n:=by
 have hb:s.length≤BIG:=by unfold BIG; omega
 have e1:=lname s hb (R:=Int) some 2000 1 (by omega) (by omega)
 obtain ⟨n,e2⟩:=lname_some s hb 2000 1 (by omega) (by omega) (by omega)
 unfold S65 S54
 simp only [g65_0,g65_1,g65_2,g65_4,g65_5,g65_7,g65_8,g65_9,g65_10,g65_11,g65_12,g65_17,g65_18,g65_20,g65_21,g65,g54_0,g54_1,g54_2,g54_4,g54_5,g54_7,g54_8,g54_10,g54_12,g54_14,g54_15,g54_17,g54_18,g54,v76,v72,Option.bind_some]
 cases h0:(s==([]:List UInt8)) with
 | true=>exact ⟨0,by simp only [brB_true],by simp only [brB_true]⟩
 | false=>
   have hne:s≠[]:=by simpa using h0
   have hp:0 < s.length:=List.length_pos_iff.2 hne
   have hb0:(0:Int)≤0∧(0:Int) < (s.length:Int):=by omega
   simp only [brB_false,if_pos hb0]
   cases sm ((s.getD (0:Int).toNat 0).toNat:Int) with
   | false=>exact ⟨0,by simp only [Bool.not_false,brB_true],by simp only [Bool.not_false,brB_true]⟩
   | true=>
     refine ⟨n,?_,?_⟩
     ·simp only [Bool.not_true,brB_false]
      rw [e2] at e1; exact e1
     ·simp only [Bool.not_true,brB_false]
      exact e2
theorem v42 (s:List UInt8):∃ b,S42 2000 s=some b∧S27 2000 s=some b:=by
 unfold S42 S27
 simp only [g42_2,g42_2b,g42,g27_2,g27_2b,g27]
 cases h0:(s != ([]:List UInt8)) with
 | false=>exact ⟨false,by simp only [brB_false],by simp only [brB_false]⟩
 | true=>
   simp only [brB_true]
   by_cases h1:(s.length:Int)≤20
   ·obtain ⟨n,e1,e2⟩:=v65 s (by omega)
    have d:decide ((s.length:Int)≤20)=true:=decide_eq_true h1
    exact ⟨n==(s.length:Int),by simp only [d,brB_true,e1,Option.bind_some],by simp only [d,brB_true,e2,Option.bind_some]⟩
   ·have d:decide ((s.length:Int)≤20)=false:=decide_eq_false h1
    exact ⟨false,by simp only [d,brB_false],by simp only [d,brB_false]⟩
def lett (c:Int):Bool:=match S74 2000 c with | some b=>b | none=>false
theorem letters_ok:((List.range 256).all fun n=>S89 2000 (n:Int)==some (lett (n:Int))&&S74 2000 (n:Int)==some (lett (n:Int)))=true:=by kernel_rfl
theorem vlett (b:UInt8):S89 2000 (b.toNat:Int)=some (lett (b.toNat:Int))∧S74 2000 (b.toNat:Int)=some (lett (b.toNat:Int)):=by
 have:=List.all_eq_true.1 letters_ok b.toNat (List.mem_range.2 b.toNat_lt)
 simp only [Bool.and_eq_true,beq_iff_eq] at this
 exact this
def fl (b:UInt8):UInt8:=if 65≤b.toNat∧b.toNat≤90 then UInt8.ofNat (b.toNat+32) else b
def fold (s:List UInt8):List UInt8:=s.map fl
theorem fl_int (b:UInt8) (h:65≤b.toNat∧b.toNat≤90):IntKind.u8.wrap (IntKind.u8.wrap ((b.toNat:Int) - 65)+97)=((fl b).toNat:Int):=by
 have e:(fl b).toNat=b.toNat+32:=by
  unfold fl; rw [if_pos h]
  simp [UInt8.toNat_ofNat]
  omega
 rw [e]
 have w:∀ n:Int,0≤n→n≤255→IntKind.u8.wrap n=n:=by
  intro n h0 h1
  simp only [IntKind.wrap,IntKind.signed,IntKind.bits]
  simp
  omega
 rw [w ((b.toNat:Int) - 65) (by omega) (by omega),w ((b.toNat:Int) - 65+97) (by omega) (by omega)]
 omega
theorem back_map (s:List UInt8):(s.map fun b=>(b.toNat:Int)).map (fun n=>UInt8.ofNat n.toNat)=s:=by
 rw [List.map_map]
 conv=>rhs; rw [←List.map_id s]
 apply List.map_congr_left
 intro b _
 simp
theorem set_at {α:Type} (pre ys:List α) (y z:α):(pre++y::ys).set (Int.toNat (pre.length:Int)) z=pre++z::ys:=by simp
theorem lt_at {α:Type} (pre ys:List α) (y:α):(Int.toNat (pre.length:Int) < (pre++y::ys).length)=True:=by simp
theorem lfold {R:Type} (k0:List Int→Int→Int→Option R):
  ∀ (ys:List UInt8) (pre:List Int) (m:Nat),ys.length < m→(pre++ys.map fun b=>(b.toNat:Int)).length≤BIG→
    l44_13 k0 m (pre++ys.map fun b=>(b.toNat:Int)) ((pre++ys.map fun b=>(b.toNat:Int)).length:Int) (pre.length:Int)=k0 (pre++(fold ys).map fun b=>(b.toNat:Int)) ((pre++ys.map fun b=>(b.toNat:Int)).length:Int) ((pre++ys.map fun b=>(b.toNat:Int)).length:Int):=by
 intro ys
 induction ys with
 | nil=>
   intro pre m hm hb
   cases m with
   | zero=>simp at hm
   | succ m=>
     unfold l44_13
     simp only [g44_16,g44_2,g44_3,g44_9,g44_7,g44_10,g44_11,g44_12,g44_13,g44_15,g44_16b,g44,List.map_nil,lt_nil,brB_false]
     simp [fold]
 | cons y ys ih=>
   intro pre m hm hb
   cases m with
   | zero=>simp at hm
   | succ m=>
     rw [List.map_cons] at hb ⊢
     unfold l44_13
     simp only [g44_16,g44_2,g44_3,g44_9,g44_7,g44_10,g44_11,g44_12,g44_13,g44_15,g44_16b,g44,lt_cons,in_cons,at_cons,if_true,brB_true,lt_at,set_at,wrap_snoc pre _ _ hb]
     by_cases h1:65≤y.toNat∧y.toNat≤90
     ·have d1:decide ((y.toNat:Int)≥65)=true:=decide_eq_true (by omega)
      have d2:decide ((y.toNat:Int)≤90)=true:=decide_eq_true (by omega)
      simp only [d1,d2,brB_true,fl_int y h1]
      have:=ih (pre++[((fl y).toNat:Int)]) m (by simpa using hm) (by simpa using hb)
      simp only [List.append_assoc,List.singleton_append,List.length_append,List.length_cons,List.length_map,List.length_nil] at this ⊢
      simp only [fold,List.map_cons] at this ⊢
      exact this
     ·have hf:fl y=y:=by unfold fl; rw [if_neg h1]
      have step:=ih (pre++[(y.toNat:Int)]) m (by simpa using hm) (by simpa using hb)
      simp only [List.append_assoc,List.singleton_append,List.length_append,List.length_cons,List.length_map,List.length_nil] at step ⊢
      simp only [fold,List.map_cons,hf] at step ⊢
      by_cases h2:65≤y.toNat
      ·have d1:decide ((y.toNat:Int)≥65)=true:=decide_eq_true (by omega)
       have d2:decide ((y.toNat:Int)≤90)=false:=decide_eq_false (by omega)
       simp only [d1,d2,brB_true,brB_false]
       exact step
      ·have d1:decide ((y.toNat:Int)≥65)=false:=decide_eq_false (by omega)
       simp only [d1,brB_false]
       exact step
theorem v44 (s:List UInt8) (hs:s.length < 2000):S44 2000 s=some (fold s):=by
 unfold S44
 have:=lfold (R:=List UInt8) (fun x _ _=>some (x.map fun n=>UInt8.ofNat n.toNat)) s [] 2000 hs (by unfold BIG; simp; omega)
 simp only [g44_16,g44_2,g44_3,g44_9,g44_7,g44_10,g44_11,g44_12,g44_13,g44_15,g44_16b,g44]
 simp only [List.nil_append,List.length_nil,back_map] at this
 exact this
theorem lfoldr {R:Type} (k0:List UInt8→List Int→Int→Option R):
  ∀ (ys pre:List UInt8) (m:Nat),ys.length < m→(pre++ys).length≤BIG→
    l49_13 k0 m (pre++ys) ((fold pre).map (fun b=>(b.toNat:Int))++List.replicate ys.length 0) (pre.length:Int)=k0 (pre++ys) ((fold (pre++ys)).map fun b=>(b.toNat:Int)) ((pre++ys).length:Int):=by
 intro ys
 induction ys with
 | nil=>
   intro pre m hm hb
   cases m with
   | zero=>simp at hm
   | succ m=>
     unfold l49_13
     simp only [g49_16,g49_2,g49_3,g49_9,g49_7,g49_10,g49_11,g49_12,g49_13,g49_15,g49_16b,g49,lt_nil,brB_false]
     simp
 | cons y ys ih=>
   intro pre m hm hb
   cases m with
   | zero=>simp at hm
   | succ m=>
     have hpl:((fold pre).map (fun b=>(b.toNat:Int))).length=pre.length:=by simp [fold]
     have e1:∀ z:Int,(((fold pre).map (fun b=>(b.toNat:Int))++z::List.replicate ys.length 0).length:Int)=((pre++y::ys).length:Int):=by intro z; simp [fold]
     have e2:∀ z z2:Int,((fold pre).map (fun b=>(b.toNat:Int))++z::List.replicate ys.length 0).set (Int.toNat (pre.length:Int)) z2=(fold pre).map (fun b=>(b.toNat:Int))++z2::List.replicate ys.length 0:=by
      intro z z2
      have:=set_at ((fold pre).map (fun b=>(b.toNat:Int))) (List.replicate ys.length 0) z z2
      rw [hpl] at this; exact this
     have e3:∀ z:Int,(Int.toNat (pre.length:Int) < ((fold pre).map (fun b=>(b.toNat:Int))++z::List.replicate ys.length 0).length)=True:=by intro z; simp [fold]
     rw [List.length_cons,List.replicate_succ]
     unfold l49_13
     simp only [g49_16,g49_2,g49_3,g49_9,g49_7,g49_10,g49_11,g49_12,g49_13,g49_15,g49_16b,g49,e1,e2,e3,lt_cons,in_cons,at_cons,if_true,brB_true,wrap_snoc pre _ _ hb]
     have fin:(fold (pre++[y])).map (fun b=>(b.toNat:Int))=(fold pre).map (fun b=>(b.toNat:Int))++[((fl y).toNat:Int)]:=by simp [fold]
     have step:=ih (pre++[y]) m (by simpa using hm) (by simpa using hb)
     rw [fin] at step
     simp only [List.append_assoc,List.singleton_append] at step
     by_cases h1:65≤y.toNat∧y.toNat≤90
     ·have d1:decide ((y.toNat:Int)≥65)=true:=decide_eq_true (by omega)
      have d2:decide ((y.toNat:Int)≤90)=true:=decide_eq_true (by omega)
      simp only [d1,d2,brB_true,fl_int y h1]
      exact step
     ·have hf:fl y=y:=by unfold fl; rw [if_neg h1]
      rw [hf] at step
      by_cases h2:65≤y.toNat
      ·have d1:decide ((y.toNat:Int)≥65)=true:=decide_eq_true (by omega)
       have d2:decide ((y.toNat:Int)≤90)=false:=decide_eq_false (by omega)
       simp only [d1,d2,brB_true,brB_false]
       exact step
      ·have d1:decide ((y.toNat:Int)≥65)=false:=decide_eq_false (by omega)
       simp only [d1,brB_false]
       exact step
theorem v49 (s:List UInt8) (hs:s.length < 2000):S49 2000 s=some (fold s):=by
 unfold S49
 have:=lfoldr (R:=List UInt8) (fun _ x _=>some (x.map fun n=>UInt8.ofNat n.toNat)) s [] 2000 hs (by unfold BIG; simp; omega)
 have hb:0≤(s.length:Int)∧(s.length:Int)≤(s.length:Int)∧(s.length:Int)≤((140737488355328:Nat):Int):=by omega
 simp only [g49_16,g49_2,g49_3,g49_9,g49_7,g49_10,g49_11,g49_12,g49_13,g49_15,g49_16b,g49,if_pos hb,Int.toNat_natCast]
 simp only [List.nil_append,List.length_nil,back_map,fold,List.map_nil] at this
 exact this
end Go.Fw.L19
