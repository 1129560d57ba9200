/- Licences: words, rules, their errors: program and reference. -/
import Derived.Test.YtbdlccajpcomjaaFwHo17c
set_option linter.unusedVariables false
set_option linter.unusedSimpArgs false
namespace Go.Fw.L19
open Go Go.Fw
set_option maxRecDepth 100000
theorem lhas {R:Type} (k0:Bool→Option R) (k1:List (List UInt8)→List UInt8→Int→Option R) (v:List UInt8):
  ∀ (ys pre:List (List UInt8)) (m:Nat),ys.length < m→(pre++ys).length≤BIG→(∀ a b c,k1 a b c=k0 false)→
    l50_10 k0 k1 m (pre++ys) v (pre.length:Int)=k0 (ys.contains v):=by
 intro ys
 induction ys with
 | nil=>
   intro pre m hm hb hk
   cases m with
   | zero=>simp at hm
   | succ m=>
     unfold l50_10
     simp only [g50_0,g50_1,g50_2,g50_4,g50_5,g50_8,g50_9,g50_10,g50_12,g50_13,g50,lt_nil,brB_false,hk]
     rfl
 | cons y ys ih=>
   intro pre m hm hb hk
   cases m with
   | zero=>simp at hm
   | succ m=>
     unfold l50_10
     simp only [g50_0,g50_1,g50_2,g50_4,g50_5,g50_8,g50_9,g50_10,g50_12,g50_13,g50,lt_cons,in_cons,at_cons,if_true,brB_true]
     have hcm:(y==v)=(v==y):=by
      rw [Bool.eq_iff_iff]; simp only [beq_iff_eq]; exact eq_comm
     rw [List.contains_cons,hcm]
     cases hv:(v==y) with
     | true=>simp only [brB_true,Bool.true_or]
     | false=>
       simp only [brB_false,Bool.false_or,wrap_snoc pre ys y hb]
       rw [app_cons pre ys y,ih (pre++[y]) m (by simpa using hm) (by rw [←app_cons]; exact hb) hk]
theorem v50 (l:List (List UInt8)) (v:List UInt8) (hl:l.length < 2000):S50 2000 l v=some (l.contains v):=by
 have:=lhas (R:=Bool) some (fun _ _ _=>some false) v l [] 2000 hl (by unfold BIG; simp; omega) (fun _ _ _=>rfl)
 unfold S50
 simp only [g50_0,g50_1,g50_2,g50_4,g50_5,g50_8,g50_9,g50_10,g50_12,g50_13,g50]
 simpa using this
theorem lindexS {R:Type} (k0:Int→Option R) (k1:List (List UInt8)→List UInt8→Int→Int→Option R) (v:List UInt8):
  ∀ (ys pre:List (List UInt8)) (m:Nat),ys.length < m→(pre++ys).length≤BIG→(∀ a b c d,k1 a b c d=k0 (-1))→
    ∃ j:Int,l84_12 k0 k1 m (pre++ys) v ((pre++ys).length:Int) (pre.length:Int)=k0 j∧(decide (0≤j)=ys.contains v):=by
 intro ys
 induction ys with
 | nil=>
   intro pre m hm hb hk
   cases m with
   | zero=>simp at hm
   | succ m=>
     refine ⟨-1,?_,rfl⟩
     unfold l84_12
     simp only [g84_0,g84_1,g84_2,g84_8,g84_6,g84_10,g84_11,g84_12,g84_14,g84_15,g84,lt_nil,brB_false,hk]
 | cons y ys ih=>
   intro pre m hm hb hk
   cases m with
   | zero=>simp at hm
   | succ m=>
     unfold l84_12
     simp only [g84_0,g84_1,g84_2,g84_8,g84_6,g84_10,g84_11,g84_12,g84_14,g84_15,g84,lt_cons,in_cons,at_cons,if_true,brB_true]
     cases hv:(v==y) with
     | true=>exact ⟨(pre.length:Int),by simp only [brB_true],by rw [List.contains_cons,hv]; simp⟩
     | false=>
       obtain ⟨j,h1,h2⟩:=ih (pre++[y]) m (by simpa using hm) (by rw [←app_cons]; exact hb) hk
       refine ⟨j,?_,by rw [h2,List.contains_cons,hv]; simp⟩
       simp only [brB_false,wrap_snoc pre ys y hb]
       rw [app_cons pre ys y,h1]
theorem v67 (l:List (List UInt8)) (v:List UInt8) (hl:l.length < 2000):S67 2000 l v=some (l.contains v):=by
 obtain ⟨j,h1,h2⟩:=lindexS (R:=Int) some (fun _ _ _ _=>some (-1)) v l [] 2000 hl (by unfold BIG; simp; omega) (fun _ _ _ _=>rfl)
 have hi:S84 2000 l v=some j:=by
  unfold S84
  simp only [g84_0,g84_1,g84_2,g84_8,g84_6,g84_10,g84_11,g84_12,g84_14,g84_15,g84]
  simpa using h1
 unfold S67
 simp only [g67_2,g67_2b,g67,hi,Option.bind_some,ge_iff_le,h2]
def bad (w:List UInt8):Bool:=w.any fun b=>!lett (b.toNat:Int)
def wd (w:List UInt8):Int:=if 16 < w.length then 3 else if w=[]∨fold w≠w∨bad w=true then 2 else 0
theorem lbytes {R:Type} (f:Int×Unit→Option Bool) (p:UInt8→Bool) (hf:∀ b:UInt8,f ((b.toNat:Int),())=some (p b)) (k0:Int→Option R) (k1:List Int→(Int×Unit→Option Bool)→Int→Int→Option R):
  ∀ (ys:List UInt8) (pre:List Int) (m:Nat),ys.length < m→(pre++ys.map fun b=>(b.toNat:Int)).length≤BIG→(∀ a b c d,k1 a b c d=k0 (-1))→
    ∃ j:Int,l92_12 k0 k1 m (pre++ys.map fun b=>(b.toNat:Int)) f ((pre++ys.map fun b=>(b.toNat:Int)).length:Int) (pre.length:Int)=k0 j∧(decide (0≤j)=ys.any p):=by
 intro ys
 induction ys with
 | nil=>
   intro pre m hm hb hk
   cases m with
   | zero=>simp at hm
   | succ m=>
     refine ⟨-1,?_,rfl⟩
     unfold l92_12
     simp only [g92_0,g92_1,g92_2,g92_8,g92_6,g92_10,g92_11,g92_12,g92_14,g92_15,g92,List.map_nil,lt_nil,brB_false,hk]
 | cons y ys ih=>
   intro pre m hm hb hk
   cases m with
   | zero=>simp at hm
   | succ m=>
     rw [List.map_cons] at hb ⊢
     unfold l92_12
     simp only [g92_0,g92_1,g92_2,g92_8,g92_6,g92_10,g92_11,g92_12,g92_14,g92_15,g92,lt_cons,in_cons,at_cons,if_true,brB_true,hf,Option.bind_some]
     cases hv:p y with
     | true=>exact ⟨(pre.length:Int),by simp only [brB_true],by rw [List.any_cons,hv]; simp⟩
     | false=>
       obtain ⟨j,h1,h2⟩:=ih (pre++[(y.toNat:Int)]) m (by simpa using hm) (by rw [←app_cons]; exact hb) hk
       refine ⟨j,?_,by rw [h2,List.any_cons,hv]; simp⟩
       simp only [brB_false,wrap_snoc pre _ _ hb]
       rw [app_cons pre _ _,h1]
theorem v87 (f:Int×Unit→Option Bool) (p:UInt8→Bool) (hf:∀ b:UInt8,f ((b.toNat:Int),())=some (p b)) (w:List UInt8) (hw:w.length < 2000):S87 2000 (w.map fun b=>(b.toNat:Int)) f=some (w.any p):=by
 obtain ⟨j,h1,h2⟩:=lbytes f p hf (R:=Int) some (fun _ _ _ _=>some (-1)) w [] 2000 hw (by unfold BIG; simp; omega) (fun _ _ _ _=>rfl)
 have hi:S92 2000 (w.map fun b=>(b.toNat:Int)) f=some j:=by
  unfold S92
  simp only [g92_0,g92_1,g92_2,g92_8,g92_6,g92_10,g92_11,g92_12,g92_14,g92_15,g92]
  simpa using h1
 unfold S87
 simp only [g87_2,g87_2b,g87,hi,Option.bind_some,ge_iff_le,h2]
theorem v88 (b:UInt8):S88 2000 (b.toNat:Int)=some (!lett (b.toNat:Int)):=by
 unfold S88
 simp only [g88_2,g88_2b,g88,(vlett b).1,Option.bind_some]
theorem v83 (w:List UInt8) (hw:w.length≤16):S83 2000 [w]=some (if w=[] then ([],7) else if bad w=true then ([],2) else (w,0)):=by
 unfold S83
 have e1:decide ((0:Int) < (([w]:List (List UInt8)).length:Int))=true:=rfl
 have e2:((0:Int)≤0∧(0:Int) < (([w]:List (List UInt8)).length:Int))=True:=by simp
 have e3:IntKind.i64.wrap ((0:Int)+1)=1:=rfl
 have e4:decide ((1:Int) < (([w]:List (List UInt8)).length:Int))=false:=rfl
 have e5:([w]:List (List UInt8)).getD (Int.toNat 0) []=w:=rfl
 have ej:S90 2000 [w] [32]=some w:=rfl
 have e6:decide ((w.length:Int) > 120)=false:=decide_eq_false (by omega)
 have ec:=v87 (fun x=>((S88 2000 x.1).bind fun b=>some [.v .bool b]).bind (unE .bool)) (fun b=>!lett (b.toNat:Int)) (fun b=>by simp only [v88,Option.bind_some]; rfl) w (by omega)
 have l1:∀ (m:Nat) {R:Type} (k0:List UInt8→Int→Option R) (k1:List (List UInt8)→List (List UInt8)→Int→Int→Option R),l83_14 (S87 2000) (S88 2000) k0 k1 (m+2) [w] [w] 1 0=if w=[] then k0 [] 7 else if bad w=true then k0 [] 2 else k1 [w] [w] 1 1:=by
  intro m R k0 k1
  unfold l83_14
  have f1:decide ((0:Int) < 1)=true:=rfl
  simp only [g83_0,g83_1,g83_2,g83_4,g83_5,g83_6,g83_8,g83_9,g83_12,g83_13,g83_14,g83_16,g83_17,g83_18,g83_20,g83_21,g83,f1,brB_true,e2,if_true,e5]
  by_cases h0:w=[]
  ·have:(w==([]:List UInt8))=true:=by simpa using h0
   simp only [this,brB_true,if_pos h0]
  ·have:(w==([]:List UInt8))=false:=by simpa using h0
   simp only [this,brB_false,if_neg h0]
   rw [ec]
   simp only [Option.bind_some]
   change brB (bad w) _ _=_
   cases hb:bad w with
   | true=>simp only [brB_true,if_true]
   | false=>
     simp only [brB_false,Bool.false_eq_true,if_false,e3]
     unfold l83_14
     have f2:decide ((1:Int) < 1)=false:=rfl
     simp only [g83_0,g83_1,g83_2,g83_4,g83_5,g83_6,g83_8,g83_9,g83_12,g83_13,g83_14,g83_16,g83_17,g83_18,g83_20,g83_21,g83,f2,brB_false]
 simp only [g83_0,g83_1,g83_2,g83_4,g83_5,g83_6,g83_8,g83_9,g83_12,g83_13,g83_14,g83_16,g83_17,g83_18,g83_20,g83_21,g83]
 have el:(([w]:List (List UInt8)).length:Int)=1:=rfl
 rw [el,l1 1998]
 by_cases h0:w=[]
 ·simp only [if_pos h0]
 ·simp only [if_neg h0]
  cases hb:bad w with
  | true=>simp only [if_true]
  | false=>simp only [Bool.false_eq_true,if_false,ej,Option.bind_some,e6,brB_false]
theorem v66 (w:List UInt8):S66 2000 w=some (wd w):=by
 unfold S66 wd
 simp only [g66_0,g66_1,g66_2,g66_8,g66_6,g66_9,g66_10,g66]
 by_cases h1:16 < w.length
 ·have d:decide ((w.length:Int) > 16)=true:=decide_eq_true (by omega)
  simp only [d,brB_true,if_pos h1]
 ·have d:decide ((w.length:Int) > 16)=false:=decide_eq_false (by omega)
  simp only [d,brB_false,if_neg h1,v83 w (by omega),Option.bind_some,v44 w (by omega)]
  by_cases h2:w=[]
  ·simp only [if_pos h2,h2,true_or,if_true]
   rfl
  ·simp only [if_neg h2]
   cases hb:bad w with
   | true=>
     simp only [if_true,h2,false_or,or_true]
     rfl
   | false=>
     simp only [Bool.false_eq_true,if_false,h2,false_or,or_false]
     have e0:((0:Int) != 0)=false:=rfl
     simp only [e0,brB_false]
     by_cases h3:fold w=w
     ·have:(fold w != w)=false:=by simpa using h3
      rw [if_neg (by simpa using h3)]
      simp only [this,brB_false]
     ·have:(fold w != w)=true:=by simpa using h3
      rw [if_pos h3]
      simp only [this,brB_true]
theorem lword {R:Type} (k0:Int→Option R) (k1:List UInt8→Int→Option R):
  ∀ (ys pre:List UInt8) (m:Nat),ys.length < m→(pre++ys).length≤BIG→(∀ a b,k1 a b=k0 0)→
    l55_16 (S74 2000) k0 k1 m (pre++ys) (pre.length:Int)=k0 (if bad ys=true then 2 else 0):=by
 intro ys
 induction ys with
 | nil=>
   intro pre m hm hb hk
   cases m with
   | zero=>simp at hm
   | succ m=>
     unfold l55_16
     simp only [g55_0,g55_1,g55_2,g55_4,g55_5,g55_7,g55_8,g55_10,g55_11,g55_14,g55_15,g55_16,g55_18,g55_19,g55,lt_nil,brB_false,hk]
     rfl
 | cons y ys ih=>
   intro pre m hm hb hk
   cases m with
   | zero=>simp at hm
   | succ m=>
     unfold l55_16
     simp only [g55_0,g55_1,g55_2,g55_4,g55_5,g55_7,g55_8,g55_10,g55_11,g55_14,g55_15,g55_16,g55_18,g55_19,g55,lt_cons,in_cons,at_cons,if_true,brB_true,(vlett y).2,Option.bind_some]
     have hbc:bad (y::ys)=(!lett (y.toNat:Int) || bad ys):=rfl
     rw [hbc]
     cases hv:lett (y.toNat:Int) with
     | false=>simp only [Bool.not_false,brB_true,Bool.true_or,if_true]
     | true=>
       simp only [Bool.not_true,brB_false,Bool.false_or,wrap_snoc pre ys y hb]
       rw [app_cons pre ys y,ih (pre++[y]) m (by simpa using hm) (by rw [←app_cons]; exact hb) hk]
theorem v55 (w:List UInt8):S55 2000 w=some (wd w):=by
 unfold S55 wd
 simp only [g55_0,g55_1,g55_2,g55_4,g55_5,g55_7,g55_8,g55_10,g55_11,g55_14,g55_15,g55_16,g55_18,g55_19,g55]
 by_cases h1:16 < w.length
 ·have d:decide ((w.length:Int) > 16)=true:=decide_eq_true (by omega)
  simp only [d,brB_true,if_pos h1]
 ·have d:decide ((w.length:Int) > 16)=false:=decide_eq_false (by omega)
  have hl:=lword (R:=Int) some (fun _ _=>some 0) w [] 2000 (by omega) (by unfold BIG; simp; omega) (fun _ _=>rfl)
  simp only [List.nil_append,List.length_nil,Int.natCast_zero] at hl
  simp only [d,brB_false,if_neg h1,v49 w (by omega),Option.bind_some]
  by_cases h2:w=[]
  ·have:(w==([]:List UInt8))=true:=by simpa using h2
   simp only [this,brB_true]
   rw [if_pos (.inl h2)]
  ·have:(w==([]:List UInt8))=false:=by simpa using h2
   simp only [this,brB_false]
   by_cases h3:fold w=w
   ·have:(fold w != w)=false:=by simpa using h3
    simp only [this,brB_false,hl]
    cases hb:bad w with
    | true=>rw [if_pos rfl,if_pos (.inr (.inr rfl))]
    | false=>rw [if_neg (by simp),if_neg (by simp [h2,h3])]
   ·have:(fold w != w)=true:=by simpa using h3
    simp only [this,brB_true]
    rw [if_pos (.inr (.inl h3))]
def rlw:List (List UInt8)→List (List UInt8)→Int
 | [],_=>0
 | w::ws,pre=>if wd w≠0 then wd w else if pre.contains w=true then 5 else rlw ws (pre++[w])
def rul (r:Rul):Int:=if r.1 < 1∨12 < r.1∨r.2.1 < 0∨999 < r.2.1 then 6 else if 20 < r.2.2.1.length then 3 else rlw r.2.2.1 []
theorem take_pre {α:Type} (pre ys:List α):((pre++ys).drop (0:Int).toNat).take ((pre.length:Int).toNat - (0:Int).toNat)=pre:=by simp
theorem lrule {R:Type} (k0:Int→Option R) (k1:Rul→List (List UInt8)→Int→Int→Option R) (a b:Int):
  ∀ (ys pre:List (List UInt8)) (m:Nat),ys.length < m→(pre++ys).length≤20→(∀ a b c d,k1 a b c d=k0 0)→
    l43_23 (S66 2000) (S67 2000) k0 k1 m (a,b,(pre++ys),()) (pre++ys) ((pre++ys).length:Int) (pre.length:Int)=k0 (rlw ys pre):=by
 intro ys
 induction ys with
 | nil=>
   intro pre m hm hb hk
   cases m with
   | zero=>simp at hm
   | succ m=>
     unfold l43_23
     simp only [g43_0,g43_1,g43_2,g43_3,g43_4,g43_8,g43_9,g43_11,g43_16,g43_14,g43_17,g43_18,g43_21,g43_22,g43_23,g43_25,g43_26,g43,lt_nil,brB_false,hk,rlw]
 | cons y ys ih=>
   intro pre m hm hb hk
   cases m with
   | zero=>simp at hm
   | succ m=>
     have hb2:(pre++y::ys).length≤BIG:=by unfold BIG; omega
     have hq:(0:Int)≤0∧(0:Int)≤(pre.length:Int)∧(pre.length:Int)≤((pre++y::ys).length:Int)∧((pre++y::ys).length:Int)≤((pre++y::ys).length:Int):=by simp; omega
     have hpl:pre.length < 2000:=by simp at hb; omega
     unfold l43_23
     simp only [g43_0,g43_1,g43_2,g43_3,g43_4,g43_8,g43_9,g43_11,g43_16,g43_14,g43_17,g43_18,g43_21,g43_22,g43_23,g43_25,g43_26,g43,lt_cons,in_cons,at_cons,if_true,brB_true,v66,Option.bind_some,rlw]
     by_cases h1:wd y=0
     ·have e1:(wd y != 0)=false:=by simpa using h1
      simp only [e1,brB_false,if_pos hq,take_pre,v67 pre y hpl,Option.bind_some]
      rw [if_neg (by simpa using h1)]
      cases hc:pre.contains y with
      | true=>simp only [brB_true,if_true]
      | false=>
        simp only [brB_false,Bool.false_eq_true,if_false,wrap_snoc pre ys y hb2]
        rw [app_cons pre ys y,ih (pre++[y]) m (by simpa using hm) (by rw [←app_cons]; exact hb) hk]
     ·have e1:(wd y != 0)=true:=by simpa using h1
      simp only [e1,brB_true]
      rw [if_pos h1]
theorem v43 (r:Rul):S43 2000 r=some (rul r):=by
 obtain ⟨a,b,ws,u⟩:=r
 unfold S43 rul
 simp only [g43_0,g43_1,g43_2,g43_3,g43_4,g43_8,g43_9,g43_11,g43_16,g43_14,g43_17,g43_18,g43_21,g43_22,g43_23,g43_25,g43_26,g43]
 by_cases h1:a < 1
 ·simp only [h1,decide_true,brB_true,true_or,if_true]
 by_cases h2:a > 12
 ·simp only [h1,h2,decide_true,decide_false,brB_true,brB_false,true_or,or_true,if_true,false_or]
 by_cases h3:b < 0
 ·simp only [h1,h2,h3,decide_true,decide_false,brB_true,brB_false,true_or,or_true,if_true,false_or]
 by_cases h4:b > 999
 ·simp only [h1,h2,h3,h4,decide_true,decide_false,brB_true,brB_false,true_or,or_true,if_true,false_or]
 rw [if_neg (by omega)]
 simp only [h1,h2,h3,h4,decide_false,brB_false]
 by_cases h5:20 < ws.length
 ·have d:decide ((ws.length:Int) > 20)=true:=decide_eq_true (by omega)
  simp only [d,brB_true,if_pos h5]
 ·have d:decide ((ws.length:Int) > 20)=false:=decide_eq_false (by omega)
  have:=lrule (R:=Int) some (fun _ _ _ _=>some 0) a b ws [] 2000 (by omega) (by simpa using h5) (fun _ _ _ _=>rfl)
  simp only [d,brB_false,if_neg h5]
  simpa using this
theorem lruler {R:Type} (k0:Int→Option R) (k1:Rul→Int→Option R) (a b:Int):
  ∀ (ys pre:List (List UInt8)) (m:Nat),ys.length < m→(pre++ys).length≤20→(∀ a b,k1 a b=k0 0)→
    l28_21 (S50 2000) (S55 2000) k0 k1 m (a,b,(pre++ys),()) (pre.length:Int)=k0 (rlw ys pre):=by
 intro ys
 induction ys with
 | nil=>
   intro pre m hm hb hk
   cases m with
   | zero=>simp at hm
   | succ m=>
     unfold l28_21
     simp only [g28_0,g28_1,g28_2,g28_4,g28_5,g28_7,g28_8,g28_14,g28_12,g28_15,g28_16,g28_19,g28_20,g28_21,g28_23,g28_24,g28,lt_nil,brB_false,hk,rlw]
 | cons y ys ih=>
   intro pre m hm hb hk
   cases m with
   | zero=>simp at hm
   | succ m=>
     have hb2:(pre++y::ys).length≤BIG:=by unfold BIG; omega
     have hq:(0:Int)≤0∧(0:Int)≤(pre.length:Int)∧(pre.length:Int)≤((pre++y::ys).length:Int)∧((pre++y::ys).length:Int)≤((pre++y::ys).length:Int):=by simp; omega
     have hpl:pre.length < 2000:=by simp at hb; omega
     unfold l28_21
     simp only [g28_0,g28_1,g28_2,g28_4,g28_5,g28_7,g28_8,g28_14,g28_12,g28_15,g28_16,g28_19,g28_20,g28_21,g28_23,g28_24,g28,lt_cons,in_cons,at_cons,if_true,brB_true,v55,Option.bind_some,rlw]
     by_cases h1:wd y=0
     ·have e1:(wd y != 0)=false:=by simpa using h1
      simp only [e1,brB_false,if_pos hq,take_pre,v50 pre y hpl,Option.bind_some]
      rw [if_neg (by simpa using h1)]
      cases hc:pre.contains y with
      | true=>simp only [brB_true,if_true]
      | false=>
        simp only [brB_false,Bool.false_eq_true,if_false,wrap_snoc pre ys y hb2]
        rw [app_cons pre ys y,ih (pre++[y]) m (by simpa using hm) (by rw [←app_cons]; exact hb) hk]
     ·have e1:(wd y != 0)=true:=by simpa using h1
      simp only [e1,brB_true]
      rw [if_pos h1]
theorem v28 (r:Rul):S28 2000 r=some (rul r):=by
 obtain ⟨a,b,ws,u⟩:=r
 unfold S28 rul
 simp only [g28_0,g28_1,g28_2,g28_4,g28_5,g28_7,g28_8,g28_14,g28_12,g28_15,g28_16,g28_19,g28_20,g28_21,g28_23,g28_24,g28]
 by_cases h1:a < 1
 ·simp only [h1,decide_true,brB_true,true_or,if_true]
 by_cases h2:a > 12
 ·simp only [h1,h2,decide_true,decide_false,brB_true,brB_false,true_or,or_true,if_true,false_or]
 by_cases h3:b < 0
 ·simp only [h1,h2,h3,decide_true,decide_false,brB_true,brB_false,true_or,or_true,if_true,false_or]
 by_cases h4:b > 999
 ·simp only [h1,h2,h3,h4,decide_true,decide_false,brB_true,brB_false,true_or,or_true,if_true,false_or]
 rw [if_neg (by omega)]
 simp only [h1,h2,h3,h4,decide_false,brB_false]
 by_cases h5:20 < ws.length
 ·have d:decide ((ws.length:Int) > 20)=true:=decide_eq_true (by omega)
  simp only [d,brB_true,if_pos h5]
 ·have d:decide ((ws.length:Int) > 20)=false:=decide_eq_false (by omega)
  have:=lruler (R:=Int) some (fun _ _=>some 0) a b ws [] 2000 (by omega) (by simpa using h5) (fun _ _=>rfl)
  simp only [d,brB_false,if_neg h5]
  simpa using this
def rls:List Rul→Int
 | []=>0
 | r::rs=>if rul r≠0 then rul r else rls rs
def isNm (s:List UInt8):Bool:=match S27 2000 s with | some b=>b | none=>false
def lic (x:Lic):Int:=if isNm x.1=false then 2 else if 30 < x.2.1.length then 3 else rls x.2.1
theorem vname (s:List UInt8):S42 2000 s=some (isNm s)∧S27 2000 s=some (isNm s):=by
 obtain ⟨b,h1,h2⟩:=v42 s
 have:isNm s=b:=by unfold isNm; rw [h2]
 rw [this]; exact ⟨h1,h2⟩
theorem llic {R:Type} (k0:Int→Option R) (k1:List Rul→Int→Int→Option R):
  ∀ (ys pre:List Rul) (m:Nat),ys.length < m→(pre++ys).length≤BIG→(∀ a b c,k1 a b c=k0 0)→
    l16_20 (S43 2000) k0 k1 m (pre++ys) ((pre++ys).length:Int) (pre.length:Int)=k0 (rls ys):=by
 intro ys
 induction ys with
 | nil=>
   intro pre m hm hb hk
   cases m with
   | zero=>simp at hm
   | succ m=>
     unfold l16_20
     simp only [g16_0,g16_1,g16_2,g16_3,g16_4,g16_8,g16_9,g16_16,g16_14,g16_18,g16_19,g16_20,g16_22,g16_23,g16,lt_nil,brB_false,hk,rls]
 | cons y ys ih=>
   intro pre m hm hb hk
   cases m with
   | zero=>simp at hm
   | succ m=>
     unfold l16_20
     simp only [g16_0,g16_1,g16_2,g16_3,g16_4,g16_8,g16_9,g16_16,g16_14,g16_18,g16_19,g16_20,g16_22,g16_23,g16,lt_cons,in_cons,at_cons,if_true,brB_true,v43,Option.bind_some,rls]
     by_cases h1:rul y=0
     ·have e1:(rul y != 0)=false:=by simpa using h1
      simp only [e1,brB_false,wrap_snoc pre ys y hb]
      rw [if_neg (by simpa using h1),app_cons pre ys y,ih (pre++[y]) m (by simpa using hm) (by rw [←app_cons]; exact hb) hk]
     ·have e1:(rul y != 0)=true:=by simpa using h1
      simp only [e1,brB_true]
      rw [if_pos h1]
theorem v16 (x:Lic):S16 2000 x=some (lic x):=by
 unfold S16 lic
 simp only [g16_0,g16_1,g16_2,g16_3,g16_4,g16_8,g16_9,g16_16,g16_14,g16_18,g16_19,g16_20,g16_22,g16_23,g16,(vname x.1).1,Option.bind_some]
 cases isNm x.1 with
 | false=>simp only [Bool.not_false,brB_true,if_true]
 | true=>
   simp only [Bool.not_true,brB_false,Bool.true_eq_false,if_false]
   by_cases h5:30 < x.2.1.length
   ·have d:decide ((x.2.1.length:Int) > 30)=true:=decide_eq_true (by omega)
    simp only [d,brB_true,if_pos h5]
   ·have d:decide ((x.2.1.length:Int) > 30)=false:=decide_eq_false (by omega)
    have:=llic (R:=Int) some (fun _ _ _=>some 0) x.2.1 [] 2000 (by omega) (by unfold BIG; simp; omega) (fun _ _ _=>rfl)
    simp only [d,brB_false,if_neg h5]
    simpa using this
theorem llicr {R:Type} (k0:Int→Option R) (k1:Lic→Int→Option R) (nm:List UInt8):
  ∀ (ys pre:List Rul) (m:Nat),ys.length < m→(pre++ys).length≤BIG→(∀ a b,k1 a b=k0 0)→
    l9_18 (S28 2000) k0 k1 m (nm,(pre++ys),()) (pre.length:Int)=k0 (rls ys):=by
 intro ys
 induction ys with
 | nil=>
   intro pre m hm hb hk
   cases m with
   | zero=>simp at hm
   | succ m=>
     unfold l9_18
     simp only [g9_0,g9_1,g9_2,g9_4,g9_5,g9_7,g9_8,g9_14,g9_12,g9_16,g9_17,g9_18,g9_20,g9_21,g9,lt_nil,brB_false,hk,rls]
 | cons y ys ih=>
   intro pre m hm hb hk
   cases m with
   | zero=>simp at hm
   | succ m=>
     unfold l9_18
     simp only [g9_0,g9_1,g9_2,g9_4,g9_5,g9_7,g9_8,g9_14,g9_12,g9_16,g9_17,g9_18,g9_20,g9_21,g9,lt_cons,in_cons,at_cons,if_true,brB_true,v28,Option.bind_some,rls]
     by_cases h1:rul y=0
     ·have e1:(rul y != 0)=false:=by simpa using h1
      simp only [e1,brB_false,wrap_snoc pre ys y hb]
      rw [if_neg (by simpa using h1),app_cons pre ys y,ih (pre++[y]) m (by simpa using hm) (by rw [←app_cons]; exact hb) hk]
     ·have e1:(rul y != 0)=true:=by simpa using h1
      simp only [e1,brB_true]
      rw [if_pos h1]
theorem v9 (x:Lic):S9 2000 x=some (lic x):=by
 obtain ⟨nm,rs,u⟩:=x
 unfold S9 lic
 simp only [g9_0,g9_1,g9_2,g9_4,g9_5,g9_7,g9_8,g9_14,g9_12,g9_16,g9_17,g9_18,g9_20,g9_21,g9,(vname nm).2,Option.bind_some]
 cases isNm nm with
 | false=>simp only [Bool.not_false,brB_true,if_true]
 | true=>
   simp only [Bool.not_true,brB_false,Bool.true_eq_false,if_false]
   by_cases h5:30 < rs.length
   ·have d:decide ((rs.length:Int) > 30)=true:=decide_eq_true (by omega)
    simp only [d,brB_true,if_pos h5]
   ·have d:decide ((rs.length:Int) > 30)=false:=decide_eq_false (by omega)
    have:=llicr (R:=Int) some (fun _ _=>some 0) nm rs [] 2000 (by omega) (by unfold BIG; simp; omega) (fun _ _=>rfl)
    simp only [d,brB_false,if_neg h5]
    simpa using this
theorem rlw_len:∀ (ws:List (List UInt8)) (pre:List (List UInt8)),rlw ws pre=0→∀ w∈ws,w.length≤16
 | [],_,_,w,hw=>by simp at hw
 | y::ws,pre,h,w,hw=>by
   simp only [rlw] at h
   split at h
   ·rename_i h1; exact absurd h h1
   ·split at h
    ·simp at h
    ·rename_i h1 _
     rcases List.mem_cons.1 hw with rfl | hw
     ·have h1:wd w=0:=by simpa using h1
      unfold wd at h1
      split at h1
      ·simp at h1
      ·omega
     ·exact rlw_len ws _ h w hw
theorem rls_ok:∀ (rs:List Rul),rls rs=0→∀ r∈rs,r.2.2.1.length≤20
 | [],_,r,hr=>by simp at hr
 | y::rs,h,r,hr=>by
   simp only [rls] at h
   split at h
   ·rename_i h1; exact absurd h h1
   ·rename_i h1
    rcases List.mem_cons.1 hr with rfl | hr
    ·have h1:rul r=0:=by simpa using h1
     unfold rul at h1
     split at h1
     ·simp at h1
     ·split at h1
      ·simp at h1
      ·omega
    ·exact rls_ok rs h r hr
theorem lic_ok {x:Lic} (h:lic x=0):x.2.1.length≤30∧∀ r∈x.2.1,r.2.2.1.length≤20:=by
 unfold lic at h
 split at h
 ·simp at h
 ·split at h
  ·simp at h
  ·exact ⟨by omega,rls_ok _ h⟩
end Go.Fw.L19
