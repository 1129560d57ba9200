/- Tokens: what a text is taken apart into; program and reference. -/
import Derived.Test.YtbdlccajpcomjaaFwHs17c
set_option linter.unusedVariables false
set_option linter.unusedSimpArgs false
namespace Go.Fw.L19
open Go Go.Fw
set_option maxRecDepth 100000
set_option linter.unusedSimpArgs false
set_option linter.unusedVariables false
abbrev Tok:Type:=Int×(List UInt8×(Int×Unit))
def smB (c:UInt8):Bool:=sm (c.toNat:Int)
def dgB (c:UInt8):Bool:=dg (c.toNat:Int)
def inB' (c:UInt8):Bool:=decide ((c.toNat:Int)≥32)&&(decide ((c.toNat:Int)≤126)&&((c.toNat:Int) != 34))
def cnt (p:UInt8→Bool):List UInt8→Nat
 | []=>0
 | c::s=>if p c then cnt p s+1 else 0
def nmT:List UInt8→Nat
 | []=>0
 | c::s=>if smB c || dgB c then nmT s+1 else if c.toNat=45 then (match s with
   | d::t=>if smB d || dgB d then nmT t+2 else 0
   | []=>0) else 0
def nmL:List UInt8→Nat
 | []=>0
 | c::s=>if smB c then nmT s+1 else 0
theorem cnt_le (p:UInt8→Bool):∀ s,cnt p s≤s.length
 | []=>Nat.le_refl _
 | c::s=>by
   simp only [cnt,List.length_cons]
   split
   ·have:=cnt_le p s; omega
   ·omega
theorem nmT_le:∀ (n:Nat) (s:List UInt8),s.length≤n→nmT s≤s.length
 | _,[],_=>Nat.le_refl _
 | 0,_::_,h=>by simp at h
 | n+1,c::s,h=>by
   unfold nmT
   simp only [List.length_cons] at h ⊢
   split
   ·have:=nmT_le n s (by omega); omega
   ·split
    ·split
     ·rename_i d t
      simp only [List.length_cons] at h ⊢
      split
      ·have:=nmT_le n t (by omega); omega
      ·omega
     ·omega
    ·omega
theorem nmL_le (s:List UInt8):nmL s≤s.length:=by
 cases s with
 | nil=>exact Nat.le_refl _
 | cons c s=>
   simp only [nmL,List.length_cons]
   split
   ·have:=nmT_le _ s (Nat.le_refl _); omega
   ·omega
theorem wrapN (a b:Nat) (h:a+b≤BIG):IntKind.i64.wrap ((a:Int)+(b:Int))=((a+b:Nat):Int):=by
 rw [wrap_id (by unfold BIG at h; omega)]; simp
theorem wrap1 (a:Nat) (h:a+1≤BIG):IntKind.i64.wrap ((a:Int)+1)=((a+1:Nat):Int):=wrapN a 1 h
theorem wrap2 (a:Nat) (h:a+2≤BIG):IntKind.i64.wrap ((a:Int)+2)=((a+2:Nat):Int):=wrapN a 2 h
theorem lnameR {R:Type} (k0:List UInt8→Int→Option R):
  ∀ (n:Nat) (ys pre:List UInt8) (m:Nat),ys.length≤n→ys.length < m→(pre++ys).length≤1000000→
    l54_15 (S72 30000) (S73 30000) k0 m (pre++ys) (pre.length:Int)=k0 (pre++ys) ((pre.length+nmT ys:Nat):Int):=by
 intro n
 induction n with
 | zero=>
   intro ys pre m hn hm hb
   have:ys=[]:=List.length_eq_zero_iff.1 (by omega)
   subst this
   cases m with
   | zero=>simp at hm
   | succ m=>
     unfold l54_15
     simp only [g54_0,g54_1,g54_2,g54_4,g54_5,g54_7,g54_8,g54_10,g54_12,g54_14,g54_15,g54_17,g54_18,g54,lt_nil,brB_false,nmT,Nat.add_zero]
 | succ n ih=>
   intro ys pre m hn hm hb
   cases ys with
   | nil=>
     cases m with
     | zero=>simp at hm
     | succ m=>
       unfold l54_15
       simp only [g54_0,g54_1,g54_2,g54_4,g54_5,g54_7,g54_8,g54_10,g54_12,g54_14,g54_15,g54_17,g54_18,g54,lt_nil,brB_false,nmT,Nat.add_zero]
   | cons c s=>
     cases m with
     | zero=>simp at hm
     | succ m=>
       simp only [List.length_cons,List.length_append] at hn hm hb
       have hBIG:pre.length+2≤BIG:=by unfold BIG; omega
       have step1:=ih s (pre++[c]) m (by omega) (by omega) (by simp; omega)
       rw [←app_cons] at step1
       have e1:((pre++[c]).length:Int)=((pre.length+1:Nat):Int):=by simp
       rw [e1] at step1
       unfold l54_15
       simp only [g54_0,g54_1,g54_2,g54_4,g54_5,g54_7,g54_8,g54_10,g54_12,g54_14,g54_15,g54_17,g54_18,g54,lt_cons,in_cons,at_cons,if_true,brB_true,v72,v73,Option.bind_some,wrap1 pre.length (by omega),wrap2 pre.length hBIG]
       unfold nmT
       have go:l54_15 (S72 30000) (S73 30000) k0 m (pre++c::s) ((pre.length+1:Nat):Int)=k0 (pre++c::s) ((pre.length+(nmT s+1):Nat):Int):=by
        rw [step1]; congr 2; simp; omega
       cases h1:sm (c.toNat:Int) with
       | true=>
         have:smB c=true:=h1
         simp only [brB_true,this,Bool.true_or,if_true]
         exact go
       | false=>
         have h1':smB c=false:=h1
         simp only [brB_false,h1',Bool.false_or]
         cases h2:dg (c.toNat:Int) with
         | true=>
           have:dgB c=true:=h2
           simp only [brB_true,this,if_true]
           exact go
         | false=>
           have h2':dgB c=false:=h2
           simp only [brB_false,h2',Bool.false_eq_true,if_false]
           by_cases h3:c.toNat=45
           ·have e3:((c.toNat:Int) != 45)=false:=by simp [h3]
            simp only [e3,brB_false,if_pos h3]
            cases s with
            | nil=>
              have e4:(((pre.length+1:Nat):Int)==((pre++[c]).length:Int))=true:=by simp
              simp only [e4,brB_true,Nat.add_zero]
            | cons d t=>
              have e4:(((pre.length+1:Nat):Int)==((pre++c::d::t).length:Int))=false:=by
               simp only [beq_eq_false_iff_ne,ne_eq,List.length_append,List.length_cons]; omega
              have e5:(0≤((pre.length+1:Nat):Int)∧((pre.length+1:Nat):Int) < ((pre++c::d::t).length:Int))=True:=by
               simp only [List.length_append,List.length_cons,eq_iff_iff,iff_true]; omega
              have e6:(pre++c::d::t).getD (Int.toNat ((pre.length+1:Nat):Int)) 0=d:=by
               rw [app_cons pre (d::t) c]
               have:=at_cons (pre++[c]) t d 0
               rw [e1] at this; exact this
              simp only [e4,brB_false,e5,e6,if_true]
              simp only [List.length_cons] at hn hm hb
              have step2:=ih t ((pre++[c])++[d]) m (by omega) (by omega) (by simp; omega)
              rw [←app_cons,←app_cons] at step2
              have e7:((pre++[c]++[d]).length:Int)=((pre.length+2:Nat):Int):=by simp
              rw [e7] at step2
              have go2:l54_15 (S72 30000) (S73 30000) k0 m (pre++c::d::t) ((pre.length+2:Nat):Int)=k0 (pre++c::d::t) ((pre.length+(nmT t+2):Nat):Int):=by
               rw [step2]; congr 2; simp; omega
              cases h4:sm (d.toNat:Int) with
              | true=>
                have:smB d=true:=h4
                simp only [Bool.not_true,brB_false,this,Bool.true_or,if_true]
                exact go2
              | false=>
                have h4':smB d=false:=h4
                simp only [Bool.not_false,brB_true,h4',Bool.false_or]
                cases h5:dg (d.toNat:Int) with
                | true=>
                  have:dgB d=true:=h5
                  simp only [Bool.not_true,brB_false,this,if_true]
                  exact go2
                | false=>
                  have:dgB d=false:=h5
                  simp only [Bool.not_false,brB_true,this,Bool.false_eq_true,if_false,Nat.add_zero]
           ·have e3:((c.toNat:Int) != 45)=true:=by
             simp only [bne_iff_ne,ne_eq]; omega
            simp only [e3,brB_true,if_neg h3,Nat.add_zero]
theorem vnm (s:List UInt8) (hs:s.length < 30000):S65 30000 s=some (nmL s:Int)∧S54 30000 s=some (nmL s:Int):=by
 have hb:s.length≤BIG:=by unfold BIG; omega
 have e1:=lname s hb (R:=Int) some 30000 1 (by omega) (by omega)
 unfold S65 S54
 simp only [g65_0,g65_1,g65_2,g65_4,g65_5,g65_7,g65_8,g65_9,g65_10,g65_11,g65_12,g65_17,g65_18,g65_20,g65_21,g65,g54_0,g54_1,g54_2,g54_4,g54_5,g54_7,g54_8,g54_10,g54_12,g54_14,g54_15,g54_17,g54_18,g54,v76,v72,Option.bind_some]
 cases s with
 | nil=>exact ⟨rfl,rfl⟩
 | cons c s=>
   have h0:((c::s)==([]:List UInt8))=false:=rfl
   have hb0:(0:Int)≤0∧(0:Int) < ((c::s).length:Int):=by simp only [List.length_cons]; omega
   have hc:(((c::s).getD (0:Int).toNat 0).toNat:Int)=(c.toNat:Int):=rfl
   have e2:=lnameR (R:=Int) (fun _ i=>some i) s.length s [c] 30000 (Nat.le_refl _) (by simp at hs; omega) (by simp at hs ⊢; omega)
   have e3:((([c]:List UInt8).length:Nat):Int)=1:=rfl
   rw [e3] at e2
   have e4:[c]++s=c::s:=rfl
   rw [e4] at e2
   simp only [h0,brB_false,if_pos hb0,hc,nmL]
   cases hsm:sm (c.toNat:Int) with
   | false=>
     have:smB c=false:=hsm
     simp only [Bool.not_false,brB_true,this,Bool.false_eq_true,if_false]
     exact ⟨rfl,rfl⟩
   | true=>
     have h9:smB c=true:=hsm
     have e5:(([c].length+nmT s:Nat):Int)=((nmT s+1:Nat):Int):=by simp; omega
     rw [e5] at e2
     simp only [Bool.not_true,brB_false,h9,if_true]
     exact ⟨e1.trans e2,e2⟩
theorem ldigits {R:Type} (k0:List UInt8→Int→Option R):
  ∀ (ys pre:List UInt8) (m:Nat),ys.length < m→(pre++ys).length≤1000000→
    l78_7 (S77 30000) k0 m (pre++ys) (pre.length:Int)=k0 (pre++ys) ((pre.length+cnt dgB ys:Nat):Int):=by
 intro ys
 induction ys with
 | nil=>
   intro pre m hm hb
   cases m with
   | zero=>simp at hm
   | succ m=>
     unfold l78_7
     simp only [g78_10,g78_2,g78_4,g78_6,g78_7,g78_9,g78_10b,g78,lt_nil,brB_false,cnt,Nat.add_zero]
 | cons y ys ih=>
   intro pre m hm hb
   cases m with
   | zero=>simp at hm
   | succ m=>
     have hb':(pre++y::ys).length≤BIG:=by unfold BIG; omega
     unfold l78_7
     simp only [g78_10,g78_2,g78_4,g78_6,g78_7,g78_9,g78_10b,g78,lt_cons,in_cons,at_cons,if_true,brB_true,v77,Option.bind_some,wrap_snoc pre ys y hb',cnt]
     cases h:dg (y.toNat:Int) with
     | false=>
       have:dgB y=false:=h
       simp only [brB_false,this,Bool.false_eq_true,if_false,Nat.add_zero]
     | true=>
       have h':dgB y=true:=h
       simp only [brB_true,h',if_true]
       rw [app_cons pre ys y,ih (pre++[y]) m (by simpa using hm) (by rw [←app_cons]; exact hb)]
       congr 2; simp; omega
theorem ldigitsR {R:Type} (k0:List UInt8→Int→Option R):
  ∀ (ys pre:List UInt8) (m:Nat),ys.length < m→(pre++ys).length≤1000000→
    l56_7 (S73 30000) k0 m (pre++ys) (pre.length:Int)=k0 (pre++ys) ((pre.length+cnt dgB ys:Nat):Int):=by
 intro ys
 induction ys with
 | nil=>
   intro pre m hm hb
   cases m with
   | zero=>simp at hm
   | succ m=>
     unfold l56_7
     simp only [g56_10,g56_2,g56_4,g56_6,g56_7,g56_9,g56_10b,g56,lt_nil,brB_false,cnt,Nat.add_zero]
 | cons y ys ih=>
   intro pre m hm hb
   cases m with
   | zero=>simp at hm
   | succ m=>
     have hb':(pre++y::ys).length≤BIG:=by unfold BIG; omega
     unfold l56_7
     simp only [g56_10,g56_2,g56_4,g56_6,g56_7,g56_9,g56_10b,g56,lt_cons,in_cons,at_cons,if_true,brB_true,v73,Option.bind_some,wrap_snoc pre ys y hb',cnt]
     cases h:dg (y.toNat:Int) with
     | false=>
       have:dgB y=false:=h
       simp only [brB_false,this,Bool.false_eq_true,if_false,Nat.add_zero]
     | true=>
       have h':dgB y=true:=h
       simp only [brB_true,h',if_true]
       rw [app_cons pre ys y,ih (pre++[y]) m (by simpa using hm) (by rw [←app_cons]; exact hb)]
       congr 2; simp; omega
theorem vdg (s:List UInt8) (hs:s.length < 30000):S78 30000 s=some (cnt dgB s:Int)∧S56 30000 s=some (cnt dgB s:Int):=by
 have e1:=ldigits (R:=Int) (fun _ i=>some i) s [] 30000 hs (by simp; omega)
 have e2:=ldigitsR (R:=Int) (fun _ i=>some i) s [] 30000 hs (by simp; omega)
 unfold S78 S56
 simp only [g78_10,g78_2,g78_4,g78_6,g78_7,g78_9,g78_10b,g78,g56_10,g56_2,g56_4,g56_6,g56_7,g56_9,g56_10b,g56]
 simp only [List.nil_append,List.length_nil,Nat.zero_add] at e1 e2
 exact ⟨e1,e2⟩
theorem vins (c:UInt8):S85 30000 (c.toNat:Int)=some (inB' c)∧S75 30000 (c.toNat:Int)=some (inB' c):=by
 unfold S85 S75 inB'
 simp only [g85_2,g85_2b,g85,g75_2,g75_2b,g75]
 cases decide ((c.toNat:Int)≥32)<;>cases decide ((c.toNat:Int)≤126)<;>exact ⟨rfl,rfl⟩
theorem lquoted {R:Type} (k0:List UInt8→Int→Option R):
  ∀ (ys pre:List UInt8) (m:Nat),ys.length < m→(pre++ys).length≤1000000→
    l79_7 (S85 30000) k0 m (pre++ys) (pre.length:Int)=k0 (pre++ys) ((pre.length+cnt inB' ys:Nat):Int):=by
 intro ys
 induction ys with
 | nil=>
   intro pre m hm hb
   cases m with
   | zero=>simp at hm
   | succ m=>
     unfold l79_7
     simp only [g79_17,g79_2,g79_4,g79_6,g79_7,g79_9,g79_10,g79_11,g79_12,g79_16,g79_17b,g79,lt_nil,brB_false,cnt,Nat.add_zero]
 | cons y ys ih=>
   intro pre m hm hb
   cases m with
   | zero=>simp at hm
   | succ m=>
     have hb':(pre++y::ys).length≤BIG:=by unfold BIG; omega
     unfold l79_7
     simp only [g79_17,g79_2,g79_4,g79_6,g79_7,g79_9,g79_10,g79_11,g79_12,g79_16,g79_17b,g79,lt_cons,in_cons,at_cons,if_true,brB_true,(vins y).1,Option.bind_some,wrap_snoc pre ys y hb',cnt]
     cases h:inB' y with
     | false=>simp only [brB_false,Bool.false_eq_true,if_false,Nat.add_zero]
     | true=>
       simp only [brB_true,if_true]
       rw [app_cons pre ys y,ih (pre++[y]) m (by simpa using hm) (by rw [←app_cons]; exact hb)]
       congr 2; simp; omega
theorem lquotedR {R:Type} (k0:List UInt8→Tok→Int→Option R) (z:Tok):
  ∀ (ys pre:List UInt8) (m:Nat),ys.length < m→(pre++ys).length≤1000000→
    l57_7 (S75 30000) k0 m (pre++ys) z (pre.length:Int)=k0 (pre++ys) z ((pre.length+cnt inB' ys:Nat):Int):=by
 intro ys
 induction ys with
 | nil=>
   intro pre m hm hb
   cases m with
   | zero=>simp at hm
   | succ m=>
     unfold l57_7
     simp only [g57_16,g57_2,g57_4,g57_6,g57_7,g57_9,g57_10,g57_12,g57_13,g57_15,g57_16b,g57,lt_nil,brB_false,cnt,Nat.add_zero]
 | cons y ys ih=>
   intro pre m hm hb
   cases m with
   | zero=>simp at hm
   | succ m=>
     have hb':(pre++y::ys).length≤BIG:=by unfold BIG; omega
     unfold l57_7
     simp only [g57_16,g57_2,g57_4,g57_6,g57_7,g57_9,g57_10,g57_12,g57_13,g57_15,g57_16b,g57,lt_cons,in_cons,at_cons,if_true,brB_true,(vins y).2,Option.bind_some,wrap_snoc pre ys y hb',cnt]
     cases h:inB' y with
     | false=>simp only [brB_false,Bool.false_eq_true,if_false,Nat.add_zero]
     | true=>
       simp only [brB_true,if_true]
       rw [app_cons pre ys y,ih (pre++[y]) m (by simpa using hm) (by rw [←app_cons]; exact hb)]
       congr 2; simp; omega
end Go.Fw.L19
