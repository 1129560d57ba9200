/- Tokens of a text: the reference. -/
import Derived.Test.YtbdlccajpcomjaaFwHs17x
set_option linter.unusedVariables false
set_option linter.unusedSimpArgs false
namespace Go.Fw.L19
open Go Go.Fw
set_option maxRecDepth 100000
set_option linter.unusedSimpArgs false
set_option linter.unusedVariables false
def nls (s:List UInt8):Nat:=s.countP fun c=>c.toNat==10
theorem lfeeds {R:Type} (k0:List UInt8→Int→Int→Option R):
  ∀ (ys pre:List UInt8) (m:Nat) (a:Nat),ys.length < m→(pre++ys).length≤1000000→a+ys.length≤1000000→
    l32_11 k0 m (pre++ys) (a:Int) (pre.length:Int)=k0 (pre++ys) ((a+nls ys:Nat):Int) ((pre++ys).length:Int):=by
 intro ys
 induction ys with
 | nil=>
   intro pre m a hm hb ha
   cases m with
   | zero=>simp at hm
   | succ m=>
     unfold l32_11
     simp only [g32_14,g32_2,g32_3,g32_5,g32_6,g32_8,g32_9,g32_10,g32_11,g32_13,g32_14b,g32,lt_nil,brB_false]
     simp [nls]
 | cons y ys ih=>
   intro pre m a hm hb ha
   cases m with
   | zero=>simp at hm
   | succ m=>
     have hb':(pre++y::ys).length≤BIG:=by unfold BIG; omega
     simp only [List.length_cons] at ha
     have key:∀ a:Nat,a+ys.length≤1000000→l32_11 k0 m (pre++y::ys) (a:Int) ((pre++[y]).length:Int)=k0 (pre++y::ys) ((a+nls ys:Nat):Int) ((pre++y::ys).length:Int):=by
      intro a ha
      rw [app_cons pre ys y]
      exact ih (pre++[y]) m a (by simpa using hm) (by rw [←app_cons]; exact hb) ha
     unfold l32_11
     simp only [g32_14,g32_2,g32_3,g32_5,g32_6,g32_8,g32_9,g32_10,g32_11,g32_13,g32_14b,g32,lt_cons,in_cons,at_cons,if_true,brB_true,wrap_snoc pre ys y hb',wrap1 a (by unfold BIG; omega)]
     by_cases h:y.toNat=10
     ·have d:((y.toNat:Int)==10)=true:=by simp [h]
      simp only [d,brB_true]
      rw [key (a+1) (by omega)]
      have:nls (y::ys)=nls ys+1:=by unfold nls; rw [List.countP_cons]; simp [h]
      rw [this]; congr 2; omega
     ·have d:((y.toNat:Int)==10)=false:=by simp only [beq_eq_false_iff_ne,ne_eq]; omega
      simp only [d,brB_false]
      rw [key a (by omega)]
      have:nls (y::ys)=nls ys:=by unfold nls; rw [List.countP_cons]; simp [h]
      rw [this]
theorem v32 (s:List UInt8) (hs:s.length < 30000):S32 30000 s=some (nls s:Int):=by
 have:=lfeeds (R:=Int) (fun _ n _=>some n) s [] 30000 0 hs (by simp; omega) (by omega)
 unfold S32
 simp only [g32_14,g32_2,g32_3,g32_5,g32_6,g32_8,g32_9,g32_10,g32_11,g32_13,g32_14b,g32]
 simpa using this
def spF:Nat→List UInt8→Nat×List UInt8
 | _,[]=>(0,[])
 | 0,c::s=>(0,c::s)
 | f+1,c::s=>if c.toNat=10 then ((spF f s).1+1,(spF f s).2) else if isW c then spF f s else if c.toNat=35 then spF f (untilNL s) else (0,c::s)
theorem spF_split:∀ (f:Nat) (s:List UInt8),∃ q,s=q++(spF f s).2∧nls q=(spF f s).1
 | 0,[]=>⟨[],rfl,rfl⟩
 | _+1,[]=>⟨[],rfl,rfl⟩
 | 0,c::s=>⟨[],rfl,rfl⟩
 | f+1,c::s=>by
   simp only [spF]
   split
   ·rename_i h
    obtain ⟨q,h1,h2⟩:=spF_split f s
    refine ⟨c::q,by simp only [List.cons_append]; rw [←h1],?_⟩
    have:nls (c::q)=nls q+1:=by unfold nls; rw [List.countP_cons]; simp [h]
    rw [this,h2]
   ·rename_i h
    have hc:∀ q,nls (c::q)=nls q:=fun q=>by unfold nls; rw [List.countP_cons]; simp [h]
    split
    ·obtain ⟨q,h1,h2⟩:=spF_split f s
     exact ⟨c::q,by simp only [List.cons_append]; rw [←h1],by rw [hc,h2]⟩
    ·split
     ·obtain ⟨q1,g1,g2⟩:=until_split s
      obtain ⟨q,h1,h2⟩:=spF_split f (untilNL s)
      refine ⟨c::(q1++q),?_,?_⟩
      ·simp only [List.cons_append,List.append_assoc]; rw [←h1,←g1]
      ·rw [hc]; unfold nls; rw [List.countP_append,g2]; rw [Nat.zero_add]; exact h2
     ·exact ⟨[],rfl,rfl⟩
theorem spF_head:∀ (f:Nat) (s:List UInt8),s.length≤f→∀ c t,(spF f s).2=c::t→c.toNat≠10∧isW c=false∧c.toNat≠35
 | _,[],_,c,t,h=>by simp [spF] at h
 | 0,_::_,hl,_,_,_=>by simp at hl
 | f+1,d::s,hl,c,t,h=>by
   simp only [List.length_cons] at hl
   simp only [spF] at h
   split at h
   ·exact spF_head f s (by omega) c t h
   ·split at h
    ·exact spF_head f s (by omega) c t h
    ·split at h
     ·exact spF_head f (untilNL s) (by have:=untilNL_le s; omega) c t h
     ·rename_i h1 h2 h3
      cases h
      exact ⟨h1,by simpa using h2,h3⟩
theorem toks_sp:∀ (g f:Nat) (l:Int) (s:List UInt8),s.length≤g→s.length≤f→toks f l s=toks f (l+(spF g s).1) (spF g s).2
 | _,f,l,[],_,_=>by simp only [spF]; cases f<;>rfl
 | 0,_,_,_::_,h,_=>by simp at h
 | _,0,_,_::_,_,h=>by simp at h
 | g+1,f+1,l,c::s,h1,h2=>by
   simp only [List.length_cons] at h1 h2
   have hu:=untilNL_le s
   simp only [spF]
   have up:∀ (l:Int) (t:List UInt8),t.length≤f→toks f l t=toks (f+1) l t:=fun l t h=>toks_fuel f (f+1) l t h (by omega)
   have sl:∀ (t:List UInt8),(spF g t).2.length≤t.length:=fun t=>by
    obtain ⟨q,e,_⟩:=spF_split g t
    have:=congrArg List.length e
    rw [List.length_append] at this; omega
   by_cases c1:c.toNat=10
   ·rw [if_pos c1]
    simp only [toks,if_pos c1]
    rw [toks_sp g f (l+1) s (by omega) (by omega),up _ _ (by have:=sl s; omega)]
    congr 1
    simp only [Int.natCast_add]; omega
   ·rw [if_neg c1]
    by_cases c2:isW c=true
    ·rw [if_pos c2]
     simp only [toks,if_neg c1,if_pos c2]
     rw [toks_sp g f l s (by omega) (by omega),up _ _ (by have:=sl s; omega)]
    ·rw [if_neg c2]
     by_cases c3:c.toNat=35
     ·rw [if_pos c3]
      simp only [toks,if_neg c1,if_neg c2,if_pos c3]
      rw [toks_sp g f l (untilNL s) (by omega) (by omega),up _ _ (by have:=sl (untilNL s); omega)]
     ·rw [if_neg c3]; simp
theorem lskipR {R:Type} (k0:List UInt8→Int→Option R):
  ∀ (ys pre:List UInt8) (m:Nat),ys.length < m→(pre++ys).length≤1000000→
    l31_20 k0 m (pre++ys) (pre.length:Int)=k0 (pre++ys) ((pre.length+(ys.length - (untilNL ys).length):Nat):Int):=by
 intro ys
 induction ys with
 | nil=>
   intro pre m hm hb
   cases m with
   | zero=>simp at hm
   | succ m=>
     unfold l31_20
     simp only [g31_31,g31_2,g31_4,g31_5,g31_6,g31_7,g31_8,g31_12,g31_13,g31_14,g31_15,g31_17,g31_19,g31_20,g31_22,g31_27,g31_28,g31_30,g31_31b,g31,lt_nil,brB_false]
     simp
 | cons y ys ih=>
   intro pre m hm hb
   cases m with
   | zero=>simp at hm
   | succ m=>
     have hb':(pre++y::ys).length≤BIG:=by unfold BIG; omega
     unfold l31_20
     simp only [g31_31,g31_2,g31_4,g31_5,g31_6,g31_7,g31_8,g31_12,g31_13,g31_14,g31_15,g31_17,g31_19,g31_20,g31_22,g31_27,g31_28,g31_30,g31_31b,g31,lt_cons,in_cons,at_cons,if_true,brB_true,wrap_snoc pre ys y hb',untilNL]
     by_cases h:y.toNat=10
     ·have d:((y.toNat:Int) != 10)=false:=by simp [h]
      simp only [d,brB_false,if_pos h,Nat.sub_self,Nat.add_zero]
     ·have d:((y.toNat:Int) != 10)=true:=by simp only [bne_iff_ne,ne_eq]; omega
      simp only [d,brB_true,if_neg h]
      rw [app_cons pre ys y,ih (pre++[y]) m (by simpa using hm) (by rw [←app_cons]; exact hb)]
      have:=untilNL_le ys
      congr 2; simp; omega
theorem lspace {R:Type} (kk:Int→Option R):
  ∀ (f:Nat) (ys pre:List UInt8) (m:Nat),ys.length≤f→ys.length < m→(pre++ys).length < 30000→
    l31_28 30000 kk (fun _ i=>kk i) m (pre++ys) (pre.length:Int)=kk ((pre.length+(ys.length - (spF f ys).2.length):Nat):Int):=by
 intro f
 induction f with
 | zero=>
   intro ys pre m hf hm hb
   have:ys=[]:=List.length_eq_zero_iff.1 (by omega)
   subst this
   cases m with
   | zero=>simp at hm
   | succ m=>
     unfold l31_28
     simp only [g31_31,g31_2,g31_4,g31_5,g31_6,g31_7,g31_8,g31_12,g31_13,g31_14,g31_15,g31_17,g31_19,g31_20,g31_22,g31_27,g31_28,g31_30,g31_31b,g31,lt_nil,brB_false]
     simp
 | succ f ih=>
   intro ys pre m hf hm hb
   cases ys with
   | nil=>
     cases m with
     | zero=>simp at hm
     | succ m=>
       unfold l31_28
       simp only [g31_31,g31_2,g31_4,g31_5,g31_6,g31_7,g31_8,g31_12,g31_13,g31_14,g31_15,g31_17,g31_19,g31_20,g31_22,g31_27,g31_28,g31_30,g31_31b,g31,lt_nil,brB_false]
       simp
   | cons c s=>
     cases m with
     | zero=>simp at hm
     | succ m=>
       simp only [List.length_cons,List.length_append] at hf hm hb
       have hbg:(pre++c::s).length≤BIG:=by unfold BIG; simp; omega
       have sl:∀ (t:List UInt8),(spF f t).2.length≤t.length:=fun t=>by
        obtain ⟨q,e,_⟩:=spF_split f t
        have:=congrArg List.length e
        rw [List.length_append] at this; omega
       have hgo:l31_28 30000 kk (fun _ i=>kk i) m (pre++c::s) ((pre++[c]).length:Int)=kk ((pre.length+(s.length+1 - (spF f s).2.length):Nat):Int):=by
        rw [app_cons pre s c,ih s (pre++[c]) m (by omega) (by omega) (by simp; omega)]
        have:=sl s
        congr 2; simp; omega
       have hsk:=lskipR (R:=R) (l31_28 30000 kk (fun _ i=>kk i) m) (c::s) pre 30000 (by simp; omega) (by simp; omega)
       unfold l31_28
       simp only [g31_31,g31_2,g31_4,g31_5,g31_6,g31_7,g31_8,g31_12,g31_13,g31_14,g31_15,g31_17,g31_19,g31_20,g31_22,g31_27,g31_28,g31_30,g31_31b,g31,lt_cons,in_cons,at_cons,if_true,brB_true,wrap_snoc pre s c hbg,spF,List.length_cons]
       by_cases c2:c.toNat=32
       ·have d2:((c.toNat:Int)==32)=true:=by simp [c2]
        have hw:isW c=true:=by unfold isW; simp [c2]
        have c1:¬ c.toNat=10:=by omega
        simp only [d2,brB_true,hw,if_true,if_neg c1]
        exact hgo
       ·have d2:((c.toNat:Int)==32)=false:=by simp only [beq_eq_false_iff_ne,ne_eq]; omega
        simp only [d2,brB_false]
        by_cases c3:c.toNat=9
        ·have d3:((c.toNat:Int)==9)=true:=by simp [c3]
         have hw:isW c=true:=by unfold isW; simp [c3]
         have c1:¬ c.toNat=10:=by omega
         simp only [d3,brB_true,hw,if_true,if_neg c1]
         exact hgo
        ·have d3:((c.toNat:Int)==9)=false:=by simp only [beq_eq_false_iff_ne,ne_eq]; omega
         simp only [d3,brB_false]
         by_cases c1:c.toNat=10
         ·have d1:((c.toNat:Int)==10)=true:=by simp [c1]
          simp only [d1,brB_true,if_pos c1]
          exact hgo
         ·have d1:((c.toNat:Int)==10)=false:=by simp only [beq_eq_false_iff_ne,ne_eq]; omega
          simp only [d1,brB_false,if_neg c1]
          by_cases c4:c.toNat=13
          ·have d4:((c.toNat:Int)==13)=true:=by simp [c4]
           have hw:isW c=true:=by unfold isW; simp [c4]
           simp only [d4,brB_true,hw,if_true]
           exact hgo
          ·have d4:((c.toNat:Int)==13)=false:=by simp only [beq_eq_false_iff_ne,ne_eq]; omega
           have hw:isW c=false:=by unfold isW; simp [c2,c3,c4]
           simp only [d4,brB_false,hw,Bool.false_eq_true,if_false]
           by_cases c5:c.toNat=35
           ·have d5:((c.toNat:Int)==35)=true:=by simp [c5]
            simp only [d5,brB_true,if_pos c5]
            obtain ⟨q,hq,_⟩:=until_split s
            have hu:untilNL (c::s)=untilNL s:=by simp only [untilNL,if_neg c1]
            have hlq:s.length=q.length+(untilNL s).length:=by
             have:=congrArg List.length hq
             rw [List.length_append] at this; exact this
            have hpre:pre++c::s=(pre++c::q)++untilNL s:=by
             rw [List.append_assoc,List.cons_append,←hq]
            rw [hu] at hsk
            have hix:((pre.length+((c::s).length - (untilNL s).length):Nat):Int)=((pre++c::q).length:Int):=by
             simp only [List.length_cons,List.length_append]; omega
            rw [hix] at hsk
            have:=ih (untilNL s) (pre++c::q) m (by omega) (by omega) (by simp; omega)
            rw [←hpre] at this
            refine hsk.trans (this.trans ?_)
            have h3:=sl (untilNL s)
            congr 2
            simp only [List.length_append,List.length_cons]; omega
           ·have d5:((c.toNat:Int)==35)=false:=by simp only [beq_eq_false_iff_ne,ne_eq]; omega
            simp only [d5,brB_false,if_neg c5,List.length_cons,Nat.sub_self,Nat.add_zero]
theorem v31 (s:List UInt8) (hs:s.length < 30000):S31 30000 s=some ((s.length - (spF s.length s).2.length:Nat):Int):=by
 have:=lspace (R:=Int) some s.length s [] 30000 (Nat.le_refl _) hs (by simpa using hs)
 unfold S31
 simp only [g31_31,g31_2,g31_4,g31_5,g31_6,g31_7,g31_8,g31_12,g31_13,g31_14,g31_15,g31_17,g31_19,g31_20,g31_22,g31_27,g31_28,g31_30,g31_31b,g31]
 simpa using this
end Go.Fw.L19
