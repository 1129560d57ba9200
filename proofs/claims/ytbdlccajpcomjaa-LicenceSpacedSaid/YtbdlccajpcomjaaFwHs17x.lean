/- Tokens of a text: program and reference. -/
import Derived.Test.YtbdlccajpcomjaaFwHs17w
set_option linter.unusedVariables false
set_option linter.unusedSimpArgs false
namespace Go.Fw.L19
open Go Go.Fw
set_option maxRecDepth 100000
set_option linter.unusedSimpArgs false
set_option linter.unusedVariables false
theorem until_split:∀ s:List UInt8,∃ q,s=q++untilNL s∧q.countP (fun c=>c.toNat==10)=0
 | []=>⟨[],rfl,rfl⟩
 | c::s=>by
   by_cases h:c.toNat=10
   ·exact ⟨[],by simp only [untilNL,if_pos h,List.nil_append],rfl⟩
   ·obtain ⟨q,h1,h2⟩:=until_split s
    refine ⟨c::q,?_,?_⟩
    ·simp only [untilNL,if_neg h,List.cons_append]
     rw [←h1]
    ·rw [List.countP_cons,h2]; simp [h]
theorem lskip {R:Type} (k0:List UInt8→List Tok→Int→Int→Option R) (out:List Tok) (l:Int):
  ∀ (ys pre:List UInt8) (m:Nat),ys.length < m→(pre++ys).length≤1000000→
    l35_27 k0 m (pre++ys) out l (pre.length:Int)=k0 (pre++ys) out l ((pre.length+(ys.length - (untilNL ys).length):Nat):Int):=by
 intro ys
 induction ys with
 | nil=>
   intro pre m hm hb
   cases m with
   | zero=>simp at hm
   | succ m=>
     unfold l35_27
     simp only [g35_0,g35_1,g35_2,g35_46,g35_6,g35_7,g35_9,g35_10,g35_13,g35_14,g35_15,g35_16,g35_19,g35_20,g35_21,g35_22,g35_24,g35_26,g35_27,g35_29,g35_30,g35_31,g35_36,g35_42,g35_43,g35_45,g35_47,g35,lt_nil,brB_false]
     simp
 | cons y ys ih=>
   intro pre m hm hb
   cases m with
   | zero=>simp at hm
   | succ m=>
     have hb':(pre++y::ys).length≤BIG:=by unfold BIG; omega
     unfold l35_27
     simp only [g35_0,g35_1,g35_2,g35_46,g35_6,g35_7,g35_9,g35_10,g35_13,g35_14,g35_15,g35_16,g35_19,g35_20,g35_21,g35_22,g35_24,g35_26,g35_27,g35_29,g35_30,g35_31,g35_36,g35_42,g35_43,g35_45,g35_47,g35,lt_cons,in_cons,at_cons,if_true,brB_true,wrap_snoc pre ys y hb',untilNL]
     by_cases h:y.toNat=10
     ·have d:((y.toNat:Int) != 10)=false:=by simp [h]
      simp only [d,brB_false,if_pos h,Nat.sub_self,Nat.add_zero]
     ·have d:((y.toNat:Int) != 10)=true:=by simp only [bne_iff_ne,ne_eq]; omega
      simp only [d,brB_true,if_neg h]
      rw [app_cons pre ys y,ih (pre++[y]) m (by simpa using hm) (by rw [←app_cons]; exact hb)]
      have:=untilNL_le ys
      congr 2; simp; omega
theorem drop_pre {α:Type} (pre ys:List α):((pre++ys).drop (Int.toNat (pre.length:Int))).take (Int.toNat ((pre++ys).length:Int) - Int.toNat (pre.length:Int))=ys:=by
 rw [Int.toNat_natCast,Int.toNat_natCast,List.drop_left]
 exact List.take_of_length_le (by simp)
theorem in_pre {α:Type} (pre ys:List α):(0≤(pre.length:Int)∧(pre.length:Int)≤((pre++ys).length:Int)∧((pre++ys).length:Int)≤((pre++ys).length:Int))=True:=by
 simp only [List.length_append,eq_iff_iff,iff_true]; omega
theorem ltokens {R:Type} (k0:List Tok→Int→Int→Option R) (kk:List Tok→Option R):
  ∀ (f:Nat) (ys pre:List UInt8) (out:List Tok) (l:Int) (m:Nat),ys.length≤f→ys.length < m→(pre++ys).length < 30000→0≤l→l+ys.length≤1000000000→out.length+ys.length≤1000000000→
    l35_43 30000 (S61 30000) k0 (fun _ o _ _=>kk o) m (pre++ys) out l (pre.length:Int)=
     match toks f l ys with | .inl (l',e)=>k0 [] l' e | .inr ts=>kk (out++ts):=by
 intro f
 induction f with
 | zero=>
   intro ys pre out l m hf hm hb h0 h1 h2
   have:ys=[]:=List.length_eq_zero_iff.1 (by omega)
   subst this
   cases m with
   | zero=>simp at hm
   | succ m=>
     unfold l35_43
     simp only [g35_0,g35_1,g35_2,g35_46,g35_6,g35_7,g35_9,g35_10,g35_13,g35_14,g35_15,g35_16,g35_19,g35_20,g35_21,g35_22,g35_24,g35_26,g35_27,g35_29,g35_30,g35_31,g35_36,g35_42,g35_43,g35_45,g35_47,g35,lt_nil,brB_false,toks]
     rw [List.append_nil]
 | succ f ih=>
   intro ys pre out l m hf hm hb h0 h1 h2
   cases ys with
   | nil=>
     cases m with
     | zero=>simp at hm
     | succ m=>
       unfold l35_43
       simp only [g35_0,g35_1,g35_2,g35_46,g35_6,g35_7,g35_9,g35_10,g35_13,g35_14,g35_15,g35_16,g35_19,g35_20,g35_21,g35_22,g35_24,g35_26,g35_27,g35_29,g35_30,g35_31,g35_36,g35_42,g35_43,g35_45,g35_47,g35,lt_nil,brB_false,toks]
       rw [List.append_nil]
   | cons c s=>
     cases m with
     | zero=>simp at hm
     | succ m=>
       simp only [List.length_cons,List.length_append] at hf hm hb h1 h2
       have hbg:(pre++c::s).length≤BIG:=by unfold BIG; simp; omega
       have w1:IntKind.i64.wrap (l+1)=l+1:=wrap_id (by omega)
       have hgo:∀ (out:List Tok) (l:Int),0≤l→l+s.length≤1000000000→out.length+s.length≤1000000000→
         l35_43 30000 (S61 30000) k0 (fun _ o _ _=>kk o) m (pre++c::s) out l ((pre++[c]).length:Int)=match toks f l s with | .inl (l',e)=>k0 [] l' e | .inr ts=>kk (out++ts):=by
        intro out l g0 g1 g2
        rw [app_cons pre s c]
        exact ih s (pre++[c]) out l m (by omega) (by omega) (by simp; omega) g0 g1 g2
       have hsk:=lskip (R:=R) (l35_43 30000 (S61 30000) k0 (fun _ o _ _=>kk o) m) out l (c::s) pre 30000 (by simp; omega) (by simp; omega)
       have hnx:=(vnext c s (by simp; omega)).1
       unfold l35_43
       simp only [g35_0,g35_1,g35_2,g35_46,g35_6,g35_7,g35_9,g35_10,g35_13,g35_14,g35_15,g35_16,g35_19,g35_20,g35_21,g35_22,g35_24,g35_26,g35_27,g35_29,g35_30,g35_31,g35_36,g35_42,g35_43,g35_45,g35_47,g35,lt_cons,in_cons,at_cons,if_true,brB_true,w1,wrap_snoc pre s c hbg,in_pre,drop_pre,toks]
       by_cases c1:c.toNat=10
       ·have d1:((c.toNat:Int)==10)=true:=by simp [c1]
        simp only [d1,brB_true,if_pos c1]
        exact hgo out (l+1) (by omega) (by omega) (by omega)
       ·have d1:((c.toNat:Int)==10)=false:=by simp only [beq_eq_false_iff_ne,ne_eq]; omega
        simp only [d1,brB_false,if_neg c1]
        have go2:=hgo out l h0 (by omega) (by omega)
        by_cases c2:c.toNat=32
        ·have d2:((c.toNat:Int)==32)=true:=by simp [c2]
         have hw:isW c=true:=by unfold isW; simp [c2]
         simp only [d2,brB_true,hw,if_true]
         exact go2
        ·have d2:((c.toNat:Int)==32)=false:=by simp only [beq_eq_false_iff_ne,ne_eq]; omega
         simp only [d2,brB_false]
         by_cases c3:c.toNat=9
         ·have d3:((c.toNat:Int)==9)=true:=by simp [c3]
          have hw:isW c=true:=by unfold isW; simp [c3]
          simp only [d3,brB_true,hw,if_true]
          exact go2
         ·have d3:((c.toNat:Int)==9)=false:=by simp only [beq_eq_false_iff_ne,ne_eq]; omega
          simp only [d3,brB_false]
          by_cases c4:c.toNat=13
          ·have d4:((c.toNat:Int)==13)=true:=by simp [c4]
           have hw:isW c=true:=by unfold isW; simp [c4]
           simp only [d4,brB_true,hw,if_true]
           exact go2
          ·have d4:((c.toNat:Int)==13)=false:=by simp only [beq_eq_false_iff_ne,ne_eq]; omega
           have hw:isW c=false:=by unfold isW; simp [c2,c3,c4]
           simp only [d4,brB_false,hw,Bool.false_eq_true,if_false]
           by_cases c5:c.toNat=35
           ·have d5:((c.toNat:Int)==35)=true:=by simp [c5]
            simp only [d5,brB_true,if_pos c5]
            obtain ⟨q,hq,_⟩:=until_split s
            have hu:untilNL (c::s)=untilNL s:=by simp only [untilNL,if_neg c1]
            have hlq:s.length=q.length+(untilNL s).length:=by
             have:=congrArg List.length hq
             rw [List.length_append] at this; exact this
            have hpre:pre++c::s=(pre++c::q)++untilNL s:=by
             rw [List.append_assoc,List.cons_append,←hq]
            rw [hu] at hsk
            have hix:((pre.length+((c::s).length - (untilNL s).length):Nat):Int)=((pre++c::q).length:Int):=by
             simp only [List.length_cons,List.length_append]; omega
            rw [hix] at hsk
            have:=ih (untilNL s) (pre++c::q) out l m (by omega) (by omega) (by simp; omega) h0 (by omega) (by omega)
            rw [←hpre] at this
            have e:(fun (y0:List UInt8) (y1:List Tok) (y2 y3:Int)=>l35_43 30000 (S61 30000) k0 (fun _ o _ _=>kk o) m y0 y1 y2 y3)=l35_43 30000 (S61 30000) k0 (fun _ o _ _=>kk o) m:=rfl
            exact hsk.trans this
           ·have d5:((c.toNat:Int)==35)=false:=by simp only [beq_eq_false_iff_ne,ne_eq]; omega
            simp only [d5,brB_false,if_neg c5]
            unfold nxP at hnx
            cases hx:nx (c::s) with
            | inl e=>
              rw [hx] at hnx
              obtain ⟨he,t,n,hr⟩:=hnx
              have d6:(e != 0)=true:=by simpa using he
              simp only [hr,Option.bind_some,d6,brB_true]
            | inr q=>
              obtain ⟨k,x,n⟩:=q
              rw [hx] at hnx
              obtain ⟨hp,hle,hr⟩:=hnx
              have d6:((0:Int) != 0)=false:=rfl
              simp only [List.length_cons] at hle
              have w2:IntKind.i64.wrap ((pre.length:Int)+(n:Int))=((pre++(c::s).take n).length:Int):=by
               rw [wrap_id (by omega),List.length_append,List.length_take,List.length_cons]; omega
              have hl:out.length+[(k,(x,(l,())))].length≤4398046511104:=by simp; omega
              simp only [hr,Option.bind_some,d6,brB_false,if_pos hl,w2]
              have hpre:pre++c::s=(pre++(c::s).take n)++(c::s).drop n:=by rw [List.append_assoc,List.take_append_drop]
              have hdl:((c::s).drop n).length=s.length+1 - n:=by rw [List.length_drop,List.length_cons]
              have:=ih ((c::s).drop n) (pre++(c::s).take n) (out++[(k,(x,(l,())))]) l m (by omega) (by omega) (by rw [←hpre]; simp; omega) h0 (by omega) (by simp only [List.length_append,List.length_cons,List.length_nil]; omega)
              rw [←hpre] at this
              refine this.trans ?_
              cases toks f l ((c::s).drop n) with
              | inl q=>rfl
              | inr ts=>simp
end Go.Fw.L19
