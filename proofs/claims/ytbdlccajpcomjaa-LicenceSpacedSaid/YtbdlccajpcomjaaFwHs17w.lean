/- Tokens: the next token; all of them. -/
import Derived.Test.YtbdlccajpcomjaaFwHs17v
set_option linter.unusedVariables false
set_option linter.unusedSimpArgs false
namespace Go.Fw.L19
open Go Go.Fw
set_option maxRecDepth 100000
set_option linter.unusedSimpArgs false
set_option linter.unusedVariables false
def nx:List UInt8→Sum Int (Int×(List UInt8×Nat))
 | []=>.inl 2
 | c::t=>
   if smB c then (if 20 < nmL (c::t) then .inl 3 else .inr (1,(c::t).take (nmL (c::t)),nmL (c::t)))
   else if dgB c then (if 6 < cnt dgB (c::t) then .inl 3 else if c.toNat=48∧1 < cnt dgB (c::t) then .inl 2 else .inr (2,(c::t).take (cnt dgB (c::t)),cnt dgB (c::t)))
   else if c.toNat=34 then (if (quoT t).1=0 then .inr (3,(quoT t).2,(quoT t).2.length+2) else .inl (quoT t).1)
   else if sgB c then .inr (4,[c],1) else .inl 2
def nxP (s:List UInt8) (r:Option (Tok×Int×Int)):Prop:=match nx s with
 | .inl e=>e≠0∧∃ t n,r=some (t,n,e)
 | .inr (k,x,n)=>0 < n∧n≤s.length∧r=some ((k,(x,((0:Int),()))),(n:Int),0)
theorem quoT_len (t:List UInt8):(quoT t).1=0→(quoT t).2.length+1≤t.length:=by
 intro h
 unfold quoT at h ⊢
 have hd:=drop_cnt inB' t
 cases hdr:t.drop (cnt inB' t) with
 | nil=>rw [hdr] at h; simp at h
 | cons d r=>
   obtain ⟨h1,_⟩:=hd.2 d r hdr
   rw [hdr] at h
   simp only at h ⊢
   split at h
   ·simp at h
   ·rename_i h3
    rw [if_neg h3]
    split at h
    ·simp at h
    ·rename_i h4
     rw [if_neg h4,List.length_take]; omega
theorem cnt_take (p:UInt8→Bool):∀ s:List UInt8,cnt p (s.take (cnt p s))=cnt p s
 | []=>rfl
 | c::s=>by
   by_cases h:p c=true
   ·simp only [cnt,h,if_true,List.take_succ_cons,cnt_take p s]
   ·simp only [cnt,h,Bool.false_eq_true,if_false,List.take_zero,cnt]
theorem vnext (c:UInt8) (t:List UInt8) (hs:(c::t).length < 30000):nxP (c::t) (S61 30000 (c::t))∧nxP (c::t) (S33 30000 (c::t)):=by
 have hn:=vnm (c::t) hs
 have hd:=vdg (c::t) hs
 have hnl:=nmL_le (c::t)
 have hdl:=cnt_le dgB (c::t)
 obtain ⟨⟨r,hr1,hr2⟩,hsg⟩:=vsign c
 have hz:0≤(0:Int)∧(0:Int) < ((c::t).length:Int):=by simp only [List.length_cons]; omega
 have hc:(((c::t).getD (0:Int).toNat 0).toNat:Int)=(c.toNat:Int):=rfl
 have hq1:0≤(0:Int)∧(0:Int)≤(1:Int)∧(1:Int)≤((c::t).length:Int):=by simp only [List.length_cons]; omega
 have ht1:((c::t).drop (0:Int).toNat).take ((1:Int).toNat - (0:Int).toNat)=[c]:=rfl
 have htk:∀ n:Nat,((c::t).drop (0:Int).toNat).take (Int.toNat (n:Int) - (0:Int).toNat)=(c::t).take n:=fun n=>by rw [Int.toNat_natCast]; rfl
 have hrg:∀ n:Nat,n≤(c::t).length→(0≤(0:Int)∧(0:Int)≤(n:Int)∧(n:Int)≤((c::t).length:Int))=True:=fun n h=>by simp only [eq_iff_iff,iff_true]; omega
 have hnum:=vnum ((c::t).take (cnt dgB (c::t))) (by rw [List.length_take]; omega)
 unfold S61 S33 nxP
 simp only [g61_0,g61_1,g61_2,g61_3,g61_4,g61_5,g61_7,g61_8,g61_9,g61_10,g61_11,g61_17,g61_15,g61_18,g61_19,g61_22,g61_23,g61_24,g61_30,g61_31,g61,g33_0,g33_8,g33_3,g33_4,g33_6,g33_19,g33_11,g33_12,g33_14,g33_15,g33_17,g33_20,g33_21,g33_23,g33_24,g33_26,g33_27,g33,v76,v77,hn.1,hn.2,hd.1,hd.2,Option.bind_some,if_pos hz,hc,hr1,hr2,hsg,htk,hrg _ hnl,hrg _ hdl,hnum.1,if_true,if_pos hq1,ht1,nx]
 cases h1:sm (c.toNat:Int) with
 | true=>
   have h1':smB c=true:=h1
   have hp:0 < nmL (c::t):=by simp only [nmL,h1',if_true]; omega
   have d0:decide ((nmL (c::t):Int) > 0)=true:=decide_eq_true (by omega)
   simp only [h1',if_true,brB_true,d0]
   by_cases h2:20 < nmL (c::t)
   ·have d1:decide ((nmL (c::t):Int) > 20)=true:=decide_eq_true (by omega)
    simp only [d1,brB_true,if_pos h2]
    exact ⟨⟨by decide,_,_,rfl⟩,by decide,_,_,rfl⟩
   ·have d1:decide ((nmL (c::t):Int) > 20)=false:=decide_eq_false (by omega)
    simp only [d1,brB_false,if_neg h2]
    exact ⟨⟨hp,hnl,by first | rfl | trivial⟩,hp,hnl,by first | rfl | trivial⟩
 | false=>
   have h1':smB c=false:=h1
   have hp:nmL (c::t)=0:=by simp only [nmL,h1',Bool.false_eq_true,if_false]
   have d0:decide ((nmL (c::t):Int) > 0)=false:=decide_eq_false (by omega)
   simp only [h1',Bool.false_eq_true,if_false,brB_false,d0]
   cases h2:dg (c.toNat:Int) with
   | true=>
     have h2':dgB c=true:=h2
     have hp2:0 < cnt dgB (c::t):=by simp only [cnt,h2',if_true]; omega
     have d2:decide ((cnt dgB (c::t):Int) > 0)=true:=decide_eq_true (by omega)
     simp only [h2',if_true,brB_true,d2]
     by_cases h3:6 < cnt dgB (c::t)
     ·have d1:decide ((cnt dgB (c::t):Int) > 6)=true:=decide_eq_true (by omega)
      simp only [d1,brB_true,if_pos h3]
      exact ⟨⟨by decide,_,_,rfl⟩,by decide,_,_,rfl⟩
     ·have d1:decide ((cnt dgB (c::t):Int) > 6)=false:=decide_eq_false (by omega)
      have hlen:((c::t).take (cnt dgB (c::t))).length=cnt dgB (c::t):=by rw [List.length_take]; omega
      have hne:((c::t).take (cnt dgB (c::t))==([]:List UInt8))=false:=by
       simp only [beq_eq_false_iff_ne,ne_eq]; intro h; rw [h] at hlen; simp at hlen; omega
      have hhd:((c::t).take (cnt dgB (c::t))).headD 0=c:=by
       obtain ⟨k,hk⟩:∃ k,cnt dgB (c::t)=k+1:=⟨cnt dgB (c::t) - 1,by omega⟩
       rw [hk]; rfl
      have hok:(numR ((c::t).take (cnt dgB (c::t)))).2=!(decide (1 < cnt dgB (c::t))&&(c.toNat==48)):=by
       unfold numR numOk
       rw [hne,hlen,cnt_take,hhd]
       have d3:decide (cnt dgB (c::t)≤6)=true:=decide_eq_true (by omega)
       have d4:(cnt dgB (c::t)==cnt dgB (c::t))=true:=by simp
       rw [d3,d4]
       cases h:(decide (1 < cnt dgB (c::t))&&(c.toNat==48))<;>rfl
      simp only [d1,brB_false,if_neg h3,hok,Bool.not_not]
      by_cases h4:c.toNat=48∧1 < cnt dgB (c::t)
      ·have d5:(decide (1 < cnt dgB (c::t))&&(c.toNat==48))=true:=by simp [h4.1,h4.2]
       have d6:((c.toNat:Int)==48)=true:=by simp [h4.1]
       have d7:decide ((cnt dgB (c::t):Int) > 1)=true:=decide_eq_true (by omega)
       simp only [d5,d6,d7,brB_true,if_pos h4]
       exact ⟨⟨by decide,_,_,rfl⟩,by decide,_,_,rfl⟩
      ·have d5:(decide (1 < cnt dgB (c::t))&&(c.toNat==48))=false:=by
        cases h5:decide (1 < cnt dgB (c::t)) with
        | false=>rfl
        | true=>
          have h5:=of_decide_eq_true h5
          simp only [Bool.true_and,beq_eq_false_iff_ne,ne_eq]
          exact fun h6=>h4 ⟨h6,h5⟩
       simp only [d5,brB_false,if_neg h4]
       refine ⟨⟨hp2,hdl,by first | rfl | trivial⟩,hp2,hdl,?_⟩
       by_cases h6:c.toNat=48
       ·have d6:((c.toNat:Int)==48)=true:=by simp [h6]
        have d7:decide ((cnt dgB (c::t):Int) > 1)=false:=decide_eq_false (by have:=fun h=>h4 ⟨h6,h⟩; omega)
        simp only [d6,d7,brB_true,brB_false]
       ·have d6:((c.toNat:Int)==48)=false:=by simp only [beq_eq_false_iff_ne,ne_eq]; omega
        simp only [d6,brB_false]
   | false=>
     have h2':dgB c=false:=h2
     have hp2:cnt dgB (c::t)=0:=by simp only [cnt,h2',Bool.false_eq_true,if_false]
     have d2:decide ((cnt dgB (c::t):Int) > 0)=false:=decide_eq_false (by omega)
     simp only [h2',Bool.false_eq_true,if_false,brB_false,d2]
     by_cases h3:c.toNat=34
     ·have d3:((c.toNat:Int)==34)=true:=by simp [h3]
      simp only [d3,brB_true,if_pos h3,vquoted c t hs,vinQuotes c t hs,Option.bind_some]
      have hql:=quoT_len t
      have he:(quoT t).1=0∨(quoT t).1=2∨(quoT t).1=3:=by
       unfold quoT
       split
       ·split
        ·exact .inr (.inl rfl)
        ·split
         ·exact .inr (.inr rfl)
         ·exact .inl rfl
       ·exact .inr (.inl rfl)
      by_cases h4:(quoT t).1=0
      ·have hl:=hql h4
       have w:IntKind.i64.wrap (((quoT t).2.length:Int)+2)=(((quoT t).2.length+2:Nat):Int):=by
        rw [wrap_id (by simp at hs; omega)]; omega
       simp only [if_pos h4]
       exact ⟨⟨by omega,by simp only [List.length_cons]; omega,by rw [w,h4]⟩,by omega,by simp only [List.length_cons]; omega,by first | rfl | trivial⟩
      ·simp only [if_neg h4]
       have:(quoT t).1≠0:=h4
       exact ⟨⟨this,_,_,rfl⟩,this,_,_,rfl⟩
     ·have d3:((c.toNat:Int)==34)=false:=by simp only [beq_eq_false_iff_ne,ne_eq]; omega
      simp only [d3,brB_false,if_neg h3]
      cases h4:sgB c with
      | true=>
        simp only [brB_true,if_true]
        exact ⟨⟨by omega,by simp,rfl⟩,by omega,by simp,rfl⟩
      | false=>
        simp only [brB_false,Bool.false_eq_true,if_false]
        exact ⟨⟨by decide,_,_,rfl⟩,by decide,_,_,rfl⟩
def untilNL:List UInt8→List UInt8
 | []=> []
 | c::s=>if c.toNat=10 then c::s else untilNL s
theorem untilNL_le:∀ s,(untilNL s).length≤s.length
 | []=>Nat.le_refl _
 | c::s=>by
   simp only [untilNL]
   split
   ·exact Nat.le_refl _
   ·have:=untilNL_le s; simp only [List.length_cons]; omega
def isW (c:UInt8):Bool:=(c.toNat==32) || ((c.toNat==9) || (c.toNat==13))
def toks:Nat→Int→List UInt8→Sum (Int×Int) (List Tok)
 | _,_,[]=>.inr []
 | 0,_,_::_=>.inr []
 | f+1,l,c::s=>
   if c.toNat=10 then toks f (l+1) s
   else if isW c then toks f l s
   else if c.toNat=35 then toks f l (untilNL s)
   else match nx (c::s) with
    | .inl e=>.inl (l,e)
    | .inr (k,x,n)=>match toks f l ((c::s).drop n) with
      | .inl q=>.inl q
      | .inr ts=>.inr ((k,(x,(l,())))::ts)
theorem nx_pos {s:List UInt8} {k:Int} {x:List UInt8} {n:Nat} (h:nx s=.inr (k,x,n)):0 < n:=by
 unfold nx at h
 split at h
 ·cases h
 ·rename_i c t
  split at h
  ·rename_i h1
   split at h
   ·cases h
   ·cases h; simp only [nmL,h1,if_true]; omega
  ·split at h
   ·rename_i h1
    split at h
    ·cases h
    ·split at h
     ·cases h
     ·cases h; simp only [cnt,h1,if_true]; omega
   ·split at h
    ·split at h
     ·cases h; omega
     ·cases h
    ·split at h
     ·cases h; omega
     ·cases h
theorem toks_fuel:∀ (f g:Nat) (l:Int) (s:List UInt8),s.length≤f→s.length≤g→toks f l s=toks g l s
 | 0,g,l,[],_,_=>by cases g<;>rfl
 | 0,_,_,_::_,h,_=>by simp at h
 | f+1,0,l,[],_,_=>rfl
 | f+1,g+1,l,[],_,_=>rfl
 | _+1,0,_,_::_,_,h=>by simp at h
 | f+1,g+1,l,c::s,h1,h2=>by
   simp only [List.length_cons] at h1 h2
   simp only [toks]
   rw [toks_fuel f g (l+1) s (by omega) (by omega),toks_fuel f g l s (by omega) (by omega),toks_fuel f g l (untilNL s) (by have:=untilNL_le s; omega) (by have:=untilNL_le s; omega)]
   split
   ·rfl
   ·split
    ·rfl
    ·split
     ·rfl
     ·split
      ·rfl
      ·rename_i k x n hn
       have hp:=nx_pos hn
       have hl:((c::s).drop n).length≤s.length:=by rw [List.length_drop,List.length_cons]; omega
       rw [toks_fuel f g l ((c::s).drop n) (by omega) (by omega)]
end Go.Fw.L19
