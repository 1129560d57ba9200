/- The program's Parse. -/
import Derived.Test.YtbdlccajpcomjaaFwHs17pd
set_option linter.unusedVariables false
set_option linter.unusedSimpArgs false
namespace Go.Fw.L19
open Go Go.Fw
set_option maxRecDepth 100000
set_option linter.unusedSimpArgs false
set_option linter.unusedVariables false
def pAll (L:List Tok):Sum (List Tok) (List UInt8×List (Int×Qr)):=
 if isT L 1 [108,105,99,101,110,99,101]=true then (if isT L.tail 1 []=true then (if isT L.tail.tail 4 [123]=true then (match pRs L.length L.tail.tail.tail with
  | .inl f=>.inl f
  | .inr (qs,r)=>if r.tail=[] then .inr ((hdT L.tail).2.1,qs) else .inl r.tail) else .inl L.tail.tail) else .inl L.tail) else .inl L
def pEnd (x:List UInt8×List (Int×Qr)):Lic×(Int×Int):=match pK x.2 with
 | some ln=>(([],([],())),ln,9)
 | none=>if lic (x.1,(rulesK x.2,()))=0 then ((x.1,(rulesK x.2,())),0,0) else (([],([],())),0,lic (x.1,(rulesK x.2,())))
def pOut (s:List UInt8):Lic×(Int×Int):=
 if (tk s).2.2=0 then (match pAll (tk s).1 with
  | .inl f=>(([],([],())),lineT (tk s).1 f,2)
  | .inr x=>pEnd x) else (([],([],())),(tk s).2.1,(tk s).2.2)
theorem nx_bd {s:List UInt8} {k:Int} {x:List UInt8} {n:Nat} (h:nx s=.inr (k,x,n)):x.length≤n∧n≤s.length:=by
 unfold nx at h
 split at h
 ·cases h
 ·rename_i c t
  have n1:=nmL_le (c::t)
  have n2:=cnt_le dgB (c::t)
  split at h
  ·split at h
   ·cases h
   ·cases h; exact ⟨by rw [List.length_take]; omega,n1⟩
  ·split at h
   ·split at h
    ·cases h
    ·split at h
     ·cases h
     ·cases h; exact ⟨by rw [List.length_take]; omega,n2⟩
   ·split at h
    ·split at h
     ·rename_i hq
      cases h
      have:=quoT_len t hq
      simp only [List.length_cons]; omega
     ·cases h
    ·split at h
     ·cases h; simp
     ·cases h
theorem toks_bd:∀ (f:Nat) (l:Int) (s:List UInt8) (ts:List Tok),toks f l s=.inr ts→ts.length≤s.length∧∀ t∈ts,t.2.1.length≤s.length
 | f,l,[],ts,h=>by
   have:ts=[]:=by cases f<;>(simp only [toks] at h; cases h; rfl)
   subst this; simp
 | 0,l,c::s,ts,h=>by
   simp only [toks] at h; cases h; simp
 | f+1,l,c::s,ts,h=>by
   simp only [toks] at h
   have up:∀ (a:List UInt8),a.length≤s.length→ts.length≤a.length∧(∀ t∈ts,t.2.1.length≤a.length)→ts.length≤(c::s).length∧∀ t∈ts,t.2.1.length≤(c::s).length:=by
    intro a ha hh
    simp only [List.length_cons]
    exact ⟨by omega,fun t ht=>by have:=hh.2 t ht; omega⟩
   split at h
   ·exact up s (Nat.le_refl _) (toks_bd f _ s ts h)
   ·split at h
    ·exact up s (Nat.le_refl _) (toks_bd f _ s ts h)
    ·split at h
     ·exact up _ (untilNL_le s) (toks_bd f _ _ ts h)
     ·split at h
      ·cases h
      ·rename_i k x n hn
       have hp:=nx_pos hn
       have hb:=nx_bd hn
       cases hr:toks f l ((c::s).drop n) with
       | inl q=>rw [hr] at h; cases h
       | inr tt=>
         rw [hr] at h
         cases h
         have ih:=toks_bd f _ _ tt hr
         rw [List.length_drop] at ih
         simp only [List.length_cons] at ih hb ⊢
         refine ⟨by omega,?_⟩
         intro t ht
         rcases List.mem_cons.1 ht with rfl | ht
         ·simp only; omega
         ·have:=ih.2 t ht; omega
theorem tk_bd (s:List UInt8):(tk s).1.length≤s.length∧∀ t∈(tk s).1,t.2.1.length≤s.length:=by
 unfold tk
 cases h:toks s.length 1 s with
 | inl q=>simp
 | inr ts=>exact toks_bd _ _ _ _ h
theorem pos_self (L:List Tok):pos L L=0:=by unfold pos; simp
theorem fin (l:Lic) (e:Int):brB (e != 0) (some ((([],([],())):Lic),((0:Int),e))) (some (l,((0:Int),(0:Int))))=some (if e=0 then (l,(0,0)) else (([],([],())),(0,e))):=by
 by_cases h:e=0
 ·subst h; rfl
 ·have e1:(e != 0)=true:=by simpa using h
  rw [if_neg h,e1,brB_true]
theorem vParse (s:List UInt8) (hs:s.length+2 < 30000) (h2:s.length≤20000):S13 30000 s=some (pOut s):=by
 have hbd:=tk_bd s
 have hL2:(tk s).1.length+2 < 30000:=by omega
 have hL:(tk s).1.length < 30000:=by omega
 have hL':(tk s).1.length≤1000000:=by omega
 have hx:∀ t∈(tk s).1,t.2.1.length < 30000:=fun t ht=>by have:=hbd.2 t ht; omega
 unfold S13 pOut
 simp only [g13_47,g13_2,g13_3,g13_46,g13_12,g13_17,g13_19,g13_20,g13_22,g13_23,g13_24,g13_26,g13_27,g13_34,g13_32,g13_36,g13_37,g13_38,g13_44,g13_42,g13_45,g13_47b,g13,(vTokens s (by omega) h2).1,Option.bind_some]
 by_cases he:(tk s).2.2=0
 ·have e1:((tk s).2.2 != 0)=false:=by simpa using he
  rw [if_pos he]
  simp only [e1,brB_false]
  generalize (tk s).1=L at hL hL2 hL' hx
  clear hbd he e1
  have hs0:L <:+L:=List.suffix_refl L
  have hs1:L.tail <:+L:=suf_tail hs0
  have hs2:L.tail.tail <:+L:=suf_tail hs1
  have hs3:L.tail.tail.tail <:+L:=suf_tail hs2
  have p0:(L,((0:Int),(false,())))=((L,(pos L L,(false,()))):Par):=by rw [pos_self]
  rw [p0]
  -- the loop at once at its end
  have bad:∀ (k0:Lic→List Tok→Lic→List (List UInt8)→List Int→Par→Option (Lic×Int×Int)) (z:Lic) (f:List Tok) (x2:Lic) (x3:List (List UInt8)) (x4:List Int),l13_20 (S37 30000) (S38 30000) (S39 30000) k0 30000 z L x2 x3 x4 (L,(pos L f,(true,())))=k0 z L x2 x3 x4 (L,(pos L f,(true,()))):=by
   intro k0 z f x2 x3 x4
   conv=>lhs; unfold l13_20
   simp only [g13_47,g13_2,g13_3,g13_46,g13_12,g13_17,g13_19,g13_20,g13_22,g13_23,g13_24,g13_26,g13_27,g13_34,g13_32,g13_36,g13_37,g13_38,g13_44,g13_42,g13_45,g13_47b,g13,Bool.not_true,brB_false]
  unfold pAll
  cases h1:isT L 1 [108,105,99,101,110,99,101] with
  | false=>
    simp only [ptake_no hs0 h1,ptake_bad,Option.bind_some,bad,brB_true,pline hs0 hL',Bool.false_eq_true,if_false]
    simp only [g13_47,g13_2,g13_3,g13_46,g13_12,g13_17,g13_19,g13_20,g13_22,g13_23,g13_24,g13_26,g13_27,g13_34,g13_32,g13_36,g13_37,g13_38,g13_44,g13_42,g13_45,g13_47b,g13,ptake_bad,Option.bind_some,brB_true,pline hs0 hL']
  | true=>
    simp only [ptake_ok hs0 hL' h1,Option.bind_some,if_true]
    cases h2:isT L.tail 1 [] with
    | false=>
      simp only [ptake_no hs1 h2,ptake_bad,Option.bind_some,bad,brB_true,pline hs1 hL',Bool.false_eq_true,if_false]
      simp only [g13_47,g13_2,g13_3,g13_46,g13_12,g13_17,g13_19,g13_20,g13_22,g13_23,g13_24,g13_26,g13_27,g13_34,g13_32,g13_36,g13_37,g13_38,g13_44,g13_42,g13_45,g13_47b,g13,ptake_bad,Option.bind_some,brB_true,pline hs1 hL']
    | true=>
      simp only [ptake_ok hs1 hL' h2,Option.bind_some,if_true]
      cases h3:isT L.tail.tail 4 [123] with
      | false=>
        simp only [ptake_no hs2 h3,ptake_bad,Option.bind_some,bad,brB_true,pline hs2 hL',Bool.false_eq_true,if_false]
        simp only [g13_47,g13_2,g13_3,g13_46,g13_12,g13_17,g13_19,g13_20,g13_22,g13_23,g13_24,g13_26,g13_27,g13_34,g13_32,g13_36,g13_37,g13_38,g13_44,g13_42,g13_45,g13_47b,g13,ptake_bad,Option.bind_some,brB_true,pline hs2 hL']
      | true=>
        simp only [ptake_ok hs2 hL' h3,Option.bind_some,if_true]
        have hlen:=suf_len hs3
        have hp:=fun (k0:Lic→List Tok→Lic→List (List UInt8)→List Int→Par→Option (Lic×Int×Int)) (z:Lic) (nm:List UInt8)=>lprs k0 z nm hL hx L.length L.tail.tail.tail 30000 [] [] [] (suf_len hs3) (by omega) hs3 (by simp only [List.length_nil]; omega) (by simp only [List.length_nil]; omega) (by simp only [List.length_nil]; omega)
        have hsf:=pRs_suf L.length L.tail.tail.tail hs3
        cases hq:pRs L.length L.tail.tail.tail with
        | inl f=>
          rw [hq] at hsf
          simp only [hq] at hp
          have hf:∀ (k0:Lic→List Tok→Lic→List (List UInt8)→List Int→Par→Option (Lic×Int×Int)) (z:Lic) (nm:List UInt8) (o:Option (Lic×Int×Int)),(∀ x2 x3 x4,k0 z L x2 x3 x4 (L,(pos L f,(true,())))=o)→l13_20 (S37 30000) (S38 30000) (S39 30000) k0 30000 z L (nm,([],())) [] [] (L,(pos L L.tail.tail.tail,(false,())))=o:=by
           intro k0 z nm o ho
           obtain ⟨x2,x3,x4,h⟩:=hp k0 z nm
           rw [h,ho]
          refine hf _ _ _ _ ?_
          intro x2 x3 x4
          simp only [g13_47,g13_2,g13_3,g13_46,g13_12,g13_17,g13_19,g13_20,g13_22,g13_23,g13_24,g13_26,g13_27,g13_34,g13_32,g13_36,g13_37,g13_38,g13_44,g13_42,g13_45,g13_47b,g13,ptake_bad,Option.bind_some,brB_true,pline hsf hL']
        | inr x=>
          obtain ⟨qs,r⟩:=x
          rw [hq] at hsf
          simp only [hq] at hp
          obtain ⟨hr,hi,hql⟩:=hsf
          have hrt:r.tail <:+L:=suf_tail hr
          refine (hp _ _ _).trans ?_
          simp only [g13_47,g13_2,g13_3,g13_46,g13_12,g13_17,g13_19,g13_20,g13_22,g13_23,g13_24,g13_26,g13_27,g13_34,g13_32,g13_36,g13_37,g13_38,g13_44,g13_42,g13_45,g13_47b,g13,ptake_ok hr hL' hi,Option.bind_some,brB_false,pos_lt hrt,List.nil_append]
          have pl:=pline hrt hL' false
          cases hr0:r.tail with
          | cons t rr=>
            rw [hr0] at pl
            simp only [List.isEmpty_cons,Bool.not_false,brB_true,if_false,reduceCtorEq,pl,Option.bind_some]
          | nil=>
            simp only [List.isEmpty_nil,Bool.not_true,brB_false,if_true,pEnd]
            have hqn:(namesQ qs).length=qs.length:=by simp [namesQ]
            have hk:=fun (k0:Lic→Int→Int→Option (Lic×Int×Int)) (k1:Lic→Lic→List (List UInt8)→List Int→Int→Int→Option (Lic×Int×Int)) (z:Lic) (nm:List UInt8)=>lkinds k0 k1 z nm qs [] 30000 (by omega) (by simp only [List.nil_append]; omega)
            simp only [List.nil_append,rulesK,namesQ,linesQ,List.map_nil,List.length_nil,Int.natCast_zero] at hk hqn ⊢
            rw [hqn]
            cases hz:pK qs with
            | some ln=>
              simp only [hz] at hk
              exact hk _ _ _ _
            | none=>
              simp only [hz] at hk
              refine (hk _ _ _ _).trans ?_
              simp only [v16,Option.bind_some]
              exact fin _ _
 ·have e1:((tk s).2.2 != 0)=true:=by simpa using he
  rw [if_neg he]
  simp only [e1,brB_true]
end Go.Fw.L19
