/- The parser: rules, lists of rules; the program. -/
import Derived.Test.YtbdlccajpcomjaaFwHs17pa
import Derived.Test.YtbdlccajpcomjaaFwHs17d
set_option linter.unusedVariables false
set_option linter.unusedSimpArgs false
namespace Go.Fw.L19
open Go Go.Fw
set_option maxRecDepth 100000
set_option linter.unusedSimpArgs false
set_option linter.unusedVariables false
def pIn (r2:List Tok):Sum (List Tok) (List (List UInt8)×List Tok):=
 if isT r2 1 [105,110]=true then (if isT r2.tail 3 []=true then (match pW r2.tail.tail with
  | .inl f=>.inl f
  | .inr (ws,r)=>.inr ((hdT r2.tail).2.1::ws,r)) else .inl r2.tail) else .inr ([],r2)
def pRule (ts:List Tok):Sum (List Tok) ((List UInt8×(Int×List (List UInt8)))×List Tok):=
 if isT ts 1 []=true then (if isT ts.tail 2 []=true then (match pIn ts.tail.tail with
  | .inl f=>.inl f
  | .inr (ws,r)=>if isT r 4 [59]=true then .inr (((hdT ts).2.1,((numR (hdT ts.tail).2.1).1,ws)),r.tail) else .inl r) else .inl ts.tail) else .inl ts
theorem pIn_suf {L ts:List Tok} (h:ts <:+L):sufO L (pIn ts):=by
 unfold pIn
 split
 ·split
  ·have:=pW_suf (L:=L) _ ts.tail.tail (Nat.le_refl _) (suf_tail (suf_tail h))
   cases hp:pW ts.tail.tail with
   | inl f=>rw [hp] at this; exact this
   | inr x=>rw [hp] at this; exact this
  ·exact suf_tail h
 ·exact h
theorem pRule_suf {L ts:List Tok} (h:ts <:+L):sufO L (pRule ts):=by
 unfold pRule
 split
 ·split
  ·have:=pIn_suf (suf_tail (suf_tail h))
   cases hp:pIn ts.tail.tail with
   | inl f=>rw [hp] at this; exact this
   | inr x=>
     rw [hp] at this
     obtain ⟨ws,r⟩:=x
     simp only
     split
     ·exact suf_tail this
     ·exact this
  ·exact suf_tail h
 ·exact h
theorem hd_mem {L ts:List Tok} (h:ts <:+L) {k:Int} {s:List UInt8} (hi:isT ts k s=true):hdT ts∈L:=by
 obtain ⟨t,r,rfl⟩:=isT_cons hi
 exact h.mem (List.mem_cons_self ..)
theorem ptl (ts:List Tok):ts.tail=ts.tail:=rfl
theorem prule {L ts:List Tok} (h:ts <:+L) (hL:L.length < 30000) (hx:∀ t∈L,t.2.1.length < 30000):
  match pRule ts with
  | .inl f=>∃ r' nm,S39 30000 (L,(pos L ts,(false,())))=some ((L,(pos L f,(true,()))),r',nm)
  | .inr ((nm,(c,ws)),r)=>S39 30000 (L,(pos L ts,(false,())))=some ((L,(pos L r,(false,()))),(0,(c,(ws,()))),nm):=by
 have hL':L.length≤1000000:=by omega
 have hnil:S62 30000 ([]:List UInt8)=some (numR []):=(vnum [] (by simp)).1
 -- what follows the cost, if something went wrong
 have bad:∀ (f:List Tok) (nm:List UInt8) (c:Int),f <:+L→∃ (q:Option (Par×Rul×List UInt8)) (r':Rul),q=some ((L,(pos L f,(true,()))),r',nm):=fun f nm c _=>⟨_,(0,(c,([],()))),rfl⟩
 unfold S39
 simp only [g39_22,g39_4,g39_16,g39_7,g39_11,g39_13,g39_14,g39_18,g39_21,g39_22b,g39]
 unfold pRule
 cases h1:isT ts 1 [] with
 | false=>
   simp only [ptake_no h h1,ptake_bad,hnil,Option.bind_some,pis h,Bool.false_eq_true,if_false]
   cases isT ts 1 [105,110] with
   | true=>exact ⟨_,_,by simp only [brB_true,Bool.not_true,brB_false]; rfl⟩
   | false=>exact ⟨_,_,by simp only [brB_false]; rfl⟩
 | true=>
   have g1:ts.tail <:+L:=suf_tail h
   simp only [ptake_ok h hL' h1,Option.bind_some,if_true]
   cases h2:isT ts.tail 2 [] with
   | false=>
     simp only [ptake_no g1 h2,ptake_bad,hnil,Option.bind_some,pis g1,Bool.false_eq_true,if_false]
     cases isT ts.tail 1 [105,110] with
     | true=>exact ⟨_,_,by simp only [brB_true,Bool.not_true,brB_false]; rfl⟩
     | false=>exact ⟨_,_,by simp only [brB_false]; rfl⟩
   | true=>
     have g2:ts.tail.tail <:+L:=suf_tail g1
     have hnm:=(vnum (hdT ts.tail).2.1 (hx _ (hd_mem g1 h2))).1
     simp only [ptake_ok g1 hL' h2,hnm,Option.bind_some,if_true,pis g2]
     have hps:=pIn_suf g2
     have fin:∀ (r:List Tok) (c:Int) (ws:List (List UInt8)) (nm:List UInt8),r <:+L→∀ k:Option (Par×Rul×List UInt8),
       k=((S36 30000 (L,(pos L r,(false,()))) 4 [59]).bind fun q=>some (q.1,((0:Int),(c,(ws,()))),nm))→
       match (if isT r 4 [59]=true then Sum.inr ((nm,(c,ws)),r.tail) else Sum.inl r:Sum (List Tok) ((List UInt8×(Int×List (List UInt8)))×List Tok)) with
       | .inl f=>∃ (r':Rul) (nm':List UInt8),k=some ((L,(pos L f,(true,()))),r',nm')
       | .inr ((nm,(c,ws)),r')=>k=some ((L,(pos L r',(false,()))),(0,(c,(ws,()))),nm):=by
      intro r c ws nm hr k hk
      subst hk
      cases h6:isT r 4 [59] with
      | true=>simp only [if_true,ptake_ok hr hL' h6,Option.bind_some]
      | false=>
        simp only [Bool.false_eq_true,if_false,ptake_no hr h6,Option.bind_some]
        exact ⟨_,_,rfl⟩
     unfold pIn at hps ⊢
     cases h3:isT ts.tail.tail 1 [105,110] with
     | false=>
       simp only [brB_false,Bool.false_eq_true,if_false]
       exact fin ts.tail.tail (numR (hdT ts.tail).2.1).1 [] (hdT ts).2.1 g2 _ rfl
     | true=>
       have g3:ts.tail.tail.tail <:+L:=suf_tail g2
       obtain ⟨t0,r0,e0⟩:=isT_cons h3
       have hsuc:IntKind.i64.wrap (pos L ts.tail.tail+1)=pos L ts.tail.tail.tail:=by
        rw [e0]; exact pos_succ (by rw [←e0]; exact g2) hL'
       have hlim:∀ w:List UInt8,([]:List (List UInt8)).length+[w].length≤8796093022208:=fun w=>by simp
       simp only [brB_true,Bool.not_false,if_true,hsuc,pquoted]
       cases h4:isT ts.tail.tail.tail 3 [] with
       | false=>
         simp only [ptake_no g3 h4,Option.bind_some,if_pos (hlim _),Bool.false_eq_true,if_false]
         have hb:∀ (r':Rul) (x1:Rul) (nm:List UInt8) (k0:Par→Rul→Rul→List UInt8→Option (Par×Rul×List UInt8)),l39_14 (S37 30000) (S63 30000) k0 30000 (L,(pos L ts.tail.tail.tail,(true,()))) x1 r' nm=k0 (L,(pos L ts.tail.tail.tail,(true,()))) x1 r' nm:=by
          intro r' x1 nm k0
          unfold l39_14
          simp only [g39_22,g39_4,g39_16,g39_7,g39_11,g39_13,g39_14,g39_18,g39_21,g39_22b,g39,pis g3,Option.bind_some]
          cases isT ts.tail.tail.tail 4 [44] with
          | true=>simp only [brB_true,Bool.not_true,brB_false]
          | false=>simp only [brB_false]
         refine ⟨((0:Int),((numR (hdT ts.tail).2.1).1,([]++[[]],()))),(hdT ts).2.1,Eq.trans (hb _ _ _ _) ?_⟩
         show Option.bind (S36 30000 (L,(pos L ts.tail.tail.tail,(true,()))) 4 [59]) _=_
         rw [ptake_bad]
         rfl
       | true=>
         have g4:ts.tail.tail.tail.tail <:+L:=suf_tail g3
         simp only [ptake_ok g3 hL' h4,Option.bind_some,if_pos (hlim _),if_true]
         have hlen:=suf_len g4
         have hw:=lwords (R:=Par×Rul×List UInt8) (fun x0 x1 x2 x3=>(S36 30000 x0 4 [59]).bind fun r=>some (r.1,x2,x3)) L hL' ((0:Int),((0:Int),([],()))) (hdT ts).2.1 ts.tail.tail.tail.tail.length ts.tail.tail.tail.tail 30000 ((0:Int),((numR (hdT ts.tail).2.1).1,(([]++[(hdT ts.tail.tail.tail).2.1]),()))) (Nat.le_refl _) (by omega) g4 (by simp only [List.nil_append,List.length_singleton]; omega)
         have hws:=pW_suf (L:=L) _ ts.tail.tail.tail.tail (Nat.le_refl _) g4
         cases hp:pW ts.tail.tail.tail.tail with
         | inl f=>
           rw [hp] at hw hws
           obtain ⟨r',hw⟩:=hw
           refine ⟨r',(hdT ts).2.1,?_⟩
           refine Eq.trans hw ?_
           simp only [ptake_bad,Option.bind_some]
         | inr x=>
           obtain ⟨ws,r⟩:=x
           rw [hp] at hw hws
           simp only at hw hws ⊢
           exact fin r (numR (hdT ts.tail).2.1).1 ((hdT ts.tail.tail.tail).2.1::ws) (hdT ts).2.1 hws _ hw
end Go.Fw.L19
