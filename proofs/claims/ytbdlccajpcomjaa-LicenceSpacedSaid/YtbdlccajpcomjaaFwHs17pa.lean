/- The parser: what is said of tokens; the program's steps. -/
import Derived.Test.YtbdlccajpcomjaaFwHs17z
set_option linter.unusedVariables false
set_option linter.unusedSimpArgs false
namespace Go.Fw.L19
open Go Go.Fw
set_option maxRecDepth 100000
set_option linter.unusedSimpArgs false
set_option linter.unusedVariables false
abbrev Par:Type:=List Tok×(Int×(Bool×Unit))
def isT (ts:List Tok) (k:Int) (s:List UInt8):Bool:=match ts with
 | []=>false
 | t::_=>(t.1==k)&&((s==[]) || (t.2.1==s))
def hdT (ts:List Tok):Tok:=ts.headD ((0:Int),([],((0:Int),())))
def pos (L ts:List Tok):Int:=((L.length - ts.length:Nat):Int)
theorem suf_tail {L ts:List Tok} (h:ts <:+L):ts.tail <:+L:=(List.tail_suffix ts).trans h
theorem suf_len {L ts:List Tok} (h:ts <:+L):ts.length≤L.length:=h.length_le
theorem pos_lt {L ts:List Tok} (h:ts <:+L):decide (pos L ts < (L.length:Int))=!ts.isEmpty:=by
 have:=suf_len h
 unfold pos
 cases ts with
 | nil=>simp
 | cons t r=>simp only [List.length_cons] at *; simp; omega
theorem pos_in {L r:List Tok} {t:Tok} (h:(t::r) <:+L):(0≤pos L (t::r)∧pos L (t::r) < (L.length:Int))=True:=by
 have:=suf_len h
 unfold pos
 simp only [List.length_cons] at *
 simp only [eq_iff_iff,iff_true]; omega
theorem at_pos {L r:List Tok} {t:Tok} (h:(t::r) <:+L) (d:Tok):L.getD (Int.toNat (pos L (t::r))) d=t:=by
 obtain ⟨p,rfl⟩:=h
 unfold pos
 rw [Int.toNat_natCast,List.length_append,Nat.add_sub_cancel]
 simp
theorem pos_succ {L r:List Tok} {t:Tok} (h:(t::r) <:+L) (hL:L.length≤1000000):IntKind.i64.wrap (pos L (t::r)+1)=pos L r:=by
 have:=suf_len h
 unfold pos
 simp only [List.length_cons] at *
 rw [wrap_id (by omega)]; omega
theorem pos_pred {L r:List Tok} {t:Tok} (h:(t::r) <:+L) (hL:L.length≤1000000):IntKind.i64.wrap (pos L r - 1)=pos L (t::r):=by
 have:=suf_len h
 unfold pos
 simp only [List.length_cons] at *
 rw [wrap_id (by omega)]; omega
theorem pis {L ts:List Tok} (h:ts <:+L) (b:Bool) (k:Int) (s:List UInt8):S37 30000 (L,(pos L ts,(b,()))) k s=some (isT ts k s):=by
 unfold S37
 simp only [g37_2,g37_2b,g37,pos_lt h]
 cases ts with
 | nil=>rfl
 | cons t r=>
   simp only [List.isEmpty_cons,Bool.not_false,brB_true,pos_in h,if_true,at_pos h,isT]
   cases (t.1==k) with
   | false=>simp only [brB_false,Bool.false_and]
   | true=>
     simp only [brB_true,Bool.true_and]
     cases (s==([]:List UInt8)) with
     | true=>simp only [brB_true,Bool.true_or]
     | false=>simp only [brB_false,Bool.false_or]
theorem isT_cons {ts:List Tok} {k:Int} {s:List UInt8} (h:isT ts k s=true):∃ t r,ts=t::r:=by
 cases ts with
 | nil=>simp [isT] at h
 | cons t r=>exact ⟨t,r,rfl⟩
theorem ptake_ok {L ts:List Tok} (h:ts <:+L) (hL:L.length≤1000000) {k:Int} {s:List UInt8} (hi:isT ts k s=true):
  S36 30000 (L,(pos L ts,(false,()))) k s=some ((L,(pos L ts.tail,(false,()))),(hdT ts).2.1):=by
 obtain ⟨t,r,rfl⟩:=isT_cons hi
 unfold S36
 simp only [g36_0,g36_1,g36_4,g36_8,g36_9,g36,pis h,hi,Option.bind_some,brB_false,Bool.not_true,pos_succ h hL,pos_pred h hL,pos_in h,if_true,at_pos h]
 rfl
theorem ptake_no {L ts:List Tok} (h:ts <:+L) {k:Int} {s:List UInt8} (hi:isT ts k s=false):
  S36 30000 (L,(pos L ts,(false,()))) k s=some ((L,(pos L ts,(true,()))),[]):=by
 unfold S36
 simp only [g36_0,g36_1,g36_4,g36_8,g36_9,g36,pis h,hi,Option.bind_some,brB_false,Bool.not_false,brB_true]
theorem ptake_bad (L:List Tok) (i:Int) (k:Int) (s:List UInt8):
  S36 30000 (L,(i,(true,()))) k s=some ((L,(i,(true,()))),[]):=by
 unfold S36
 simp only [g36_0,g36_1,g36_4,g36_8,g36_9,g36,brB_true]
theorem pquoted (x:Par):S63 30000 x=S36 30000 x 3 []:=by
 unfold S63
 simp only [g63_2,g63_2b,g63]
 cases S36 30000 x 3 []<;>rfl
def lineT (L ts:List Tok):Int:=match ts with
 | t::_=>t.2.2.1
 | []=>match L.getLast? with
   | some t=>t.2.2.1
   | none=>1
theorem last_get (L:List Tok) (h:L≠[]) (d:Tok):∃ t,L.getLast?=some t∧L.getD (L.length - 1) d=t:=by
 refine ⟨L.getLast h,List.getLast?_eq_some_getLast h,?_⟩
 rw [List.getD_eq_getElem?_getD,List.getElem?_eq_getElem (by have:=List.length_pos_iff.2 h; omega),Option.getD_some,List.getLast_eq_getElem]
theorem pline {L ts:List Tok} (h:ts <:+L) (hL:L.length≤1000000) (b:Bool):S38 30000 (L,(pos L ts,(b,())))=some (lineT L ts):=by
 unfold S38
 simp only [g38_0,g38_1,g38_2,g38_3,g38_4,g38_8,g38_9,g38,pos_lt h]
 cases ts with
 | cons t r=>simp only [List.isEmpty_cons,Bool.not_false,brB_true,pos_in h,if_true,at_pos h,lineT]
 | nil=>
   simp only [List.isEmpty_nil,Bool.not_true,brB_false,lineT]
   by_cases hn:L=[]
   ·subst hn; rfl
   ·have hp:=List.length_pos_iff.2 hn
    obtain ⟨t,h1,h2⟩:=last_get L hn ((0:Int),([],((0:Int),())))
    have d:decide ((L.length:Int) > 0)=true:=decide_eq_true (by omega)
    have w:IntKind.i64.wrap ((L.length:Int) - 1)=((L.length - 1:Nat):Int):=by rw [wrap_id (by omega)]; omega
    have hb:0≤((L.length - 1:Nat):Int)∧((L.length - 1:Nat):Int) < (L.length:Int):=by omega
    simp only [d,brB_true,w,if_pos hb,Int.toNat_natCast,h2,h1]
def pW:List Tok→Sum (List Tok) (List (List UInt8)×List Tok)
 | c::q::r=>if isT (c::q::r) 4 [44] then (if isT (q::r) 3 [] then (match pW r with
    | .inl f=>.inl f
    | .inr (ws,r')=>.inr (q.2.1::ws,r')) else .inl (q::r)) else .inr ([],c::q::r)
 | [c]=>if isT [c] 4 [44] then .inl [] else .inr ([],[c])
 | []=>.inr ([],[])
def sufO {α:Type} (L:List Tok):Sum (List Tok) (α×List Tok)→Prop
 | .inl f=>f <:+L
 | .inr q=>q.2 <:+L
theorem pW_suf {L:List Tok}:∀ (n:Nat) (ts:List Tok),ts.length≤n→ts <:+L→sufO L (pW ts)
 | _,[],_,h=>h
 | _,[c],_,h=>by
   simp only [pW]
   split
   ·exact suf_tail h
   ·exact h
 | 0,_::_::_,hn,_=>by simp at hn
 | n+1,c::q::r,hn,h=>by
   have h1:(q::r) <:+L:=suf_tail h
   have h2:r <:+L:=suf_tail h1
   have ih:=pW_suf (L:=L) n r (by simp at hn; omega) h2
   simp only [pW]
   split
   ·split
    ·cases hp:pW r with
     | inl f=>rw [hp] at ih; exact ih
     | inr x=>rw [hp] at ih; exact ih
    ·exact h1
   ·exact h
theorem lwords {R:Type} (k0:Par→Rul→Rul→List UInt8→Option R) (L:List Tok) (hL:L.length≤1000000) (x1:Rul) (x3:List UInt8):
  ∀ (n:Nat) (ts:List Tok) (m:Nat) (r:Rul),ts.length≤n→n < m→ts <:+L→r.2.2.1.length+ts.length≤2000000→
    match pW ts with
    | .inl f=>∃ r',l39_14 (S37 30000) (S63 30000) k0 m (L,(pos L ts,(false,()))) x1 r x3=k0 (L,(pos L f,(true,()))) x1 r' x3
    | .inr (ws,r2)=>l39_14 (S37 30000) (S63 30000) k0 m (L,(pos L ts,(false,()))) x1 r x3=k0 (L,(pos L r2,(false,()))) x1 (r.1,(r.2.1,(r.2.2.1++ws,r.2.2.2))) x3:=by
 intro n
 induction n with
 | zero=>
   intro ts m r hn hm hs hr
   have:ts=[]:=List.length_eq_zero_iff.1 (by omega)
   subst this
   cases m with
   | zero=>omega
   | succ m=>
     simp only [pW]
     unfold l39_14
     simp only [g39_22,g39_4,g39_16,g39_7,g39_11,g39_13,g39_14,g39_18,g39_21,g39_22b,g39,pis hs,isT,Option.bind_some,brB_false,List.append_nil]
 | succ n ih=>
   intro ts m r hn hm hs hr
   cases m with
   | zero=>omega
   | succ m=>
     have bad:∀ (f:List Tok) (r':Rul),f <:+L→0 < m→l39_14 (S37 30000) (S63 30000) k0 m (L,(pos L f,(true,()))) x1 r' x3=k0 (L,(pos L f,(true,()))) x1 r' x3:=by
      intro f r' hf hm
      obtain ⟨m,rfl⟩:∃ k,m=k+1:=⟨m - 1,by omega⟩
      unfold l39_14
      simp only [g39_22,g39_4,g39_16,g39_7,g39_11,g39_13,g39_14,g39_18,g39_21,g39_22b,g39,pis hf,Option.bind_some]
      cases isT f 4 [44] with
      | true=>simp only [brB_true,Bool.not_true,brB_false]
      | false=>simp only [brB_false]
     cases ts with
     | nil=>
       simp only [pW]
       unfold l39_14
       simp only [g39_22,g39_4,g39_16,g39_7,g39_11,g39_13,g39_14,g39_18,g39_21,g39_22b,g39,pis hs,isT,Option.bind_some,brB_false,List.append_nil]
     | cons c ts=>
       have hs1:ts <:+L:=suf_tail hs
       simp only [List.length_cons] at hn hr
       cases hi:isT (c::ts) 4 [44] with
       | false=>
         have hpw:pW (c::ts)=.inr ([],c::ts):=by
          cases ts with
          | nil=>simp only [pW,hi,Bool.false_eq_true,if_false]
          | cons q rr=>simp only [pW,hi,Bool.false_eq_true,if_false]
         rw [hpw]
         unfold l39_14
         simp only [g39_22,g39_4,g39_16,g39_7,g39_11,g39_13,g39_14,g39_18,g39_21,g39_22b,g39,pis hs,hi,Option.bind_some,brB_false,List.append_nil]
       | true=>
         unfold l39_14
         simp only [g39_22,g39_4,g39_16,g39_7,g39_11,g39_13,g39_14,g39_18,g39_21,g39_22b,g39,pis hs,hi,Option.bind_some,brB_true,Bool.not_false,pos_succ hs hL,pquoted]
         have hlim:∀ w:List UInt8,r.2.2.1.length+[w].length≤8796093022208:=fun w=>by simp; omega
         cases hq:isT ts 3 [] with
         | false=>
           have hpw:pW (c::ts)=.inl ts:=by
            cases ts with
            | nil=>simp only [pW,hi,if_true]
            | cons q rr=>simp only [pW,hi,hq,Bool.false_eq_true,if_false,if_true]
           rw [hpw]
           simp only [ptake_no hs1 hq,Option.bind_some,if_pos (hlim _)]
           exact ⟨_,bad ts _ hs1 (by omega)⟩
         | true=>
           obtain ⟨q,rr,rfl⟩:=isT_cons hq
           have hs2:rr <:+L:=suf_tail hs1
           simp only [List.length_cons] at hn hr
           simp only [ptake_ok hs1 hL hq,Option.bind_some,if_pos (hlim _),List.tail_cons,pW,hi,hq,if_true]
           have:=ih rr m (r.1,(r.2.1,((r.2.2.1++[(hdT (q::rr)).2.1]),r.2.2.2))) (by omega) (by omega) hs2 (by simp; omega)
           cases hp:pW rr with
           | inl f=>
             rw [hp] at this
             exact this
           | inr x=>
             obtain ⟨ws,r2⟩:=x
             rw [hp] at this
             simp only at this ⊢
             rw [this]
             have e:(hdT (q::rr)).2.1=q.2.1:=rfl
             rw [e,List.append_assoc,List.singleton_append]
end Go.Fw.L19
