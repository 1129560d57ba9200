/- The parser: all rules, the kinds; the program's Parse. -/
import Derived.Test.YtbdlccajpcomjaaFwHs17pb
set_option linter.unusedVariables false
set_option linter.unusedSimpArgs false
namespace Go.Fw.L19
open Go Go.Fw
set_option maxRecDepth 100000
set_option linter.unusedSimpArgs false
set_option linter.unusedVariables false
abbrev Qr:Type:=List UInt8×(Int×List (List UInt8))
theorem isT_nil (k:Int) (s:List UInt8):isT [] k s=false:=rfl
theorem pRule_dec {ts r:List Tok} {q:Qr} (h:pRule ts=.inr (q,r)):r.length < ts.length∧isT ts 1 []=true∧q.1=(hdT ts).2.1:=by
 unfold pRule at h
 split at h
 ·rename_i h1
  split at h
  ·rename_i h2
   have hs:=pIn_suf (L:=ts.tail.tail) (ts:=ts.tail.tail) (List.suffix_refl _)
   split at h
   ·cases h
   ·rename_i ws r0 he
    rw [he] at hs
    have hl:=suf_len hs
    simp only [List.length_tail] at hl
    obtain ⟨t,r',rfl⟩:=isT_cons h1
    split at h
    ·cases h
     exact ⟨by simp only [List.length_cons,List.length_tail] at *; omega,h1,rfl⟩
    ·cases h
  ·cases h
 ·cases h
def pRs:Nat→List Tok→Sum (List Tok) (List (Int×Qr)×List Tok)
 | 0,ts=>.inl ts
 | n+1,ts=>if isT ts 4 [125]=true then .inr ([],ts) else match pRule ts with
   | .inl f=>.inl f
   | .inr (q,r)=>match pRs n r with
     | .inl f=>.inl f
     | .inr (qs,r')=>.inr (((hdT ts).2.2.1,q)::qs,r')
theorem pRs_suf {L:List Tok}:∀ (n:Nat) (ts:List Tok),ts <:+L→(match pRs n ts with
  | .inl f=>f <:+L
  | .inr (qs,r)=>r <:+L∧isT r 4 [125]=true∧qs.length+r.length≤ts.length)
 | 0,ts,h=>h
 | n+1,ts,h=>by
   unfold pRs
   by_cases h0:isT ts 4 [125]=true
   ·rw [if_pos h0]; exact ⟨h,h0,by simp⟩
   ·rw [if_neg h0]
    have h1:=pRule_suf h
    cases hp:pRule ts with
    | inl f=>rw [hp] at h1; exact h1
    | inr x=>
      obtain ⟨q,r⟩:=x
      rw [hp] at h1
      have hd:=(pRule_dec hp).1
      have:=pRs_suf n r h1
      simp only
      cases hq:pRs n r with
      | inl f=>rw [hq] at this; exact this
      | inr y=>
        obtain ⟨qs,r'⟩:=y
        rw [hq] at this
        exact ⟨this.1,this.2.1,by have:=this.2.2; simp only [List.length_cons]; omega⟩
def kN:List (List UInt8):=[[109,117,116,101],[110,101,120,116],[98,114,101,118,105,115],[105,110,100,105,102,102,101,114,101,110,116],[108,101,110,103,116,104,101,110],[115,104,111,114,116,101,110],[115,121,110,105,122,101,115,105,115],[101,108,105,115,105,111,110],[101,99,116,104,108,105,112,115,105,115],[112,114,111,100,101,108,105,115,105,111,110],[104,105,97,116,117,115],[99,111,114,114,101,112,116,105,111,110]]
def kndL (s:List UInt8):List (List UInt8)→Int→Int
 | [],_=>0
 | n::r,k=>if n=s then k else kndL s r (k+1)
def knd (s:List UInt8):Int:=kndL s kN 1
def rules0 (qs:List (Int×Qr)):List Rul:=qs.map fun q=>(0,(q.2.2.1,(q.2.2.2,())))
def rulesK (qs:List (Int×Qr)):List Rul:=qs.map fun q=>(knd q.2.1,(q.2.2.1,(q.2.2.2,())))
def namesQ (qs:List (Int×Qr)):List (List UInt8):=qs.map fun q=>q.2.1
def linesQ (qs:List (Int×Qr)):List Int:=qs.map fun q=>q.1
def pK:List (Int×Qr)→Option Int
 | []=>none
 | q::r=>if knd q.2.1=0 then some q.1 else pK r
theorem lprs {R:Type} (k0:Lic→List Tok→Lic→List (List UInt8)→List Int→Par→Option R) (z:Lic) (nm:List UInt8) {L:List Tok} (hL:L.length < 30000) (hx:∀ t∈L,t.2.1.length < 30000):
  ∀ (n:Nat) (ts:List Tok) (m:Nat) (rs:List Rul) (ns:List (List UInt8)) (ls:List Int),ts.length≤n→n+1 < m→ts <:+L→rs.length+ts.length≤100000→ns.length+ts.length≤100000→ls.length+ts.length≤100000→
    match pRs n ts with
    | .inl f=>∃ x2 x3 x4,l13_20 (S37 30000) (S38 30000) (S39 30000) k0 m z L (nm,(rs,())) ns ls (L,(pos L ts,(false,())))=k0 z L x2 x3 x4 (L,(pos L f,(true,())))
    | .inr (qs,r)=>l13_20 (S37 30000) (S38 30000) (S39 30000) k0 m z L (nm,(rs,())) ns ls (L,(pos L ts,(false,())))=k0 z L (nm,(rs++rules0 qs,())) (ns++namesQ qs) (ls++linesQ qs) (L,(pos L r,(false,()))):=by
 have hL':L.length≤1000000:=by omega
 have bad:∀ (f:List Tok) (m:Nat) (x2:Lic) (x3:List (List UInt8)) (x4:List Int),0 < m→l13_20 (S37 30000) (S38 30000) (S39 30000) k0 m z L x2 x3 x4 (L,(pos L f,(true,())))=k0 z L x2 x3 x4 (L,(pos L f,(true,()))):=by
  intro f m x2 x3 x4 hm
  obtain ⟨m,rfl⟩:∃ k,m=k+1:=⟨m - 1,by omega⟩
  unfold l13_20
  simp only [g13_47,g13_2,g13_3,g13_46,g13_12,g13_17,g13_19,g13_20,g13_22,g13_23,g13_24,g13_26,g13_27,g13_34,g13_32,g13_36,g13_37,g13_38,g13_44,g13_42,g13_45,g13_47b,g13,Bool.not_true,brB_false]
 -- a rule that fails
 have fl:∀ (ts f:List Tok) (m:Nat) (rs:List Rul) (ns:List (List UInt8)) (ls:List Int),0 < m→ts <:+L→isT ts 4 [125]=false→pRule ts=.inl f→rs.length≤100000→ns.length≤100000→ls.length≤100000→
   ∃ x2 x3 x4,l13_20 (S37 30000) (S38 30000) (S39 30000) k0 (m+1) z L (nm,(rs,())) ns ls (L,(pos L ts,(false,())))=k0 z L x2 x3 x4 (L,(pos L f,(true,()))):=by
  intro ts f m rs ns ls hm hs h0 hp hr hn hl
  have hr1:=prule hs hL hx
  rw [hp] at hr1
  obtain ⟨r',nm',hr1⟩:=hr1
  have c1:∀ x:Int,ls.length+[x].length≤17592186044416:=fun x=>by simp; omega
  have c2:∀ x:Rul,rs.length+[x].length≤3518437208883:=fun x=>by simp; omega
  have c3:∀ x:List UInt8,ns.length+[x].length≤8796093022208:=fun x=>by simp; omega
  unfold l13_20
  simp only [g13_47,g13_2,g13_3,g13_46,g13_12,g13_17,g13_19,g13_20,g13_22,g13_23,g13_24,g13_26,g13_27,g13_34,g13_32,g13_36,g13_37,g13_38,g13_44,g13_42,g13_45,g13_47b,g13,Bool.not_false,brB_true,pis hs,h0,Option.bind_some,pline hs hL',hr1,if_pos (c1 _),if_pos (c2 _),if_pos (c3 _)]
  exact ⟨_,_,_,bad f m _ _ _ hm⟩
 intro n
 induction n with
 | zero=>
   intro ts m rs ns ls hn hm hs hr1 hr2 hr3
   have:ts=[]:=List.length_eq_zero_iff.1 (by omega)
   subst this
   obtain ⟨m,rfl⟩:∃ k,m=k+1:=⟨m - 1,by omega⟩
   simp only [pRs]
   exact fl [] [] m rs ns ls (by omega) hs rfl rfl (by omega) (by omega) (by omega)
 | succ n ih=>
   intro ts m rs ns ls hn hm hs hr1 hr2 hr3
   obtain ⟨m,rfl⟩:∃ k,m=k+1:=⟨m - 1,by omega⟩
   unfold pRs
   cases h0:isT ts 4 [125] with
   | true=>
     simp only [if_true]
     unfold l13_20
     simp only [g13_47,g13_2,g13_3,g13_46,g13_12,g13_17,g13_19,g13_20,g13_22,g13_23,g13_24,g13_26,g13_27,g13_34,g13_32,g13_36,g13_37,g13_38,g13_44,g13_42,g13_45,g13_47b,g13,Bool.not_false,brB_true,pis hs,h0,Option.bind_some,Bool.not_true,brB_false,rules0,namesQ,linesQ,List.map_nil,List.append_nil]
   | false=>
     simp only [Bool.false_eq_true,if_false]
     cases hp:pRule ts with
     | inl f=>exact fl ts f m rs ns ls (by omega) hs h0 hp (by omega) (by omega) (by omega)
     | inr x=>
       obtain ⟨⟨nm',c,ws⟩,r⟩:=x
       have hr1':=prule hs hL hx
       rw [hp] at hr1'
       have hd:=pRule_dec hp
       have hrs:r <:+L:=by have:=pRule_suf hs; rw [hp] at this; exact this
       have hln:lineT L ts=(hdT ts).2.2.1:=by
        obtain ⟨t,r',rfl⟩:=isT_cons hd.2.1; rfl
       have c1:∀ x:Int,ls.length+[x].length≤17592186044416:=fun x=>by simp; omega
       have c2:∀ x:Rul,rs.length+[x].length≤3518437208883:=fun x=>by simp; omega
       have c3:∀ x:List UInt8,ns.length+[x].length≤8796093022208:=fun x=>by simp; omega
       have hst:∀ y,y=l13_20 (S37 30000) (S38 30000) (S39 30000) k0 (m+1) z L (nm,(rs,())) ns ls (L,(pos L ts,(false,())))→
         y=l13_20 (S37 30000) (S38 30000) (S39 30000) k0 m z L (nm,(rs++[(0,(c,(ws,())))],())) (ns++[nm']) (ls++[(hdT ts).2.2.1]) (L,(pos L r,(false,()))):=by
        intro y hy
        rw [hy]
        conv=>lhs; unfold l13_20
        simp only [g13_47,g13_2,g13_3,g13_46,g13_12,g13_17,g13_19,g13_20,g13_22,g13_23,g13_24,g13_26,g13_27,g13_34,g13_32,g13_36,g13_37,g13_38,g13_44,g13_42,g13_45,g13_47b,g13,Bool.not_false,brB_true,pis hs,h0,Option.bind_some,pline hs hL',hr1',if_pos (c1 _),if_pos (c2 _),if_pos (c3 _),hln]
       have hi:=ih r m (rs++[(0,(c,(ws,())))]) (ns++[nm']) (ls++[(hdT ts).2.2.1]) (by omega) (by omega) hrs (by simp; omega) (by simp; omega) (by simp; omega)
       simp only
       cases hq:pRs n r with
       | inl f=>
         rw [hq] at hi
         obtain ⟨x2,x3,x4,hi⟩:=hi
         exact ⟨x2,x3,x4,(hst _ rfl).trans hi⟩
       | inr x=>
         obtain ⟨qs,r'⟩:=x
         rw [hq] at hi
         refine ((hst _ rfl).trans hi).trans ?_
         simp only [rules0,namesQ,linesQ,List.map_cons,List.append_assoc,List.singleton_append]
end Go.Fw.L19
