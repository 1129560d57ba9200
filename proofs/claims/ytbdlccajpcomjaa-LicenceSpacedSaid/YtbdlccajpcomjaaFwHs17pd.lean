/- The kinds; the program's Parse. -/
import Derived.Test.YtbdlccajpcomjaaFwHs17pc
set_option linter.unusedVariables false
set_option linter.unusedSimpArgs false
namespace Go.Fw.L19
open Go Go.Fw
set_option maxRecDepth 100000
set_option linter.unusedSimpArgs false
set_option linter.unusedVariables false
theorem kinds_ok:((List.range 12).all fun n=>S64 30000 ((n+1:Nat):Int)==some (kN.getD n [])&&S29 30000 ((n+1:Nat):Int)==some (kN.getD n []))=true:=by kernel_rfl
theorem vKind (n:Nat) (h:n < 12):S64 30000 ((n+1:Nat):Int)=some (kN.getD n [])∧S29 30000 ((n+1:Nat):Int)=some (kN.getD n []):=by
 have:=List.all_eq_true.1 kinds_ok n (List.mem_range.2 h)
 rw [Bool.and_eq_true,beq_iff_eq,beq_iff_eq] at this
 exact this
theorem lkind {R:Type} (k0:Int→Option R) (k1:List UInt8→Int→Option R) (s:List UInt8) (hk:∀ i,k1 s i=k0 0):
  ∀ (d n m:Nat),n+d=12→d < m→l40_10 (S64 30000) k0 k1 m s ((n+1:Nat):Int)=k0 (kndL s (kN.drop n) ((n+1:Nat):Int)):=by
 intro d
 induction d with
 | zero=>
   intro n m hn hm
   have:n=12:=by omega
   subst this
   obtain ⟨m,rfl⟩:∃ k,m=k+1:=⟨m - 1,by omega⟩
   unfold l40_10
   have d:decide (((12+1:Nat):Int)≤12)=false:=by decide
   simp only [g40_0,g40_1,g40_2,g40_4,g40_5,g40_8,g40_9,g40_10,g40_12,g40_13,g40,d,brB_false,hk]
   rfl
 | succ d ih=>
   intro n m hn hm
   obtain ⟨m,rfl⟩:∃ k,m=k+1:=⟨m - 1,by omega⟩
   unfold l40_10
   have dd:decide (((n+1:Nat):Int)≤12)=true:=decide_eq_true (by omega)
   have hl:n < kN.length:=by show n < 12; omega
   have w:IntKind.i64.wrap (((n+1:Nat):Int)+1)=((n+1+1:Nat):Int):=by rw [wrap_id (by omega)]; omega
   have hd:kN.drop n=kN.getD n []::kN.drop (n+1):=by
    rw [List.drop_eq_getElem_cons hl,List.getD_eq_getElem?_getD,List.getElem?_eq_getElem hl]; rfl
   simp only [g40_0,g40_1,g40_2,g40_4,g40_5,g40_8,g40_9,g40_10,g40_12,g40_13,g40,dd,brB_true,(vKind n (by omega)).1,Option.bind_some,w]
   rw [hd]
   simp only [kndL]
   by_cases he:kN.getD n []=s
   ·have e1:(kN.getD n []==s)=true:=by simpa using he
    rw [if_pos he,e1,brB_true]
   ·have e1:(kN.getD n []==s)=false:=by simpa using he
    rw [if_neg he,e1,brB_false,ih (n+1) m (by omega) (by omega)]
    congr 2
theorem vkind (s:List UInt8):S40 30000 s=some (knd s):=by
 have:=lkind (R:=Int) some (fun _ _=>some 0) s (fun _=>rfl) 12 0 30000 rfl (by omega)
 unfold S40
 simp only [g40_0,g40_1,g40_2,g40_4,g40_5,g40_8,g40_9,g40_10,g40_12,g40_13,g40]
 exact this
theorem lkinds {R:Type} (k0:Lic→Int→Int→Option R) (k1:Lic→Lic→List (List UInt8)→List Int→Int→Int→Option R) (z:Lic) (nm:List UInt8):
  ∀ (ys pre:List (Int×Qr)) (m:Nat),ys.length < m→(pre++ys).length≤100000→
    match pK ys with
    | some ln=>l13_38 (S40 30000) k0 k1 m z (nm,(rulesK pre++rules0 ys,())) (namesQ pre++namesQ ys) (linesQ pre++linesQ ys) ((pre++ys).length:Int) (pre.length:Int)=k0 ([],([],())) ln 9
    | none=>l13_38 (S40 30000) k0 k1 m z (nm,(rulesK pre++rules0 ys,())) (namesQ pre++namesQ ys) (linesQ pre++linesQ ys) ((pre++ys).length:Int) (pre.length:Int)=k1 z (nm,(rulesK (pre++ys),())) (namesQ (pre++ys)) (linesQ (pre++ys)) ((pre++ys).length:Int) ((pre++ys).length:Int):=by
 intro ys
 induction ys with
 | nil=>
   intro pre m hm hb
   obtain ⟨m,rfl⟩:∃ k,m=k+1:=⟨m - 1,by simp at hm; omega⟩
   simp only [pK]
   unfold l13_38
   simp only [g13_47,g13_2,g13_3,g13_46,g13_12,g13_17,g13_19,g13_20,g13_22,g13_23,g13_24,g13_26,g13_27,g13_34,g13_32,g13_36,g13_37,g13_38,g13_44,g13_42,g13_45,g13_47b,g13,lt_nil,brB_false,List.append_nil,rules0,namesQ,linesQ,List.map_nil]
   have:decide ((pre.length:Int) < (pre.length:Int))=false:=decide_eq_false (by omega)
   rw [this,brB_false]
 | cons y ys ih=>
   intro pre m hm hb
   obtain ⟨m,rfl⟩:∃ k,m=k+1:=⟨m - 1,by simp at hm; omega⟩
   have hl1:(rulesK pre).length=pre.length:=by simp [rulesK]
   have hl2:(namesQ pre).length=pre.length:=by simp [namesQ]
   have hl3:(linesQ pre).length=pre.length:=by simp [linesQ]
   have e1:rules0 (y::ys)=(0,(y.2.2.1,(y.2.2.2,())))::rules0 ys:=rfl
   have e2:namesQ (y::ys)=y.2.1::namesQ ys:=rfl
   have e3:linesQ (y::ys)=y.1::linesQ ys:=rfl
   have i1:∀ (a b:List Rul) (r:Rul),a.length=pre.length→(0≤(pre.length:Int)∧(pre.length:Int) < ((a++r::b).length:Int))=True:=by intro a b r h; rw [←h]; exact in_cons ..
   have i2:∀ (a b:List (List UInt8)) (r:List UInt8),a.length=pre.length→(0≤(pre.length:Int)∧(pre.length:Int) < ((a++r::b).length:Int))=True:=by intro a b r h; rw [←h]; exact in_cons ..
   have i3:∀ (a b:List Int) (r:Int),a.length=pre.length→(0≤(pre.length:Int)∧(pre.length:Int) < ((a++r::b).length:Int))=True:=by intro a b r h; rw [←h]; exact in_cons ..
   have t1:∀ (a b:List Rul) (r:Rul),a.length=pre.length→((pre.length:Int).toNat < (a++r::b).length)=True:=by intro a b r h; rw [←h]; exact lt_at ..
   have t2:∀ (a b:List (List UInt8)) (r:List UInt8),a.length=pre.length→((pre.length:Int).toNat < (a++r::b).length)=True:=by intro a b r h; rw [←h]; exact lt_at ..
   have t3:∀ (a b:List Int) (r:Int),a.length=pre.length→((pre.length:Int).toNat < (a++r::b).length)=True:=by intro a b r h; rw [←h]; exact lt_at ..
   have s1:∀ (a b:List Rul) (r q:Rul),a.length=pre.length→(a++r::b).set (pre.length:Int).toNat q=a++q::b:=by intro a b r q h; rw [←h]; exact set_at ..
   have g1:∀ (a b:List Rul) (r q:Rul),a.length=pre.length→(a++r::b).getD (pre.length:Int).toNat q=r:=by intro a b r q h; rw [←h]; exact at_cons ..
   have g2:∀ (a b:List (List UInt8)) (r q:List UInt8),a.length=pre.length→(a++r::b).getD (pre.length:Int).toNat q=r:=by intro a b r q h; rw [←h]; exact at_cons ..
   have g3:∀ (a b:List Int) (r q:Int),a.length=pre.length→(a++r::b).getD (pre.length:Int).toNat q=r:=by intro a b r q h; rw [←h]; exact at_cons ..
   have f1:rulesK pre++(knd y.2.1,(y.2.2.1,(y.2.2.2,())))::rules0 ys=rulesK (pre++[y])++rules0 ys:=by simp [rulesK]
   have f2:namesQ pre++y.2.1::namesQ ys=namesQ (pre++[y])++namesQ ys:=by simp [namesQ]
   have f3:linesQ pre++y.1::linesQ ys=linesQ (pre++[y])++linesQ ys:=by simp [linesQ]
   have lc:decide ((pre.length:Int) < ((pre++y::ys).length:Int))=true:=lt_cons ..
   rw [e1,e2,e3]
   have hst:∀ o,o=l13_38 (S40 30000) k0 k1 (m+1) z (nm,(rulesK pre++(0,(y.2.2.1,(y.2.2.2,())))::rules0 ys,())) (namesQ pre++y.2.1::namesQ ys) (linesQ pre++y.1::linesQ ys) ((pre++y::ys).length:Int) (pre.length:Int)→
     o=brB (knd y.2.1==0) (k0 ([],([],())) y.1 9) (l13_38 (S40 30000) k0 k1 m z (nm,(rulesK (pre++[y])++rules0 ys,())) (namesQ (pre++[y])++namesQ ys) (linesQ (pre++[y])++linesQ ys) (((pre++[y])++ys).length:Int) ((pre++[y]).length:Int)):=by
    intro o ho
    rw [ho]
    conv=>lhs; unfold l13_38
    simp only [g13_47,g13_2,g13_3,g13_46,g13_12,g13_17,g13_19,g13_20,g13_22,g13_23,g13_24,g13_26,g13_27,g13_34,g13_32,g13_36,g13_37,g13_38,g13_44,g13_42,g13_45,g13_47b,g13,lc,brB_true,i1 _ _ _ hl1,i2 _ _ _ hl2,i3 _ _ _ hl3,t1 _ _ _ hl1,t2 _ _ _ hl2,t3 _ _ _ hl3,s1 _ _ _ _ hl1,g1 _ _ _ _ hl1,g2 _ _ _ _ hl2,g3 _ _ _ _ hl3,if_true,vkind,Option.bind_some,wrap_snoc pre ys y (by unfold BIG; omega)]
    rw [f1,f2,f3,←app_cons pre ys y]
   have hi:=ih (pre++[y]) m (by simpa using hm) (by rw [←app_cons]; exact hb)
   simp only [pK]
   by_cases hz:knd y.2.1=0
   ·have eb:(knd y.2.1==0)=true:=by simpa using hz
    rw [if_pos hz]
    simp only
    refine (hst _ rfl).trans ?_
    rw [eb,brB_true]
   ·have eb:(knd y.2.1==0)=false:=by simpa using hz
    rw [if_neg hz]
    cases hp:pK ys with
    | some ln=>
      rw [hp] at hi
      refine (hst _ rfl).trans ?_
      rw [eb,brB_false]; exact hi
    | none=>
      rw [hp] at hi
      refine (hst _ rfl).trans ?_
      rw [eb,brB_false]
      refine hi.trans ?_
      rw [←app_cons]
end Go.Fw.L19
