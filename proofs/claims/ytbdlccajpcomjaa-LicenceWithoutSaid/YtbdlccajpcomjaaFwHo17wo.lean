/- Licences without the rules of a kind. -/
import Derived.Test.YtbdlccajpcomjaaFwHo17g
set_option linter.unusedVariables false
set_option linter.unusedSimpArgs false
namespace Go.Fw.L19
open Go Go.Fw
set_option maxRecDepth 100000
def oth (k:Int) (rs:List Rul):List Rul:=rs.filter fun r=>r.1 != k
theorem keepN_all {α:Type} (p:α×Unit→Option Bool) (g:α→Bool) (h:∀ x,p (x,())=some (g x)):∀ xs:List α,keepN p xs=some (xs.filter fun x=>!g x)
 | []=>rfl
 | x::xs=>by
   simp only [keepN,h,Option.bind_some,keepN_all p g h xs,List.filter_cons]
   cases g x<;>rfl
theorem v52 (r:Rul) (k:Int):S52 2000 r k=some (r.1==k):=rfl
theorem v22 (x:Lic) (k:Int) (h:x.2.1.length < 2000) (hr:∀ r∈x.2.1,r.2.2.1.length≤8796093022208):S22 2000 x k=some (x.1,oth k x.2.1,()):=by
 unfold S22
 simp only [g22_2,g22_2b,g22,v46 x.2.1 h hr,Option.bind_some]
 have:S51 2000 x.2.1 (fun x54=>((S52 2000 x54.1 k).bind fun b55=>some [.v .bool b55]).bind (unE .bool))=some (oth k x.2.1):=
  keepN_all (fun x54:Rul×Unit=>((S52 2000 x54.1 k).bind fun b55=>some [E.v .bool b55]).bind (unE .bool)) (fun r=>r.1==k) (fun r=>rfl) x.2.1
 rw [this]; rfl
theorem lwithout {R:Type} (k0:Int→Lic→Lic→Lic→Int→Option R) (k:Int) (nm nm2:List UInt8) (z:Lic):
  ∀ (ys pre acc:List Rul) (m:Nat),ys.length < m→(pre++ys).length≤BIG→acc.length+ys.length < 2000→
    l23_11 k0 m k (nm,pre++ys,()) z (nm2,acc,()) (pre.length:Int)=k0 k (nm,pre++ys,()) z (nm2,acc++oth k ys,()) ((pre++ys).length:Int):=by
 intro ys
 induction ys with
 | nil=>
   intro pre acc m hm hb ha
   cases m with
   | zero=>omega
   | succ m=>
     unfold l23_11
     simp only [g23_14,g23_2,g23_3,g23_5,g23_6,g23_8,g23_9,g23_10,g23_11,g23_13,g23_14b,g23,lt_nil,brB_false,oth,List.filter_nil]
     simp
 | cons y ys ih=>
   intro pre acc m hm hb ha
   cases m with
   | zero=>omega
   | succ m=>
     have hgo:∀ acc2:List Rul,acc2.length+ys.length < 2000→l23_11 k0 m k (nm,pre++y::ys,()) z (nm2,acc2,()) ((pre++[y]).length:Int)=k0 k (nm,pre++y::ys,()) z (nm2,acc2++oth k ys,()) ((pre++y::ys).length:Int):=by
      intro acc2 h2
      rw [app_cons pre ys y]
      exact ih (pre++[y]) acc2 m (by simpa using hm) (by rw [←app_cons]; exact hb) h2
     have hwr:=wrap_snoc pre ys y hb
     unfold l23_11
     simp only [g23_14,g23_2,g23_3,g23_5,g23_6,g23_8,g23_9,g23_10,g23_11,g23_13,g23_14b,g23,lt_cons,in_cons,at_cons,if_true,brB_true,hwr]
     have hl:acc.length+[y].length≤3518437208883:=by simp at ha ⊢; omega
     cases h:(y.1 != k) with
     | true=>
       have e:acc++oth k (y::ys)=acc++[y]++oth k ys:=by simp [oth,List.filter_cons,h]
       simp only [brB_true,hl,if_true,hgo (acc++[y]) (by simp at ha ⊢; omega),e]
     | false=>
       have e:oth k (y::ys)=oth k ys:=by simp [oth,List.filter_cons,h]
       simp only [brB_false,hgo acc (by simp at ha ⊢; omega),e]
theorem v23 (x:Lic) (k:Int) (h:x.2.1.length < 2000):S23 2000 x k=some (x.1,oth k x.2.1,()):=by
 obtain ⟨nm,rs,u⟩:=x
 unfold S23
 simp only [g23_14,g23_2,g23_3,g23_5,g23_6,g23_8,g23_9,g23_10,g23_11,g23_13,g23_14b,g23]
 have:=lwithout (R:=Lic) (fun y0 y1 y2 y3 y4=>some y3) k nm nm ([],([],())) rs [] [] 2000 h (by simp; unfold BIG; simp at h; omega) (by simpa using h)
 simpa using this
theorem cst_out (k q:Int) (hk:k≠q) (w:List UInt8):∀ (rs:List Rul) (p:Int×Bool),cst k w (oth q rs) p=cst k w rs p
 | [],_=>rfl
 | r::rs,p=>by
   have ih:=cst_out k q hk w rs
   by_cases h:r.1=q
   ·have h1:(r.1 != q)=false:=by simpa using h
    have h2:takes k w r p=false:=by
     unfold takes
     have:(r.1==k)=false:=beq_eq_false_iff_ne.2 fun e=>hk (by rw [←e,h])
     rw [this]; rfl
    simp only [oth,List.filter_cons,h1,cst,h2,cond_false] at ih ⊢
    exact ih p
   ·have h1:(r.1 != q)=true:=by simpa using h
    simp only [oth,List.filter_cons,h1,if_true,cst] at ih ⊢
    exact ih _
theorem cst_none (q:Int) (w:List UInt8):∀ (rs:List Rul) (p:Int×Bool),cst q w (oth q rs) p=p
 | [],_=>rfl
 | r::rs,p=>by
   have ih:=cst_none q w rs p
   by_cases h:r.1=q
   ·have h1:(r.1 != q)=false:=by simpa using h
    simp only [oth,List.filter_cons,h1] at ih ⊢
    exact ih
   ·have h1:(r.1 != q)=true:=by simpa using h
    have h2:takes q w r p=false:=by
     unfold takes
     have:(r.1==q)=false:=beq_eq_false_iff_ne.2 h
     rw [this]; rfl
    simp only [oth,List.filter_cons,h1,if_true,cst,h2,cond_false] at ih ⊢
    exact ih
theorem lwloop {R:Type} (f g:Lic→Int→List UInt8→Option (Int×Bool)) (k0:Bool→Option R) (k1:Int→List UInt8→Lic→Lic→Int→Option R) (q:Int) (w:List UInt8) (x a:Lic)
  (hf:∀ k:Int,1≤k→k≤12→∃ L A,f x k w=some L∧g a k w=some A∧(k=q→L.2=false)∧(k≠q→L=A)):
  ∀ (n:Nat) (k:Int) (m:Nat),n < m→1≤k→k+n=13→l6_20 f g k0 k1 m q w a x k=k1 q w a x 13:=by
 intro n
 induction n with
 | zero=>
   intro k m hm h1 h2
   cases m with
   | zero=>omega
   | succ m=>
     obtain rfl:k=13:=by omega
     have d:decide ((13:Int)≤(12:Int))=false:=rfl
     unfold l6_20
     simp only [g6_0,g6_1,g6_2,g6_4,g6_5,g6_6,g6_8,g6_9,g6_16,g6_14,g6_18,g6_19,g6_20,g6_22,g6_23,g6,d,brB_false]
 | succ n ih=>
   intro k m hm h1 h2
   cases m with
   | zero=>omega
   | succ m=>
     have d:decide (k≤(12:Int))=true:=decide_eq_true (by omega)
     have w2:IntKind.i64.wrap (k+1)=k+1:=wrap_id (by omega)
     obtain ⟨⟨l1,l2⟩,⟨a1,a2⟩,e1,e2,e3,e4⟩:=hf k h1 (by omega)
     have hgo:=ih (k+1) m (by omega) (by omega) (by omega)
     unfold l6_20
     simp only [g6_0,g6_1,g6_2,g6_4,g6_5,g6_6,g6_8,g6_9,g6_16,g6_14,g6_18,g6_19,g6_20,g6_22,g6_23,g6,d,brB_true,e1,e2,Option.bind_some,w2]
     by_cases hk:k=q
     ·subst hk
      have hl:=e3 rfl
      simp only at hl
      subst hl
      simpa only [beq_self_eq_true,bne_self_eq_false,brB_true,brB_false] using hgo
     ·have hl:=e4 hk
      cases hl
      have b1:(k==q)=false:=beq_eq_false_iff_ne.2 hk
      have b2:(k != q)=true:=bne_iff_ne.2 hk
      simpa only [b1,b2,brB_true,brB_false,beq_self_eq_true,bne_self_eq_false,Bool.not_true] using hgo
theorem main6 (a:Lic) (q:Int) (w:List UInt8) (z0:InZ reachBytes (.pair .str (.pair (.sl (.pair (.int .i64) (.pair (.int .i64) (.pair (.sl .str) .unit)))) .unit)) a) (z1:InZ reachBytes (.int .i64) q) (z2:InZ reachBytes .str w):
  S6 2000 a q w=some true:=by
 unfold S6
 have e8:S7 2000=some true:=rfl
 have hname:a.1.length≤140737488355328:=by
  have h1:a.1.length≤reachBytes:=z0.1
  have:=reachBytes_lt
  omega
 obtain ⟨fa,ha,hfa⟩:=v8 a (lic_texts z0) hname
 simp only [g6_0,g6_1,g6_2,g6_4,g6_5,g6_6,g6_8,g6_9,g6_16,g6_14,g6_18,g6_19,g6_20,g6_22,g6_23,g6,e8,Option.bind_some,Bool.not_true,brB_false,ha]
 cases fa with
 | false=>simp only [Bool.not_false,brB_true]
 | true=>
   obtain ⟨a1,a2,a3⟩:=hfa rfl
   simp only [Bool.not_true,brB_false]
   by_cases h2:(w.length:Int) > 40
   ·simp only [h2,decide_true,brB_true]
   ·have hsub:∀ r∈oth q a.2.1,r∈a.2.1:=fun r hr=>(List.mem_filter.1 hr).1
    have hlen:(oth q a.2.1).length≤a.2.1.length:=List.length_filter_le _ _
    simp only [h2,decide_false,brB_false,v19 a (by omega) (fun r hr=>by have:=(a3 r hr).1; omega),Option.bind_some,v22 a q (by omega) (fun r hr=>by have:=(a3 r hr).1; omega),v23 a q (by omega)]
    simp only [v14 (a.1,oth q a.2.1,()) (a.1,oth q a.2.1,()) (by show (oth q a.2.1).length < 2000; omega) (fun r hr=>by have:=(a3 r (hsub r hr)).1; omega),Option.bind_some,sameL_refl,Bool.not_true,brB_false]
    refine lwloop (R:=Bool) _ _ some (fun _ _ _ _ _=>some true) q w (a.1,oth q a.2.1,()) a (fun k h3 h4=>?_) 12 1 2000 (by omega) (by omega) (by omega)
    refine ⟨_,_,v17 (a.1,oth q a.2.1,()) k w (by omega) (by show (oth q a.2.1).length < 2000; omega) (fun r hr=>by have:=(a3 r (hsub r hr)).1; omega),v21 a k w (by omega) (by omega) (fun r hr=>by have:=(a3 r hr).1; omega),fun e=>?_,fun e=>?_⟩
    ·subst e
     show (cst k (fold w) (oth k a.2.1) (0,false)).2=false
     rw [cst_none]
    ·show cst k (fold w) (oth q a.2.1) (0,false)=_
     rw [cst_out k q e]
end Go.Fw.L19
