/- Copies of licences; the reference's costs. -/
import Derived.Test.YtbdlccajpcomjaaFwHo17f
set_option linter.unusedVariables false
set_option linter.unusedSimpArgs false
namespace Go.Fw.L19
open Go Go.Fw
set_option maxRecDepth 100000
theorem set_same {α:Type} (pre ys:List α) (y:α):(pre++y::ys).set (Int.toNat (pre.length:Int)) y=pre++y::ys:=by simp
theorem lt_at' {α:Type} (pre ys:List α) (y:α):(Int.toNat (pre.length:Int) < (pre++y::ys).length)=True:=by simp
theorem vclone (ws:List (List UInt8)) (h:ws.length≤8796093022208):S48 2000 ws=some ws:=if_pos h
theorem lown {R:Type} (k0:Lic→Lic→Int→Int→Option R) (nm:List UInt8) (z:Lic):
  ∀ (ys pre:List Rul) (m:Nat),ys.length < m→(pre++ys).length≤BIG→(∀ r∈ys,r.2.2.1.length≤8796093022208)→
    l19_11 (S48 2000) k0 m (nm,(pre++ys),()) z ((pre++ys).length:Int) (pre.length:Int)=k0 (nm,(pre++ys),()) z ((pre++ys).length:Int) ((pre++ys).length:Int):=by
 intro ys
 induction ys with
 | nil=>
   intro pre m hm hb hr
   cases m with
   | zero=>simp at hm
   | succ m=>
     unfold l19_11
     simp only [g19_14,g19_2,g19_3,g19_7,g19_9,g19_10,g19_11,g19_13,g19_14b,g19,lt_nil,brB_false]
     simp
 | cons y ys ih=>
   intro pre m hm hb hr
   cases m with
   | zero=>simp at hm
   | succ m=>
     have e:∀ y:Rul,(y.1,y.2.1,y.2.2.1,y.2.2.2)=y:=fun y=>rfl
     unfold l19_11
     simp only [g19_14,g19_2,g19_3,g19_7,g19_9,g19_10,g19_11,g19_13,g19_14b,g19,lt_cons,in_cons,at_cons,lt_at',if_true,brB_true,vclone y.2.2.1 (hr y (by simp)),Option.bind_some,wrap_snoc pre ys y hb,set_same]
     rw [app_cons pre ys y]
     exact ih (pre++[y]) m (by simpa using hm) (by rw [←app_cons]; exact hb) (fun r h=>hr r (by simp [h]))
theorem v19 (x:Lic) (h:x.2.1.length < 2000) (hr:∀ r∈x.2.1,r.2.2.1.length≤8796093022208):S19 2000 x=some x:=by
 obtain ⟨nm,rs,u⟩:=x
 replace h:rs.length < 2000:=h
 have ec:S47 2000 rs=some rs:=if_pos (by omega)
 unfold S19
 have:=lown (R:=Lic) (fun x _ _ _=>some x) nm ([],([],())) rs [] 2000 h (by unfold BIG; simp; omega) hr
 simp only [g19_14,g19_2,g19_3,g19_7,g19_9,g19_10,g19_11,g19_13,g19_14b,g19,ec,Option.bind_some]
 simpa using this
theorem lcopied {R:Type} (k0:List Rul→List Rul→Int→Int→Option R):
  ∀ (ys pre:List Rul) (m:Nat),ys.length < m→(pre++ys).length≤2000→(∀ r∈ys,r.2.2.1.length≤8796093022208)→
    l46_12 (S48 2000) k0 m pre (pre++ys) ((pre++ys).length:Int) (pre.length:Int)=k0 (pre++ys) (pre++ys) ((pre++ys).length:Int) ((pre++ys).length:Int):=by
 intro ys
 induction ys with
 | nil=>
   intro pre m hm hb hr
   cases m with
   | zero=>simp at hm
   | succ m=>
     unfold l46_12
     simp only [g46_15,g46_2,g46_3,g46_8,g46_10,g46_11,g46_12,g46_14,g46_15b,g46,lt_nil,brB_false]
     simp
 | cons y ys ih=>
   intro pre m hm hb hr
   cases m with
   | zero=>simp at hm
   | succ m=>
     have hb':(pre++y::ys).length≤BIG:=by unfold BIG; omega
     have hl:pre.length+[y].length≤3518437208883:=by simp at hb ⊢; omega
     have e:∀ y:Rul,(y.1,y.2.1,y.2.2.1,y.2.2.2)=y:=fun y=>rfl
     unfold l46_12
     simp only [g46_15,g46_2,g46_3,g46_8,g46_10,g46_11,g46_12,g46_14,g46_15b,g46,lt_cons,in_cons,at_cons,if_true,brB_true,vclone y.2.2.1 (hr y (by simp)),Option.bind_some,wrap_snoc pre ys y hb',if_pos hl]
     rw [app_cons pre ys y]
     exact ih (pre++[y]) m (by simpa using hm) (by rw [←app_cons]; exact hb) (fun r h=>hr r (by simp [h]))
theorem v46 (rs:List Rul) (h:rs.length < 2000) (hr:∀ r∈rs,r.2.2.1.length≤8796093022208):S46 2000 rs=some rs:=by
 unfold S46
 have:=lcopied (R:=List Rul) (fun x _ _ _=>some x) rs [] 2000 h (by simp; omega) hr
 simp only [g46_15,g46_2,g46_3,g46_8,g46_10,g46_11,g46_12,g46_14,g46_15b,g46]
 simpa using this
theorem lcostr {R:Type} (k0:Int→Lic→Int→Bool→List UInt8→Int→Option R) (k:Int) (w nm:List UInt8):
  ∀ (ys pre:List Rul) (m:Nat) (q:Int×Bool),ys.length < m→(pre++ys).length≤BIG→(∀ r∈ys,r.2.2.1.length < 2000)→
    l21_15 (S50 2000) k0 m k (nm,(pre++ys),()) q.1 q.2 w (pre.length:Int)=k0 k (nm,(pre++ys),()) (cst k w ys q).1 (cst k w ys q).2 w ((pre++ys).length:Int):=by
 intro ys
 induction ys with
 | nil=>
   intro pre m q hm hb hr
   cases m with
   | zero=>simp at hm
   | succ m=>
     unfold l21_15
     simp only [g21_18,g21_3,g21_4,g21_6,g21_7,g21_9,g21_10,g21_12,g21_13,g21_14,g21_15,g21_17,g21_18b,g21,lt_nil,brB_false,cst]
     simp
 | cons y ys ih=>
   intro pre m q hm hb hr
   cases m with
   | zero=>simp at hm
   | succ m=>
     have step:∀ q',l21_15 (S50 2000) k0 m k (nm,(pre++y::ys),()) q'.1 q'.2 w ((pre++[y]).length:Int)=k0 k (nm,(pre++y::ys),()) (cst k w ys q').1 (cst k w ys q').2 w ((pre++y::ys).length:Int):=by
      intro q'
      rw [app_cons pre ys y]
      exact ih (pre++[y]) m q' (by simpa using hm) (by rw [←app_cons]; exact hb) (fun r h=>hr r (by simp [h]))
     have fin:∀ (b:Bool),b=((y.1==k)&&apps y w)→brB (!b) (l21_15 (S50 2000) k0 m k (nm,(pre++y::ys),()) q.1 q.2 w ((pre++[y]).length:Int))
       (brB (!q.2) (l21_15 (S50 2000) k0 m k (nm,(pre++y::ys),()) y.2.1 true w ((pre++[y]).length:Int))
        (brB (decide (y.2.1 < q.1)) (l21_15 (S50 2000) k0 m k (nm,(pre++y::ys),()) y.2.1 true w ((pre++[y]).length:Int))
         (l21_15 (S50 2000) k0 m k (nm,(pre++y::ys),()) q.1 q.2 w ((pre++[y]).length:Int))))=
       k0 k (nm,(pre++y::ys),()) (cst k w (y::ys) q).1 (cst k w (y::ys) q).2 w ((pre++y::ys).length:Int):=by
      intro b hb2
      have ht:takes k w y q=(b&&(!q.2 || decide (y.2.1 < q.1))):=by rw [hb2]; unfold takes; rw [Bool.and_assoc]
      simp only [cst,ht]
      cases b with
      | false=>simp only [Bool.not_false,brB_true,Bool.false_and,cond_false]; exact step q
      | true=>
        simp only [Bool.not_true,brB_false,Bool.true_and]
        cases h3:q.2 with
        | false=>simp only [Bool.not_false,brB_true,Bool.true_or,cond_true]; exact step (y.2.1,true)
        | true=>
          simp only [Bool.not_true,brB_false,Bool.false_or]
          cases decide (y.2.1 < q.1) with
          | true=>simp only [brB_true,cond_true]; exact step (y.2.1,true)
          | false=>
            simp only [brB_false,cond_false]
            have:=step q
            rw [h3] at this; exact this
     have sel:∀ (b:Bool) (x z:Option R),brB b x z=brB (!(!b)) x z:=fun b x z=>by rw [Bool.not_not]
     have e1:(y.1 != k)=!(y.1==k):=rfl
     have hwr:=wrap_snoc pre ys y hb
     unfold l21_15
     simp only [g21_18,g21_3,g21_4,g21_6,g21_7,g21_9,g21_10,g21_12,g21_13,g21_14,g21_15,g21_17,g21_18b,g21,lt_cons,in_cons,at_cons,if_true,brB_true,hwr]
     cases h1:(y.1==k) with
     | false=>
       simp only [e1,h1,Bool.not_false,brB_true]
       have:=fin false (by rw [h1]; rfl)
       simpa only [Bool.not_false,brB_true] using this
     | true=>
       simp only [e1,h1,Bool.not_true,brB_false]
       rw [h1] at fin
       simp only [Bool.true_and] at fin
       by_cases hw:y.2.2.1=[]
       ·have d:decide ((y.2.2.1.length:Int) > 0)=false:=by rw [hw]; rfl
        have ha:apps y w=true:=by unfold apps; rw [hw]; rfl
        simp only [d,brB_false]
        have:=fin true (by rw [ha])
        simpa only [Bool.not_true,brB_false] using this
       ·have hp:0 < y.2.2.1.length:=List.length_pos_iff.2 hw
        have d:decide ((y.2.2.1.length:Int) > 0)=true:=decide_eq_true (by omega)
        have ha:apps y w=y.2.2.1.contains w:=by
         unfold apps
         have:y.2.2.1.isEmpty=false:=by cases h:y.2.2.1 with | nil=>exact absurd h hw | cons=>rfl
         rw [this,Bool.false_or]
        simp only [d,brB_true,v50 y.2.2.1 w (hr y (by simp)),Option.bind_some]
        exact fin (y.2.2.1.contains w) ha.symm
theorem v21 (x:Lic) (k:Int) (w:List UInt8) (hw:w.length < 2000) (hx:x.2.1.length < 2000) (hr:∀ r∈x.2.1,r.2.2.1.length < 2000):S21 2000 x k w=some (cst k (fold w) x.2.1 (0,false)):=by
 obtain ⟨nm,rs,u⟩:=x
 replace hx:rs.length < 2000:=hx
 unfold S21
 have:=lcostr (R:=Int×Bool) (fun _ _ b o _ _=>some (b,o)) k (fold w) nm rs [] 2000 (0,false) hx (by unfold BIG; simp; omega) hr
 simp only [g21_18,g21_3,g21_4,g21_6,g21_7,g21_9,g21_10,g21_12,g21_13,g21_14,g21_15,g21_17,g21_18b,g21,v49 w hw,Option.bind_some]
 simpa using this
theorem cst_app (k:Int) (w:List UInt8):∀ (rs ss:List Rul) (q:Int×Bool),cst k w (rs++ss) q=cst k w ss (cst k w rs q)
 | [],_,_=>rfl
 | _::rs,ss,_=>cst_app k w rs ss _
def lessC (q b:Int×Bool):Int×Bool:=cond (b.2&&!(q.2&&decide (q.1≤b.1))) b q
theorem cst_less (k:Int) (w:List UInt8):∀ (rs:List Rul) (q:Int×Bool),cst k w rs q=lessC q (cst k w rs (0,false))
 | [],q=>rfl
 | r::rs,q=>by
   simp only [cst]
   rw [cst_less k w rs (cond (takes k w r q) (r.2.1,true) q),cst_less k w rs (cond (takes k w r (0,false)) (r.2.1,true) (0,false))]
   generalize cst k w rs (0,false)=R
   unfold takes
   cases h:((r.1==k)&&apps r w) with
   | false=>
     have e:∀ x:Bool,((r.1==k)&&(apps r w&&x))=false:=fun x=>by rw [←Bool.and_assoc,h]; rfl
     simp only [e,cond_false]
     obtain ⟨r1,r2⟩:=R
     unfold lessC
     cases r2<;>simp
   | true=>
     have e:∀ x:Bool,((r.1==k)&&(apps r w&&x))=x:=fun x=>by rw [←Bool.and_assoc,h]; rfl
     simp only [e,Bool.not_false,Bool.true_or,cond_true]
     obtain ⟨q1,q2⟩:=q
     obtain ⟨r1,r2⟩:=R
     unfold lessC
     simp only
     generalize r.2.1=c
     cases q2<;>cases r2<;>simp
     ·by_cases h1:c≤r1<;>simp [h1]
     ·by_cases h1:c < q1
      ·have h2:¬ q1≤c:=by omega
       simp [h1,h2]
      ·have h2:q1≤c:=by omega
       simp [h1,h2]
     ·by_cases h1:c < q1
      ·have h2:¬ q1≤c:=by omega
       by_cases h3:c≤r1
       ·simp [h1,h2,h3]
       ·have h4:¬ q1≤r1:=by omega
        simp [h1,h2,h3,h4]
      ·have h2:q1≤c:=by omega
       by_cases h3:c≤r1
       ·have h4:q1≤r1:=by omega
        simp [h1,h2,h3,h4]
       ·simp [h1,h2,h3]
end Go.Fw.L19
