/- Costs; small licences; copies; what is the same. -/
import Derived.Test.YtbdlccajpcomjaaFwHo17d
import Derived.Test.YtbdlccajpcomjaaFwB6
set_option linter.unusedVariables false
set_option linter.unusedSimpArgs false
namespace Go.Fw.L19
open Go Go.Fw
set_option maxRecDepth 100000
def apps (r:Rul) (w:List UInt8):Bool:=r.2.2.1.isEmpty || r.2.2.1.contains w
def takes (k:Int) (w:List UInt8) (r:Rul) (q:Int×Bool):Bool:=(r.1==k)&&(apps r w&&(!q.2 || decide (r.2.1 < q.1)))
def cst (k:Int) (w:List UInt8):List Rul→Int×Bool→Int×Bool
 | [],q=>q
 | r::rs,q=>cst k w rs (cond (takes k w r q) (r.2.1,true) q)
theorem v45 (r:Rul) (w:List UInt8) (h:r.2.2.1.length < 2000):S45 2000 r w=some (apps r w):=by
 obtain ⟨a,b,ws,u⟩:=r
 unfold S45 apps
 simp only [g45_2,g45_2b,g45,v67 ws w h,Option.bind_some]
 cases ws with
 | nil=>rfl
 | cons y ys=>
   have:(((y::ys).length:Int)==0)=false:=by simp; omega
   simp only [this,brB_false,List.isEmpty_cons,Bool.false_or]
theorem lcost {R:Type} (k0:Int→List UInt8→Int→Bool→List Rul→Int→Int→Option R) (k:Int) (w:List UInt8):
  ∀ (ys pre:List Rul) (m:Nat) (q:Int×Bool),ys.length < m→(pre++ys).length≤BIG→(∀ r∈ys,r.2.2.1.length < 2000)→
    l17_14 (S45 2000) k0 m k w q.1 q.2 (pre++ys) ((pre++ys).length:Int) (pre.length:Int)=k0 k w (cst k w ys q).1 (cst k w ys q).2 (pre++ys) ((pre++ys).length:Int) ((pre++ys).length:Int):=by
 intro ys
 induction ys with
 | nil=>
   intro pre m q hm hb hr
   cases m with
   | zero=>simp at hm
   | succ m=>
     unfold l17_14
     simp only [g17_17,g17_3,g17_4,g17_10,g17_8,g17_11,g17_12,g17_13,g17_14,g17_16,g17_17b,g17,lt_nil,brB_false,cst]
     simp
 | cons y ys ih=>
   intro pre m q hm hb hr
   cases m with
   | zero=>simp at hm
   | succ m=>
     have step:∀ q',l17_14 (S45 2000) k0 m k w q'.1 q'.2 (pre++y::ys) ((pre++y::ys).length:Int) ((pre++[y]).length:Int)=k0 k w (cst k w ys q').1 (cst k w ys q').2 (pre++y::ys) ((pre++y::ys).length:Int) ((pre++y::ys).length:Int):=by
      intro q'
      rw [app_cons pre ys y]
      exact ih (pre++[y]) m q' (by simpa using hm) (by rw [←app_cons]; exact hb) (fun r h=>hr r (by simp [h]))
     unfold l17_14
     simp only [g17_17,g17_3,g17_4,g17_10,g17_8,g17_11,g17_12,g17_13,g17_14,g17_16,g17_17b,g17,lt_cons,in_cons,at_cons,if_true,brB_true,v45 y w (hr y (by simp)),Option.bind_some,wrap_snoc pre ys y hb,cst,takes]
     cases h1:(y.1==k) with
     | false=>simp only [brB_false,Bool.false_and,cond_false]; exact step q
     | true=>
       simp only [brB_true,Bool.true_and]
       cases h2:apps y w with
       | false=>simp only [brB_false,Bool.false_and,cond_false]; exact step q
       | true=>
         simp only [brB_true,Bool.true_and]
         cases h3:q.2 with
         | false=>simp only [Bool.not_false,brB_true,Bool.true_or,cond_true]; exact step (y.2.1,true)
         | true=>
           simp only [Bool.not_true,brB_false,Bool.false_or]
           by_cases h4:y.2.1 < q.1
           ·simp only [h4,decide_true,brB_true,cond_true]; exact step (y.2.1,true)
           ·simp only [h4,decide_false,brB_false,cond_false]
            have:=step q
            rw [h3] at this; exact this
theorem v17 (x:Lic) (k:Int) (w:List UInt8) (hw:w.length < 2000) (hx:x.2.1.length < 2000) (hr:∀ r∈x.2.1,r.2.2.1.length < 2000):S17 2000 x k w=some (cst k (fold w) x.2.1 (0,false)):=by
 obtain ⟨nm,rs,u⟩:=x
 replace hx:rs.length < 2000:=hx
 unfold S17
 have:=lcost (R:=Int×Bool) (fun _ _ b o _ _ _=>some (b,o)) k (fold w) rs [] 2000 (0,false) hx (by unfold BIG; simp; omega) hr
 simp only [g17_17,g17_3,g17_4,g17_10,g17_8,g17_11,g17_12,g17_13,g17_14,g17_16,g17_17b,g17,v44 w hw,Option.bind_some]
 simpa using this
theorem lic_texts {x:Lic} (z:InZ reachBytes (.pair .str (.pair (.sl (.pair (.int .i64) (.pair (.int .i64) (.pair (.sl .str) .unit)))) .unit)) x):∀ r∈x.2.1,∀ w∈r.2.2.1,w.length≤140737488355328:=by
 intro r hr w hw
 have h1:w.length≤reachBytes:=(z.2.1 r hr).2.2.1 w hw
 have:=reachBytes_lt
 omega
theorem lsum {R:Type} (k0:List (List UInt8)→Int→Int→Int→Option R):
  ∀ (ys pre:List (List UInt8)) (m:Nat) (n:Int),pre.length≤1501→1503≤m+pre.length→(pre.length:Int)≤n→n≤140737488400000→(∀ w∈ys,w.length≤140737488355328)→
    ∃ q i,l26_9 k0 m (pre++ys) 1500 n (pre.length:Int)=k0 (pre++ys) 1500 q i∧n≤q∧q≤140737488400000∧(q≤1500→(ys.length:Int)≤q - n∧∀ w∈ys,(w.length:Int)≤q - n):=by
 intro ys
 induction ys with
 | nil=>
   intro pre m n h1 h2 h3 h4 hw
   cases m with
   | zero=>omega
   | succ m=>
     refine ⟨n,(pre.length:Int),?_,by omega,by omega,fun _=>⟨by simp,by simp⟩⟩
     unfold l26_9
     simp only [g26_12,g26_2,g26_3,g26_5,g26_7,g26_8,g26_9,g26_11,g26_12b,g26,lt_nil,brB_false]
 | cons y ys ih=>
   intro pre m n h1 h2 h3 h4 hw
   cases m with
   | zero=>omega
   | succ m=>
     unfold l26_9
     simp only [g26_12,g26_2,g26_3,g26_5,g26_7,g26_8,g26_9,g26_11,g26_12b,g26,lt_cons,in_cons,at_cons,if_true,brB_true]
     by_cases hn:n≤1500
     ·have hy:=hw y (by simp)
      have w1:IntKind.i64.wrap (n+1)=n+1:=wrap_id (by omega)
      have w2:IntKind.i64.wrap (n+1+(y.length:Int))=n+1+(y.length:Int):=wrap_id (by omega)
      have w3:IntKind.i64.wrap ((pre.length:Int)+1)=((pre++[y]).length:Int):=by
       rw [wrap_id (by omega)]; simp
      obtain ⟨q,i,h,g1,g2,g3⟩:=ih (pre++[y]) m (n+1+(y.length:Int)) (by simp; omega) (by simp; omega) (by simp; omega) (by omega) (fun w hw'=>hw w (by simp [hw']))
      refine ⟨q,i,?_,by omega,g2,fun hq=>?_⟩
      ·simp only [hn,decide_true,brB_true,w1,w2,w3]
       rw [app_cons pre ys y]; exact h
      ·obtain ⟨g4,g5⟩:=g3 hq
       refine ⟨by simp only [List.length_cons]; omega,fun w hw'=>?_⟩
       rcases List.mem_cons.1 hw' with rfl | hw'
       ·omega
       ·have:=g5 w hw'; omega
     ·refine ⟨n,(pre.length:Int),?_,by omega,by omega,fun hq=>absurd hq hn⟩
      simp only [hn,decide_false,brB_false]
theorem v26 (l:List (List UInt8)) (hw:∀ w∈l,w.length≤140737488355328):∃ q:Int,S26 2000 l 1500=some q∧0≤q∧q≤140737488400000∧(q≤1500→(l.length:Int)≤q∧∀ w∈l,(w.length:Int)≤q):=by
 obtain ⟨q,i,h,g1,g2,g3⟩:=lsum (R:=Int) (fun _ _ n _=>some n) l [] 2000 0 (by simp) (by simp) (by simp) (by omega) hw
 refine ⟨q,?_,g1,g2,by simpa using g3⟩
 unfold S26
 simp only [g26_12,g26_2,g26_3,g26_5,g26_7,g26_8,g26_9,g26_11,g26_12b,g26]
 simpa using h
def smallR (n:Int) (r:Rul):Prop:=(r.2.2.1.length:Int)≤n∧∀ w∈r.2.2.1,(w.length:Int)≤n
theorem lfewl {R:Type} (k0:Lic→Int→Int→Option R) (nm:List UInt8):
  ∀ (ys pre:List Rul) (m:Nat) (n:Int),pre.length≤50→52≤m+pre.length→0≤n→n≤140737488355328+140737488400000 * pre.length→(∀ r∈ys,∀ w∈r.2.2.1,w.length≤140737488355328)→
    ∃ q i,l8_9 (S26 2000) k0 m (nm,(pre++ys),()) n (pre.length:Int)=k0 (nm,(pre++ys),()) q i∧n≤q∧(q≤1500→(pre++ys).length≤40→∀ r∈ys,smallR 1500 r):=by
 intro ys
 induction ys with
 | nil=>
   intro pre m n h1 h2 h3 h4 hw
   cases m with
   | zero=>omega
   | succ m=>
     refine ⟨n,(pre.length:Int),?_,by omega,fun _ _=>by simp⟩
     unfold l8_9
     simp only [g8_12,g8_2,g8_3,g8_5,g8_7,g8_8,g8_9,g8_11,g8_12b,g8,lt_nil,brB_false]
 | cons y ys ih=>
   intro pre m n h1 h2 h3 h4 hw
   cases m with
   | zero=>omega
   | succ m=>
     unfold l8_9
     simp only [g8_12,g8_2,g8_3,g8_5,g8_7,g8_8,g8_9,g8_11,g8_12b,g8,lt_cons,in_cons,at_cons,if_true,brB_true]
     by_cases hp:(pre.length:Int) < 50
     ·obtain ⟨s,hs,g1,g2,g3⟩:=v26 y.2.2.1 (hw y (by simp))
      have w3:IntKind.i64.wrap ((pre.length:Int)+1)=((pre++[y]).length:Int):=by
       rw [wrap_id (by omega)]; simp
      have hle:n+s≤140737488355328+140737488400000 * ((pre++[y]).length:Int):=by
       simp only [List.length_append,List.length_cons,List.length_nil,Int.natCast_add]; omega
      have w4:IntKind.i64.wrap (n+s)=n+s:=wrap_id (by
       have:((pre++[y]).length:Int)≤50:=by simp; omega
       omega)
      obtain ⟨q,i,h,k1,k2⟩:=ih (pre++[y]) m (n+s) (by simp; omega) (by simp; omega) (by omega) hle (fun r hr=>hw r (by simp [hr]))
      refine ⟨q,i,?_,by omega,fun hq hl r hr=>?_⟩
      ·simp only [hp,decide_true,brB_true,hs,Option.bind_some,w3,w4]
       rw [app_cons pre ys y]; exact h
      ·rcases List.mem_cons.1 hr with rfl | hr
       ·obtain ⟨g4,g5⟩:=g3 (by omega)
        exact ⟨by omega,fun w hw=>by have:=g5 w hw; omega⟩
       ·exact k2 hq (by simpa using hl) r hr
     ·refine ⟨n,(pre.length:Int),?_,by omega,fun _ hl=>?_⟩
      ·simp only [hp,decide_false,brB_false]
      ·simp at hl; omega
theorem v8 (x:Lic) (hw:∀ r∈x.2.1,∀ w∈r.2.2.1,w.length≤140737488355328) (hn:x.1.length≤140737488355328):
  ∃ b,S8 2000 x=some b∧(b=true→x.2.1.length≤40∧x.1.length≤1500∧∀ r∈x.2.1,smallR 1500 r):=by
 obtain ⟨nm,rs,u⟩:=x
 obtain ⟨q,i,h,g1,g2⟩:=lfewl (R:=Bool) (fun x n _=>brB (decide ((x.2.1.length:Int)≤(40:Int))) (some (decide (n≤(1500:Int)))) (some false)) nm rs [] 2000 (nm.length:Int) (by simp) (by simp) (by omega) (by simp at hn ⊢; omega) hw
 unfold S8
 simp only [g8_12,g8_2,g8_3,g8_5,g8_7,g8_8,g8_9,g8_11,g8_12b,g8]
 simp only [List.nil_append,List.length_nil,Int.natCast_zero] at h g2
 rw [h]
 by_cases h1:(rs.length:Int)≤40
 ·refine ⟨_,by simp only [h1,decide_true,brB_true]; rfl,fun hb=>?_⟩
  have hq:q≤1500:=of_decide_eq_true hb
  exact ⟨by show rs.length≤40; omega,by show nm.length≤1500; omega,g2 hq (by omega)⟩
 ·exact ⟨_,by simp only [h1,decide_false,brB_false]; rfl,fun hb=>by cases hb⟩
theorem lequal {R:Type} (k0:Bool→Option R) (k1:List (List UInt8)→List (List UInt8)→Int→Option R) (hk:∀ a b c,k1 a b c=k0 true):
  ∀ (ys zs pre:List (List UInt8)) (m:Nat),ys.length=zs.length→ys.length < m→(pre++ys).length≤BIG→
    ∀ pre2:List (List UInt8),pre2.length=pre.length→l41_13 k0 k1 m (pre++ys) (pre2++zs) (pre.length:Int)=k0 (decide (ys=zs)):=by
 intro ys
 induction ys with
 | nil=>
   intro zs pre m hl hm hb pre2 hp
   cases zs with
   | cons=>simp at hl
   | nil=>
     cases m with
     | zero=>simp at hm
     | succ m=>
       unfold l41_13
       simp only [g41_0,g41_1,g41_2,g41_4,g41_5,g41_7,g41_8,g41_11,g41_12,g41_13,g41_15,g41_16,g41,lt_nil,brB_false,hk]
       rfl
 | cons y ys ih=>
   intro zs pre m hl hm hb pre2 hp
   cases zs with
   | nil=>simp at hl
   | cons z zs=>
     cases m with
     | zero=>simp at hm
     | succ m=>
       have i2:(0≤(pre.length:Int)∧(pre.length:Int) < ((pre2++z::zs).length:Int))=True:=by rw [←hp]; exact in_cons ..
       have a2:(pre2++z::zs).getD (Int.toNat (pre.length:Int)) []=z:=by rw [←hp]; exact at_cons ..
       unfold l41_13
       simp only [g41_0,g41_1,g41_2,g41_4,g41_5,g41_7,g41_8,g41_11,g41_12,g41_13,g41_15,g41_16,g41,lt_cons,in_cons,at_cons,i2,a2,if_true,brB_true,wrap_snoc pre ys y hb]
       by_cases h:y=z
       ·subst h
        have e1:(y != y)=false:=by simp
        simp only [e1,brB_false]
        rw [app_cons pre ys y,app_cons pre2 zs y,ih zs (pre++[y]) m (by simpa using hl) (by simpa using hm) (by rw [←app_cons]; exact hb) (pre2++[y]) (by simp [hp])]
        simp
       ·have e1:(y != z)=true:=by simpa using h
        simp only [e1,brB_true]
        have:decide (y::ys=z::zs)=false:=by simp [h]
        rw [this]
theorem v41 (a b:List (List UInt8)) (h:a.length < 2000):S41 2000 a b=some (decide (a=b)):=by
 unfold S41
 simp only [g41_0,g41_1,g41_2,g41_4,g41_5,g41_7,g41_8,g41_11,g41_12,g41_13,g41_15,g41_16,g41]
 by_cases hl:a.length=b.length
 ·have e1:((a.length:Int) != (b.length:Int))=false:=by simp [hl]
  have:=lequal (R:=Bool) some (fun _ _ _=>some true) (fun _ _ _=>rfl) a b [] 2000 hl h (by unfold BIG; simp; omega) [] rfl
  simp only [e1,brB_false]
  simpa using this
 ·have e1:((a.length:Int) != (b.length:Int))=true:=by simp; omega
  have:decide (a=b)=false:=by
   simp only [decide_eq_false_iff_not]; rintro rfl; exact hl rfl
  simp only [e1,brB_true,this]
def sameRs:List Rul→List Rul→Bool
 | [],[]=>true
 | r::rs,s::ss=>(r.1==s.1&&(r.2.1==s.2.1&&decide (r.2.2.1=s.2.2.1)))&&sameRs rs ss
 | _,_=>false
theorem sameRs_eq:∀ {rs ss:List Rul},sameRs rs ss=true→rs=ss
 | [],[],_=>rfl
 | (a,b,c,u)::rs,(a',b',c',u')::ss,h=>by
   simp only [sameRs,Bool.and_eq_true,beq_iff_eq,decide_eq_true_eq] at h
   obtain ⟨⟨h1,h2,h3⟩,h4⟩:=h
   rw [sameRs_eq h4,h1,h2,h3]
 | [],_::_,h | _::_,[],h=>by simp [sameRs] at h
theorem sameRs_refl:∀ rs:List Rul,sameRs rs rs=true
 | []=>rfl
 | r::rs=>by simp [sameRs,sameRs_refl rs]
theorem lsame {R:Type} (k0:Bool→Option R) (k1:Lic→Lic→Int→Option R) (hk:∀ a b c,k1 a b c=k0 true) (nm nm2:List UInt8):
  ∀ (ys zs pre:List Rul) (m:Nat),ys.length=zs.length→ys.length < m→(pre++ys).length≤BIG→(∀ r∈ys,r.2.2.1.length < 2000)→
    ∀ pre2:List Rul,pre2.length=pre.length→l14_15 (S41 2000) k0 k1 m (nm,(pre++ys),()) (nm2,(pre2++zs),()) (pre.length:Int)=k0 (sameRs ys zs):=by
 intro ys
 induction ys with
 | nil=>
   intro zs pre m hl hm hb hr pre2 hp
   cases zs with
   | cons=>simp at hl
   | nil=>
     cases m with
     | zero=>simp at hm
     | succ m=>
       unfold l14_15
       simp only [g14_0,g14_1,g14_2,g14_4,g14_5,g14_11,g14_9,g14_13,g14_14,g14_15,g14_17,g14_18,g14,lt_nil,brB_false,hk]
       rfl
 | cons y ys ih=>
   intro zs pre m hl hm hb hr pre2 hp
   cases zs with
   | nil=>simp at hl
   | cons z zs=>
     cases m with
     | zero=>simp at hm
     | succ m=>
       have i2:(0≤(pre.length:Int)∧(pre.length:Int) < ((pre2++z::zs).length:Int))=True:=by rw [←hp]; exact in_cons ..
       have a2:∀ d,(pre2++z::zs).getD (Int.toNat (pre.length:Int)) d=z:=fun d=>by rw [←hp]; exact at_cons ..
       have step:=ih zs (pre++[y]) m (by simpa using hl) (by simpa using hm) (by rw [←app_cons]; exact hb) (fun r h=>hr r (by simp [h])) (pre2++[z]) (by simp [hp])
       rw [←app_cons,←app_cons] at step
       unfold l14_15
       simp only [g14_0,g14_1,g14_2,g14_4,g14_5,g14_11,g14_9,g14_13,g14_14,g14_15,g14_17,g14_18,g14,lt_cons,in_cons,at_cons,i2,a2,if_true,brB_true,wrap_snoc pre ys y hb,v41 y.2.2.1 z.2.2.1 (hr y (by simp)),Option.bind_some]
       simp only [sameRs,bne]
       cases h1:(y.1==z.1) with
       | false=>simp only [Bool.not_false,brB_true,Bool.false_and]
       | true=>
         simp only [Bool.not_true,brB_false,Bool.true_and]
         cases h2:(y.2.1==z.2.1) with
         | false=>simp only [Bool.not_false,brB_true,Bool.false_and]
         | true=>
           simp only [Bool.not_true,brB_false,Bool.true_and]
           cases h3:decide (y.2.2.1=z.2.2.1) with
           | false=>simp only [Bool.not_false,brB_true,Bool.false_and]
           | true=>
             simp only [Bool.not_true,brB_false,Bool.true_and]
             exact step
def sameL (x y:Lic):Bool:=decide (x.1=y.1)&&sameRs x.2.1 y.2.1
theorem sameRs_len:∀ {rs ss:List Rul},rs.length≠ss.length→sameRs rs ss=false
 | [],[],h=>absurd rfl h
 | _::rs,_::ss,h=>by simp only [sameRs,sameRs_len (rs:=rs) (ss:=ss) (by simpa using h),Bool.and_false]
 | [],_::_,_ | _::_,[],_=>rfl
theorem v14 (x y:Lic) (h:x.2.1.length < 2000) (hr:∀ r∈x.2.1,r.2.2.1.length < 2000):S14 2000 x y=some (sameL x y):=by
 obtain ⟨nm,rs,u⟩:=x
 obtain ⟨nm2,ss,u2⟩:=y
 replace h:rs.length < 2000:=h
 unfold S14 sameL
 simp only [g14_0,g14_1,g14_2,g14_4,g14_5,g14_11,g14_9,g14_13,g14_14,g14_15,g14_17,g14_18,g14]
 by_cases h1:nm=nm2
 ·subst h1
  have e1:(nm != nm)=false:=by simp
  simp only [e1,brB_false,decide_true,Bool.true_and]
  by_cases hl:rs.length=ss.length
  ·have e2:((rs.length:Int) != (ss.length:Int))=false:=by simp [hl]
   have:=lsame (R:=Bool) some (fun _ _ _=>some true) (fun _ _ _=>rfl) nm nm rs ss [] 2000 hl h (by unfold BIG; simp; omega) hr [] rfl
   simp only [e2,brB_false]
   simpa using this
  ·have e2:((rs.length:Int) != (ss.length:Int))=true:=by simp; omega
   simp only [e2,brB_true,sameRs_len hl]
 ·have e1:(nm != nm2)=true:=by simpa using h1
  simp only [e1,brB_true,h1,decide_false,Bool.false_and]
theorem sameL_eq {x y:Lic} (h:sameL x y=true):x=y:=by
 obtain ⟨nm,rs,u⟩:=x
 obtain ⟨nm2,ss,u2⟩:=y
 simp only [sameL,Bool.and_eq_true,decide_eq_true_eq] at h
 rw [h.1,sameRs_eq h.2]
theorem sameL_refl (x:Lic):sameL x x=true:=by simp [sameL,sameRs_refl]
end Go.Fw.L19
