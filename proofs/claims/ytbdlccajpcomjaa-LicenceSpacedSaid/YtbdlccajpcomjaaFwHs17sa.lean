/- What the tokens of a written text are. -/
import Derived.Test.YtbdlccajpcomjaaFwHs17pe
set_option linter.unusedVariables false
set_option linter.unusedSimpArgs false
namespace Go.Fw.L19
open Go Go.Fw
set_option maxRecDepth 100000
set_option linter.unusedSimpArgs false
set_option linter.unusedVariables false
theorem isNm_eq (s:List UInt8):isNm s=(decide (s≠[])&&(decide (s.length≤20)&&decide (nmL s=s.length))):=by
 unfold isNm S27
 simp only [g27_2,g27_2b,g27]
 by_cases h0:s=[]
 ·subst h0; rfl
 ·have e0:(s != ([]:List UInt8))=true:=by simpa using h0
  have e1:decide (s≠[])=true:=decide_eq_true h0
  simp only [e0,e1,brB_true,Bool.true_and]
  by_cases h1:s.length≤20
  ·have d:decide ((s.length:Int)≤20)=true:=decide_eq_true (by omega)
   have e2:decide (s.length≤20)=true:=decide_eq_true h1
   simp only [d,e2,brB_true,Bool.true_and,(vnm s (by omega)).2,Option.bind_some]
   by_cases h2:nmL s=s.length
   ·simp [h2]
   ·have:((nmL s:Int)==(s.length:Int))=false:=by simpa using fun h=>h2 (by omega)
    rw [this,decide_eq_false h2]
  ·have d:decide ((s.length:Int)≤20)=false:=decide_eq_false (by omega)
   have e2:decide (s.length≤20)=false:=decide_eq_false h1
   simp only [d,e2,brB_false,Bool.false_and]
theorem isNm_of {s:List UInt8} (h:isNm s=true):s≠[]∧s.length≤20∧nmL s=s.length:=by
 rw [isNm_eq] at h
 simpa using h
def brk:List UInt8→Bool
 | []=>true
 | c::_=>!smB c&&(!dgB c&&(c.toNat != 45))
theorem nmT_brk {r:List UInt8} (h:brk r=true):nmT r=0:=by
 cases r with
 | nil=>rfl
 | cons c t=>
   simp only [brk,Bool.and_eq_true,Bool.not_eq_true',bne_iff_ne,ne_eq] at h
   obtain ⟨h1,h2,h3⟩:=h
   unfold nmT
   simp [h1,h2,h3]
theorem nmT_app {r:List UInt8} (h:brk r=true):∀ (n:Nat) (p:List UInt8),p.length≤n→nmT p=p.length→nmT (p++r)=p.length
 | _,[],_,_=>nmT_brk h
 | 0,_::_,hn,_=>by simp at hn
 | n+1,[c],hn,hp=>by
   unfold nmT at hp ⊢
   simp only [List.cons_append,List.nil_append,List.length_singleton]
   by_cases h1:(smB c || dgB c)=true
   ·rw [if_pos h1,nmT_brk h]
   ·rw [if_neg h1] at hp
    split at hp<;>simp at hp
 | n+1,c::d::t,hn,hp=>by
   unfold nmT at hp ⊢
   simp only [List.cons_append,List.length_cons] at hn hp ⊢
   by_cases h1:(smB c || dgB c)=true
   ·rw [if_pos h1] at hp ⊢
    have:=nmT_app h n (d::t) (by simp only [List.length_cons]; omega) (by simp only [List.length_cons]; omega)
    simp only [List.cons_append,List.length_cons] at this
    rw [this]
   ·rw [if_neg h1] at hp ⊢
    by_cases h2:c.toNat=45
    ·rw [if_pos h2] at hp ⊢
     by_cases h3:(smB d || dgB d)=true
     ·simp only [h3,if_true] at hp ⊢
      rw [nmT_app h n t (by omega) (by omega)]
     ·simp only [h3,Bool.false_eq_true,if_false] at hp
      omega
    ·rw [if_neg h2] at hp
     omega
theorem nmL_app {p r:List UInt8} (h:brk r=true) (h0:p≠[]) (hp:nmL p=p.length):nmL (p++r)=p.length:=by
 cases p with
 | nil=>exact absurd rfl h0
 | cons c s=>
   simp only [nmL,List.cons_append,List.length_cons] at hp ⊢
   split at hp
   ·rename_i h1
    rw [if_pos h1,nmT_app h _ s (Nat.le_refl _) (by omega)]
   ·omega
theorem cnt_app (p:UInt8→Bool):∀ (a r:List UInt8),(∀ c∈a,p c=true)→(match r with | []=>true | c::_=>!p c)=true→cnt p (a++r)=a.length
 | [],[],_,_=>rfl
 | [],c::r,_,h=>by
   simp only [Bool.not_eq_true'] at h
   simp [cnt,h]
 | c::a,r,ha,h=>by
   simp only [List.cons_append,cnt,ha c (by simp),if_true,List.length_cons]
   rw [cnt_app p a r (fun x hx=>ha x (by simp [hx])) h]
def Good (t:Int×List UInt8):Prop:=
 (t.1=1∧isNm t.2=true)∨(t.1=2∧t.2≠[]∧t.2.length≤6∧(∀ c∈t.2,dgB c=true)∧(2≤t.2.length→∀ c r,t.2=c::r→c.toNat≠48))∨
 (t.1=3∧(∀ c∈t.2,inB' c=true)∧t.2.length≤60)∨(t.1=4∧∃ c,t.2=[c]∧sgB c=true∧smB c=false∧dgB c=false∧c.toNat≠34∧c.toNat≠10∧isW c=false∧c.toNat≠35)
def piece (t:Int×List UInt8):List UInt8:=if t.1=3 then 34::(t.2++[34]) else t.2
theorem sm_no {c:UInt8} (h:smB c=true):dgB c=false∧c.toNat≠34∧c.toNat≠10∧isW c=false∧c.toNat≠35:=by
 have:97≤c.toNat∧c.toNat≤122:=by
  unfold smB sm at h
  simp only [Bool.and_eq_true,decide_eq_true_eq] at h
  omega
 refine ⟨?_,by omega,by omega,?_,by omega⟩
 ·unfold dgB dg
  have:decide ((c.toNat:Int)≤57)=false:=decide_eq_false (by omega)
  rw [this,Bool.and_false]
 ·unfold isW
  simp; omega
theorem dg_no {c:UInt8} (h:dgB c=true):smB c=false∧c.toNat≠34∧c.toNat≠10∧isW c=false∧c.toNat≠35:=by
 have:=dg_rng h
 refine ⟨?_,by omega,by omega,?_,by omega⟩
 ·unfold smB sm
  have:decide ((c.toNat:Int)≥97)=false:=decide_eq_false (by omega)
  rw [this,Bool.false_and]
 ·unfold isW
  simp; omega
theorem nx_good {t:Int×List UInt8} (h:Good t) {r:List UInt8} (hr:brk r=true):
  nx (piece t++r)=.inr (t.1,t.2,(piece t).length)∧∃ c q,piece t=c::q∧c.toNat≠10∧isW c=false∧c.toNat≠35:=by
 obtain ⟨k,x⟩:=t
 rcases h with ⟨h1,h2⟩ | ⟨h1,h2,h3,h4,h5⟩ | ⟨h1,h2,h3⟩ | ⟨h1,c,h2,h3,h4,h5,h6,h7,h8,h9⟩
 ·simp only at h1 h2
  subst h1
  obtain ⟨g1,g2,g3⟩:=isNm_of h2
  have e:piece (1,x)=x:=rfl
  rw [e]
  have hn:=nmL_app hr g1 g3
  cases x with
  | nil=>exact absurd rfl g1
  | cons c q=>
    have hc:smB c=true:=by
     simp only [nmL,List.length_cons] at g3
     split at g3
     ·assumption
     ·omega
    have hs:=sm_no hc
    refine ⟨?_,c,q,rfl,hs.2.2⟩
    simp only [List.cons_append] at hn
    simp only [List.cons_append,nx,hc,if_true,hn]
    rw [if_neg (by omega),←List.cons_append,List.take_left]
 ·simp only at h1 h2 h3 h4 h5
  subst h1
  have e:piece (2,x)=x:=rfl
  rw [e]
  have hn:=cnt_app dgB x r h4 (by
   cases r with
   | nil=>rfl
   | cons c t=>
     simp only [brk,Bool.and_eq_true] at hr
     exact hr.2.1)
  cases x with
  | nil=>exact absurd rfl h2
  | cons c q=>
    have hc:=h4 c (by simp)
    have hs:=dg_no hc
    refine ⟨?_,c,q,rfl,hs.2.2⟩
    simp only [List.cons_append] at hn
    simp only [List.cons_append,nx,hc,hs.1,if_true,hn,Bool.false_eq_true,if_false]
    rw [if_neg (by omega),if_neg (by
     rintro ⟨a,b⟩
     exact h5 (by omega) c q rfl a),←List.cons_append,List.take_left]
 ·simp only at h1 h2 h3
  subst h1
  have e:piece (3,x)=34::(x++[34]):=rfl
  rw [e]
  have hn:=cnt_app inB' x (34::r) h2 rfl
  refine ⟨?_,34,_,rfl,by decide,by decide,by decide⟩
  have q1:smB 34=false:=by decide
  have q2:dgB 34=false:=by decide
  have q3:(34:UInt8).toNat=34:=rfl
  have q4:quoT (x++34::r)=(0,x):=by
   unfold quoT
   rw [hn]
   simp only [List.drop_left,List.take_left]
   rw [if_neg (by decide),if_neg (by omega)]
  simp only [List.cons_append,List.append_assoc,List.nil_append,nx,q1,q2,q3,q4,Bool.false_eq_true,if_false,if_true,List.length_cons,List.length_append,List.length_nil]
 ·simp only at h1 h2
  subst h1 h2
  have e:piece (4,[c])=[c]:=rfl
  rw [e]
  refine ⟨?_,c,[],rfl,h7,h8,h9⟩
  simp only [List.cons_append,List.nil_append,nx,h3,h4,h5,h6,Bool.false_eq_true,if_false,if_true,List.length_singleton]
def TK (s:List UInt8) (ks:List (Int×List UInt8)):Prop:=∀ l,∃ ts,toks s.length l s=.inr ts∧ts.map (fun t=>(t.1,t.2.1))=ks
theorem TK.nil:TK [] []:=fun l=>⟨[],rfl,rfl⟩
theorem TK.sp {s:List UInt8} {ks} (h:TK s ks):TK (32::s) ks:=by
 intro l
 obtain ⟨ts,h1,h2⟩:=h l
 exact ⟨ts,by simp only [List.length_cons,toks]; exact h1,h2⟩
theorem TK.tab {s:List UInt8} {ks} (h:TK s ks):TK (9::s) ks:=by
 intro l
 obtain ⟨ts,h1,h2⟩:=h l
 exact ⟨ts,by simp only [List.length_cons,toks]; exact h1,h2⟩
theorem TK.nl {s:List UInt8} {ks} (h:TK s ks):TK (10::s) ks:=by
 intro l
 obtain ⟨ts,h1,h2⟩:=h (l+1)
 exact ⟨ts,by simp only [List.length_cons,toks]; exact h1,h2⟩
theorem TK.cm {s:List UInt8} {ks} (h:TK s ks):TK (35::32::99::10::s) ks:=by
 intro l
 obtain ⟨ts,h1,h2⟩:=h.nl l
 refine ⟨ts,?_,h2⟩
 rw [←h1]
 exact toks_fuel _ _ l (10::s) (by simp) (Nat.le_refl _)
theorem TK.tok {t:Int×List UInt8} (hg:Good t) {r:List UInt8} {ks} (hr:brk r=true) (h:TK r ks):TK (piece t++r) (t::ks):=by
 intro l
 obtain ⟨ts,h1,h2⟩:=h l
 obtain ⟨hn,c,q,hq,g1,g2,g3⟩:=nx_good hg hr
 refine ⟨(t.1,(t.2,(l,())))::ts,?_,by simp [h2]⟩
 have hl:(piece t++r).length=(q++r).length+1:=by rw [hq]; simp
 have hd:(piece t++r).drop (piece t).length=r:=List.drop_left
 rw [hl]
 rw [hq] at hn hd ⊢
 simp only [List.cons_append] at hn hd ⊢
 simp only [toks,if_neg g1,g2,Bool.false_eq_true,if_false,if_neg g3,hn]
 rw [hd,toks_fuel (q++r).length r.length l r (by simp) (Nat.le_refl _),h1]
end Go.Fw.L19
