/- The tokens of a licence, read again. -/
import Derived.Test.YtbdlccajpcomjaaFwHs17sa
set_option linter.unusedVariables false
set_option linter.unusedSimpArgs false
namespace Go.Fw.L19
open Go Go.Fw
set_option maxRecDepth 100000
set_option linter.unusedSimpArgs false
set_option linter.unusedVariables false
def dgs (n:Int):List UInt8:=match S30 30000 n with | some x=>x | none=> []
theorem digits_ok:((List.range 1000).all fun n=>(S30 30000 (n:Int)==some (dgs (n:Int)))&&(decide ((dgs (n:Int)).length≤3)&&(numOk (dgs (n:Int))&&(numR (dgs (n:Int))==((n:Int),true)))))=true:=by kernel_rfl
theorem vdigits {n:Int} (h:0≤n∧n≤999):S30 30000 n=some (dgs n)∧(dgs n).length≤3∧numOk (dgs n)=true∧numR (dgs n)=(n,true):=by
 have:=List.all_eq_true.1 digits_ok n.toNat (List.mem_range.2 (by omega))
 have e:((n.toNat:Nat):Int)=n:=by omega
 rw [e] at this
 simpa only [Bool.and_eq_true,beq_iff_eq,decide_eq_true_eq] using this
def kname (k:Int):List UInt8:=kN.getD (k.toNat - 1) []
theorem knames_ok:((List.range 12).all fun n=>isNm (kname ((n+1:Nat):Int))&&(decide ((kname ((n+1:Nat):Int)).length≤11)&&(knd (kname ((n+1:Nat):Int))==((n+1:Nat):Int))))=true:=by kernel_rfl
theorem vkname {k:Int} (h:1≤k∧k≤12):S29 30000 k=some (kname k)∧isNm (kname k)=true∧(kname k).length≤11∧knd (kname k)=k:=by
 have:=List.all_eq_true.1 knames_ok (k.toNat - 1) (List.mem_range.2 (by omega))
 have h2:=(vKind (k.toNat - 1) (by omega)).2
 have e:((k.toNat - 1+1:Nat):Int)=k:=by omega
 rw [e] at this h2
 simp only [Bool.and_eq_true,beq_iff_eq,decide_eq_true_eq] at this
 exact ⟨h2,this⟩
theorem letts_in:((List.range 256).all fun n=>!lett (n:Int) || inB' (UInt8.ofNat n))=true:=by kernel_rfl
theorem lett_in {c:UInt8} (h:lett (c.toNat:Int)=true):inB' c=true:=by
 have:=List.all_eq_true.1 letts_in c.toNat (List.mem_range.2 c.toNat_lt)
 rw [h] at this
 simpa using this
def ksWs (ws:List (List UInt8)):List (Int×List UInt8):=ws.flatMap fun w=> [(4,[44]),(3,w)]
def ksW:List (List UInt8)→List (Int×List UInt8)
 | []=> []
 | w::ws=>(1,[105,110])::(3,w)::ksWs ws
def ksR (r:Rul):List (Int×List UInt8):=(1,kname r.1)::(2,dgs r.2.1)::(ksW r.2.2.1++[(4,[59])])
def ksL (l:Lic):List (Int×List UInt8):=(1,[108,105,99,101,110,99,101])::(1,l.1)::(4,[123])::(l.2.1.flatMap ksR++[(4,[125])])
def kt (t:Tok):Int×List UInt8:=(t.1,t.2.1)
theorem isT_kt {ts:List Tok} {k:Int} {x:List UInt8} {ks} (h:ts.map kt=(k,x)::ks) (k':Int) (s:List UInt8):isT ts k' s=((k==k')&&((s==[]) || (x==s)))∧(hdT ts).2.1=x∧ts.tail.map kt=ks:=by
 cases ts with
 | nil=>cases h
 | cons t r=>
   simp only [List.map_cons,List.cons.injEq,kt,Prod.mk.injEq] at h
   obtain ⟨⟨h1,h2⟩,h3⟩:=h
   refine ⟨?_,h2,h3⟩
   simp only [isT,h1,h2]
theorem pW_kt:∀ (ws:List (List UInt8)) (ts:List Tok) (ks:List (Int×List UInt8)),ts.map kt=ksWs ws++(4,[59])::ks→∃ r,pW ts=.inr (ws,r)∧r.map kt=(4,[59])::ks
 | [],ts,ks,h=>by
   have h:ts.map kt=(4,[59])::ks:=h
   have hi:=(isT_kt h 4 [44]).1
   have hi:isT ts 4 [44]=false:=hi.trans (by decide)
   match ts,h,hi with
   | [c],h,hi=>exact ⟨[c],by simp only [pW,hi,Bool.false_eq_true,if_false],h⟩
   | c::q::r,h,hi=>exact ⟨c::q::r,by simp only [pW,hi,Bool.false_eq_true,if_false],h⟩
 | w::ws,ts,ks,h=>by
   have h:ts.map kt=(4,[44])::(3,w)::(ksWs ws++(4,[59])::ks):=h
   match ts,h with
   | [c],h=>simp at h
   | c::q::r,h=>
     have a1:=isT_kt h 4 [44]
     have a2:=isT_kt a1.2.2 3 []
     have i1:isT (c::q::r) 4 [44]=true:=a1.1.trans (by decide)
     have i2:isT (q::r) 3 []=true:=a2.1.trans (by simp)
     obtain ⟨r',g1,g2⟩:=pW_kt ws r ks a2.2.2
     refine ⟨r',?_,g2⟩
     have e:q.2.1=w:=a2.2.1
     simp only [pW,i1,i2,if_true,g1,e]
theorem pRule_kt (r:Rul) (hc:0≤r.2.1∧r.2.1≤999) (ts:List Tok) (ks:List (Int×List UInt8)) (h:ts.map kt=ksR r++ks):
  ∃ t',pRule ts=.inr ((kname r.1,(r.2.1,r.2.2.1)),t')∧t'.map kt=ks:=by
 obtain ⟨k,c,ws,u⟩:=r
 have hn:=(vdigits hc).2.2.2
 simp only at hn
 have h:ts.map kt=(1,kname k)::(2,dgs c)::((ksW ws++[(4,[59])])++ks):=h
 have a1:=isT_kt h 1 []
 have a2:=isT_kt a1.2.2 2 []
 have i1:isT ts 1 []=true:=a1.1.trans (by simp)
 have i2:isT ts.tail 2 []=true:=a2.1.trans (by simp)
 unfold pRule
 simp only [i1,i2,if_true,a1.2.1,a2.2.1,hn]
 have h3:=a2.2.2
 rw [List.append_assoc,List.singleton_append] at h3
 have hp:∃ t,pIn ts.tail.tail=.inr (ws,t)∧t.map kt=(4,[59])::ks:=by
  unfold pIn
  cases ws with
  | nil=>
    have a3:=isT_kt (h3:_=(4,[59])::ks) 1 [105,110]
    have i3:isT ts.tail.tail 1 [105,110]=false:=a3.1.trans (by decide)
    rw [i3]
    exact ⟨_,rfl,h3⟩
  | cons w ws=>
    have h3:ts.tail.tail.map kt=(1,[105,110])::(3,w)::(ksWs ws++(4,[59])::ks):=h3
    have a3:=isT_kt h3 1 [105,110]
    have a4:=isT_kt a3.2.2 3 []
    have i3:isT ts.tail.tail 1 [105,110]=true:=a3.1.trans (by decide)
    have i4:isT ts.tail.tail.tail 3 []=true:=a4.1.trans (by simp)
    obtain ⟨t,g1,g2⟩:=pW_kt ws _ ks a4.2.2
    simp only [i3,i4,if_true,g1,a4.2.1]
    exact ⟨t,rfl,g2⟩
 obtain ⟨t,g1,g2⟩:=hp
 have a5:=isT_kt g2 4 [59]
 have i5:isT t 4 [59]=true:=a5.1.trans (by decide)
 simp only [g1,i5,if_true]
 exact ⟨_,rfl,a5.2.2⟩
theorem pRs_kt:∀ (rs:List Rul) (n:Nat) (ts:List Tok),(∀ r∈rs,0≤r.2.1∧r.2.1≤999)→ts.length≤n→ts.map kt=rs.flatMap ksR++[(4,[125])]→
  ∃ qs t',pRs n ts=.inr (qs,t')∧t'.map kt=[(4,[125])]∧qs.map (·.2)=rs.map fun r=>(kname r.1,(r.2.1,r.2.2.1))
 | [],n,ts,_,hn,h=>by
   have h:ts.map kt=[(4,[125])]:=h
   have hl:ts.length=1:=by simpa using congrArg List.length h
   obtain ⟨n,rfl⟩:∃ k,n=k+1:=⟨n - 1,by omega⟩
   have i:isT ts 4 [125]=true:=(isT_kt h 4 [125]).1.trans (by decide)
   exact ⟨[],ts,by simp only [pRs,i,if_true],h,rfl⟩
 | r::rs,n,ts,hc,hn,h=>by
   have h:ts.map kt=ksR r++(rs.flatMap ksR++[(4,[125])]):=by rw [h,List.flatMap_cons,List.append_assoc]
   have i:isT ts 4 [125]=false:=by
    have h':ts.map kt=(1,kname r.1)::((2,dgs r.2.1)::(ksW r.2.2.1++[(4,[59])])++(rs.flatMap ksR++[(4,[125])])):=h
    exact (isT_kt h' 4 [125]).1.trans (by rw [show ((1:Int)==4)=false from rfl]; rfl)
   obtain ⟨t',g1,g2⟩:=pRule_kt r (hc r (by simp)) ts _ h
   have hd:=(pRule_dec g1).1
   obtain ⟨n,rfl⟩:∃ k,n=k+1:=⟨n - 1,by omega⟩
   obtain ⟨qs,t2,k1,k2,k3⟩:=pRs_kt rs n t' (fun r hr=>hc r (by simp [hr])) (by omega) g2
   exact ⟨_,t2,by simp only [pRs,i,Bool.false_eq_true,if_false,g1,k1]; rfl,k2,by simp [k3]⟩
theorem rlw_wd:∀ (ws:List (List UInt8)) (pre:List (List UInt8)),rlw ws pre=0→∀ w∈ws,wd w=0
 | [],_,_,_,h=>by cases h
 | v::ws,pre,h,w,hw=>by
   unfold rlw at h
   split at h
   ·rename_i h1
    exact absurd h h1
   ·rename_i h1
    have hv:wd v=0:=by simpa using h1
    split at h
    ·cases h
    ·rcases List.mem_cons.1 hw with rfl | hw
     ·exact hv
     ·exact rlw_wd ws _ h w hw
theorem rls_rul:∀ (rs:List Rul),rls rs=0→∀ r∈rs,rul r=0
 | [],_,_,h=>by cases h
 | v::rs,h,r,hr=>by
   unfold rls at h
   split at h
   ·rename_i h1
    exact absurd h h1
   ·rename_i h1
    rcases List.mem_cons.1 hr with rfl | hr
    ·simpa using h1
    ·exact rls_rul rs h r hr
def okR (r:Rul):Prop:=(1≤r.1∧r.1≤12)∧(0≤r.2.1∧r.2.1≤999)∧r.2.2.1.length≤20∧∀ w∈r.2.2.1,w.length≤16∧∀ c∈w,inB' c=true
theorem wd_ok {w:List UInt8} (h:wd w=0):w.length≤16∧∀ c∈w,inB' c=true:=by
 unfold wd at h
 split at h
 ·cases h
 ·split at h
  ·cases h
  ·rename_i h1 h2
   refine ⟨by omega,fun c hc=>?_⟩
   simp only [not_or,bad,List.any_eq_true,not_exists,not_and,Bool.not_eq_true',Bool.not_eq_true] at h2
   exact lett_in (by
    have:=h2.2.2 c hc
    simpa using this)
theorem rul_ok {r:Rul} (h:rul r=0):okR r:=by
 unfold rul at h
 split at h
 ·cases h
 ·split at h
  ·cases h
  ·rename_i h1 h2
   exact ⟨by omega,by omega,by omega,fun w hw=>wd_ok (rlw_wd _ _ h w hw)⟩
theorem lic_okR {x:Lic} (h:lic x=0):isNm x.1=true∧x.2.1.length≤30∧∀ r∈x.2.1,okR r:=by
 unfold lic at h
 split at h
 ·cases h
 ·rename_i h0
  split at h
  ·cases h
  ·rename_i h1
   exact ⟨by simpa using h0,by omega,fun r hr=>rul_ok (rls_rul _ h r hr)⟩
theorem parse_TK {s:List UInt8} {l:Lic} (h:TK s (ksL l)) (hl:lic l=0):pOut s=(l,0,0):=by
 obtain ⟨nm,rs,u⟩:=l
 obtain ⟨hn,h30,hr⟩:=lic_okR hl
 obtain ⟨ts,h1,h2⟩:=h 1
 have h2:ts.map kt=(1,[108,105,99,101,110,99,101])::(1,nm)::(4,[123])::(rs.flatMap ksR++[(4,[125])]):=h2
 have e:tk s=(ts,0,0):=by unfold tk; rw [h1]
 unfold pOut
 simp only [e,if_true]
 have a1:=isT_kt h2 1 [108,105,99,101,110,99,101]
 have a2:=isT_kt a1.2.2 1 []
 have a3:=isT_kt a2.2.2 4 [123]
 have i1:isT ts 1 [108,105,99,101,110,99,101]=true:=a1.1.trans (by decide)
 have i2:isT ts.tail 1 []=true:=a2.1.trans (by simp)
 have i3:isT ts.tail.tail 4 [123]=true:=a3.1.trans (by decide)
 obtain ⟨qs,t',k1,k2,k3⟩:=pRs_kt rs ts.length ts.tail.tail.tail (fun r hx=>(hr r hx).2.1) (by simp only [List.length_tail]; omega) a3.2.2
 have ht:t'.tail=[]:=by
  have:=congrArg List.length k2
  simp only [List.length_map,List.length_singleton] at this
  exact List.length_eq_zero_iff.1 (by rw [List.length_tail]; omega)
 unfold pAll
 simp only [i1,i2,i3,if_true,k1,ht,a2.2.1]
 have hq:∀ (rs:List Rul) (qs:List (Int×Qr)),(∀ r∈rs,okR r)→qs.map (·.2)=rs.map (fun r=>(kname r.1,(r.2.1,r.2.2.1)))→pK qs=none∧rulesK qs=rs:=by
  intro rs
  induction rs with
  | nil=>
    intro qs _ h
    have:qs=[]:=by simpa using h
    subst this; exact ⟨rfl,rfl⟩
  | cons r rs ih=>
    intro qs hr h
    cases qs with
    | nil=>simp at h
    | cons q qs=>
      simp only [List.map_cons,List.cons.injEq] at h
      obtain ⟨g1,g2⟩:=ih qs (fun r hx=>hr r (by simp [hx])) h.2
      have hk:=(vkname (hr r (by simp)).1).2.2.2
      have hq:=h.1
      obtain ⟨ql,qn,qc,qw⟩:=q
      simp only [Prod.mk.injEq] at hq
      obtain ⟨q1,q2,q3⟩:=hq
      subst q1 q2 q3
      have hk1:=(hr r (by simp)).1
      refine ⟨?_,?_⟩
      ·simp only [pK,hk]
       rw [if_neg (by omega)]
       exact g1
      ·simp only [rulesK,List.map_cons,hk]
       rw [show List.map (fun q:Int×Qr=>(knd q.2.1,(q.2.2.1,(q.2.2.2,())))) qs=rs from g2]
 obtain ⟨g1,g2⟩:=hq rs qs hr k3
 unfold pEnd
 simp only [g1,g2]
 rw [if_pos hl]
end Go.Fw.L19
