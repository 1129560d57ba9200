/- The text of a licence, and the same tokens spaced otherwise. -/
import Derived.Test.YtbdlccajpcomjaaFwHs17sb
set_option linter.unusedVariables false
set_option linter.unusedSimpArgs false
namespace Go.Fw.L19
open Go Go.Fw
set_option maxRecDepth 100000
set_option linter.unusedSimpArgs false
set_option linter.unusedVariables false
def fmtWs (ws:List (List UInt8)):List UInt8:=ws.flatMap fun w=> [44,32,34]++w++[34]
def fmtW:List (List UInt8)→List UInt8
 | []=> []
 | w::ws=> [32,105,110,32,34]++w++[34]++fmtWs ws
def fmtR (r:Rul):List UInt8:=[32,32]++kname r.1++[32]++dgs r.2.1++fmtW r.2.2.1++[59,10]
def fmt (l:Lic):List UInt8:=[108,105,99,101,110,99,101,32]++l.1++[32,123,10]++l.2.1.flatMap fmtR++[125,10]
theorem numOk_good {x:List UInt8} (h:numOk x=true):Good (2,x):=by
 unfold numOk at h
 simp only [Bool.and_eq_true,Bool.not_eq_true',decide_eq_true_eq,beq_iff_eq] at h
 obtain ⟨h1,h2,h3,h4⟩:=h
 refine .inr (.inl ⟨rfl,?_,h2,fun c hc=>cnt_all dgB h3 c hc,?_⟩)
 ·rintro rfl; simp at h1
 ·intro hl c r e
  simp only at e hl
  subst e
  rw [decide_eq_true (by omega)] at h4
  simpa using h4
theorem good_sign (c:UInt8) (h:(sgB c&&(!smB c&&(!dgB c&&(c.toNat != 34&&(c.toNat != 10&&(!isW c&&c.toNat != 35))))))=true):Good (4,[c]):=by
 simp only [Bool.and_eq_true,Bool.not_eq_true',bne_iff_ne,ne_eq] at h
 exact .inr (.inr (.inr ⟨rfl,c,rfl,h.1,h.2.1,h.2.2.1,h.2.2.2.1,h.2.2.2.2.1,h.2.2.2.2.2.1,h.2.2.2.2.2.2⟩))
theorem good_comma:Good (4,[44]):=good_sign 44 (by kernel_rfl)
theorem good_semi:Good (4,[59]):=good_sign 59 (by kernel_rfl)
theorem good_open:Good (4,[123]):=good_sign 123 (by kernel_rfl)
theorem good_close:Good (4,[125]):=good_sign 125 (by kernel_rfl)
theorem good_in:Good (1,[105,110]):=.inl ⟨rfl,by kernel_rfl⟩
theorem good_lic:Good (1,[108,105,99,101,110,99,101]):=.inl ⟨rfl,by kernel_rfl⟩
theorem good_w {w:List UInt8} (h:w.length≤16∧∀ c∈w,inB' c=true):Good (3,w):=.inr (.inr (.inl ⟨rfl,h.2,by have:=h.1; show w.length≤60; omega⟩))
theorem good_R {r:Rul} (h:okR r):∀ t∈ksR r,Good t:=by
 obtain ⟨k,c,ws,u⟩:=r
 obtain ⟨h1,h2,h3,h4⟩:=h
 simp only at h1 h2 h3 h4
 intro t ht
 simp only [ksR,List.mem_cons,List.mem_append,List.not_mem_nil,or_false] at ht
 rcases ht with rfl | rfl | ht | rfl
 ·exact .inl ⟨rfl,(vkname h1).2.1⟩
 ·exact numOk_good (vdigits h2).2.2.1
 ·cases ws with
  | nil=>cases ht
  | cons w ws=>
    simp only [ksW,List.mem_cons,ksWs,List.mem_flatMap,List.not_mem_nil,or_false] at ht
    rcases ht with rfl | rfl | ⟨v,hv,rfl | rfl⟩
    ·exact good_in
    ·exact good_w (h4 w (by simp))
    ·exact good_comma
    ·exact good_w (h4 v (by simp [hv]))
 ·exact good_semi
theorem good_L {l:Lic} (h:lic l=0):∀ t∈ksL l,Good t:=by
 obtain ⟨h1,h2,h3⟩:=lic_okR h
 intro t ht
 simp only [ksL,List.mem_cons,List.mem_append,List.mem_flatMap,List.not_mem_nil,or_false] at ht
 rcases ht with rfl | rfl | rfl | ⟨r,hr,ht⟩ | rfl
 ·exact good_lic
 ·exact .inl ⟨rfl,h1⟩
 ·exact good_open
 ·exact good_R (h3 r hr) t ht
 ·exact good_close
theorem TK.tok' {t:Int×List UInt8} (hg:Good t) {p r:List UInt8} {ks} (hp:p=piece t) (hr:brk r=true) (h:TK r ks):TK (p++r) (t::ks):=by
 subst hp; exact TK.tok hg hr h
theorem TK_ws:∀ (ws:List (List UInt8)) (r:List UInt8) (ks:List (Int×List UInt8)),(∀ w∈ws,w.length≤16∧∀ c∈w,inB' c=true)→brk r=true→TK r ks→TK (fmtWs ws++r) (ksWs ws++ks)∧brk (fmtWs ws++r)=true
 | [],r,ks,_,hb,h=>⟨h,hb⟩
 | w::ws,r,ks,hw,hb,h=>by
   obtain ⟨h1,h2⟩:=TK_ws ws r ks (fun v hv=>hw v (by simp [hv])) hb h
   have e:fmtWs (w::ws)++r=[44]++(32::((34::(w++[34]))++(fmtWs ws++r))):=by
    simp [fmtWs]
   have e2:ksWs (w::ws)++ks=(4,[44])::(3,w)::(ksWs ws++ks):=rfl
   rw [e,e2]
   exact ⟨TK.tok' good_comma rfl rfl (TK.sp (TK.tok' (good_w (hw w (by simp))) rfl h2 h1)),rfl⟩
theorem TK_w (ws:List (List UInt8)) (r:List UInt8) (ks:List (Int×List UInt8)) (hw:∀ w∈ws,w.length≤16∧∀ c∈w,inB' c=true) (hb:brk r=true) (h:TK r ks):TK (fmtW ws++r) (ksW ws++ks)∧brk (fmtW ws++r)=true:=by
 cases ws with
 | nil=>exact ⟨h,hb⟩
 | cons w ws=>
   obtain ⟨h1,h2⟩:=TK_ws ws r ks (fun v hv=>hw v (by simp [hv])) hb h
   have e:fmtW (w::ws)++r=32::([105,110]++(32::((34::(w++[34]))++(fmtWs ws++r)))):=by
    simp [fmtW]
   have e2:ksW (w::ws)++ks=(1,[105,110])::(3,w)::(ksWs ws++ks):=rfl
   rw [e,e2]
   exact ⟨TK.sp (TK.tok' good_in rfl rfl (TK.sp (TK.tok' (good_w (hw w (by simp))) rfl h2 h1))),rfl⟩
theorem TK_r {r:Rul} (hr:okR r) {s:List UInt8} {ks} (h:TK s ks):TK (fmtR r++s) (ksR r++ks):=by
 obtain ⟨k,c,ws,u⟩:=r
 obtain ⟨h1,h2,h3,h4⟩:=hr
 simp only at h1 h2 h3 h4
 obtain ⟨g1,g2⟩:=TK_w ws ([59]++(10::s)) ((4,[59])::ks) h4 rfl (TK.tok' good_semi rfl rfl (TK.nl h))
 have e:fmtR (k,c,ws,u)++s=32::32::(kname k++(32::(dgs c++(fmtW ws++([59]++(10::s)))))):=by
  simp [fmtR]
 have e2:ksR (k,c,ws,u)++ks=(1,kname k)::(2,dgs c)::(ksW ws++(4,[59])::ks):=by simp [ksR]
 rw [e,e2]
 exact TK.sp (TK.sp (TK.tok' (.inl ⟨rfl,(vkname h1).2.1⟩) rfl rfl (TK.sp (TK.tok' (numOk_good (vdigits h2).2.2.1) rfl g2 g1))))
theorem TK_rs:∀ (rs:List Rul) {s:List UInt8} {ks},(∀ r∈rs,okR r)→TK s ks→TK (rs.flatMap fmtR++s) (rs.flatMap ksR++ks)
 | [],_,_,_,h=>h
 | r::rs,s,ks,hr,h=>by
   rw [List.flatMap_cons,List.flatMap_cons,List.append_assoc,List.append_assoc]
   exact TK_r (hr r (by simp)) (TK_rs rs (fun x hx=>hr x (by simp [hx])) h)
theorem TK_fmt {l:Lic} (h:lic l=0):TK (fmt l) (ksL l):=by
 obtain ⟨h1,h2,h3⟩:=lic_okR h
 obtain ⟨nm,rs,u⟩:=l
 have e:fmt (nm,rs,u)=[108,105,99,101,110,99,101]++(32::(nm++(32::([123]++(10::(rs.flatMap fmtR++([125]++[10]))))))):=by simp [fmt]
 rw [e]
 exact TK.tok' good_lic rfl rfl (TK.sp (TK.tok' (.inl ⟨rfl,h1⟩) rfl rfl (TK.sp (TK.tok' good_open rfl rfl (TK.nl (TK_rs rs h3 (TK.tok' good_close rfl rfl (TK.nl TK.nil))))))))
def seps:List (List UInt8):=[[32],[10],[32,35,32,99,10],[9,32]]
def spaced (f:Nat→Nat):Nat→List (Int×List UInt8)→List UInt8
 | _,[]=> []
 | i,t::ts=>(seps.getD (f i) []++piece t)++spaced f (i+1) ts
theorem TK_spaced (f:Nat→Nat) (hf:∀ i,f i < 4):∀ (ks:List (Int×List UInt8)) (i:Nat),(∀ t∈ks,Good t)→TK (spaced f i ks) ks∧brk (spaced f i ks)=true
 | [],_,_=>⟨TK.nil,rfl⟩
 | t::ks,i,hg=>by
   obtain ⟨h1,h2⟩:=TK_spaced f hf ks (i+1) (fun x hx=>hg x (by simp [hx]))
   have hp:=TK.tok (hg t (by simp)) h2 h1
   unfold spaced
   rw [List.append_assoc]
   have:=hf i
   rcases (by omega:f i=0∨f i=1∨f i=2∨f i=3) with e | e | e | e<;>rw [e]
   ·exact ⟨TK.sp hp,rfl⟩
   ·exact ⟨TK.nl hp,rfl⟩
   ·exact ⟨TK.sp (TK.cm hp),rfl⟩
   ·exact ⟨TK.tab (TK.sp hp),rfl⟩
def wt (t:Int×List UInt8):Nat:=7+t.2.length
def wts (ks:List (Int×List UInt8)):Nat:=(ks.map fun t=>5+(piece t).length).sum
theorem spaced_len (f:Nat→Nat):∀ (ks:List (Int×List UInt8)) (i:Nat),(spaced f i ks).length≤wts ks
 | [],_=>Nat.le_refl _
 | t::ks,i=>by
   have h1:=spaced_len f ks (i+1)
   have h2:(seps.getD (f i) []).length≤5:=by
    match f i with
    | 0 | 1 | 2 | 3=>decide
    | n+4=>exact Nat.zero_le _
   simp only [spaced,wts,List.map_cons,List.sum_cons,List.length_append] at h1 ⊢
   omega
theorem wts_app (a b:List (Int×List UInt8)):wts (a++b)=wts a+wts b:=by simp [wts]
theorem wts_cons (t) (b:List (Int×List UInt8)):wts (t::b)=5+(piece t).length+wts b:=by simp [wts]
theorem wts_nil:wts []=0:=rfl
theorem pc1 (x:List UInt8):(piece (1,x)).length=x.length:=rfl
theorem pc2 (x:List UInt8):(piece (2,x)).length=x.length:=rfl
theorem pc3 (x:List UInt8):(piece (3,x)).length=x.length+2:=by simp [piece]
theorem pc4 (x:List UInt8):(piece (4,x)).length=x.length:=rfl
theorem wts_ws:∀ (ws:List (List UInt8)),(∀ w∈ws,w.length≤16∧∀ c∈w,inB' c=true)→wts (ksWs ws)≤29 * ws.length
 | [],_=>Nat.le_refl _
 | w::ws,h=>by
   have h1:=wts_ws ws (fun v hv=>h v (by simp [hv]))
   have h2:=(h w (by simp)).1
   have e:ksWs (w::ws)=(4,[44])::(3,w)::ksWs ws:=rfl
   rw [e,wts_cons,wts_cons,pc4,pc3]
   simp only [List.length_cons,List.length_nil]
   omega
theorem wts_R {r:Rul} (h:okR r):wts (ksR r)≤617:=by
 obtain ⟨k,c,ws,u⟩:=r
 obtain ⟨h1,h2,h3,h4⟩:=h
 simp only at h1 h2 h3 h4
 have a1:=(vkname h1).2.2.1
 have a2:=(vdigits h2).2.1
 have a3:wts (ksW ws)≤7+29 * ws.length:=by
  cases ws with
  | nil=>exact Nat.zero_le _
  | cons w ws=>
    have h5:=wts_ws ws (fun v hv=>h4 v (by simp [hv]))
    have h6:=(h4 w (by simp)).1
    have e:ksW (w::ws)=(1,[105,110])::(3,w)::ksWs ws:=rfl
    rw [e,wts_cons,wts_cons,pc1,pc3]
    simp only [List.length_cons,List.length_nil]
    omega
 have e:ksR (k,c,ws,u)=(1,kname k)::(2,dgs c)::(ksW ws++[(4,[59])]):=rfl
 rw [e,wts_cons,wts_cons,wts_app,wts_cons,wts_nil,pc1,pc2,pc4]
 simp only [List.length_cons,List.length_nil]
 omega
theorem wts_rs:∀ (rs:List Rul),(∀ r∈rs,okR r)→wts (rs.flatMap ksR)≤617 * rs.length
 | [],_=>Nat.le_refl _
 | r::rs,h=>by
   have h1:=wts_rs rs (fun x hx=>h x (by simp [hx]))
   have h2:=wts_R (h r (by simp))
   rw [List.flatMap_cons,wts_app,List.length_cons]
   omega
theorem wts_L {l:Lic} (h:lic l=0):wts (ksL l)≤19000:=by
 obtain ⟨h1,h2,h3⟩:=lic_okR h
 obtain ⟨nm,rs,u⟩:=l
 simp only at h1 h2 h3
 have a1:=wts_rs rs h3
 have a2:=(isNm_of h1).2.1
 have e:ksL (nm,rs,u)=(1,[108,105,99,101,110,99,101])::(1,nm)::(4,[123])::(rs.flatMap ksR++[(4,[125])]):=rfl
 rw [e,wts_cons,wts_cons,wts_cons,wts_app,wts_cons,wts_nil,pc1,pc1,pc4,pc4]
 simp only [List.length_cons,List.length_nil]
 omega
theorem fmtWs_len (ws:List (List UInt8)):(fmtWs ws).length≤wts (ksWs ws):=by
 induction ws with
 | nil=>exact Nat.le_refl _
 | cons w ws ih=>
   have e:ksWs (w::ws)=(4,[44])::(3,w)::ksWs ws:=rfl
   have e2:fmtWs (w::ws)=([44,32,34]++w++[34])++fmtWs ws:=rfl
   rw [e,e2,wts_cons,wts_cons,pc4,pc3]
   simp only [List.length_append,List.length_cons,List.length_nil]
   omega
theorem fmtR_len (r:Rul):(fmtR r).length≤wts (ksR r):=by
 obtain ⟨k,c,ws,u⟩:=r
 have a:(fmtW ws).length≤wts (ksW ws):=by
  cases ws with
  | nil=>exact Nat.le_refl _
  | cons w ws=>
    have:=fmtWs_len ws
    have e:ksW (w::ws)=(1,[105,110])::(3,w)::ksWs ws:=rfl
    have e2:fmtW (w::ws)=[32,105,110,32,34]++w++[34]++fmtWs ws:=rfl
    rw [e,e2,wts_cons,wts_cons,pc1,pc3]
    simp only [List.length_append,List.length_cons,List.length_nil]
    omega
 have e:ksR (k,c,ws,u)=(1,kname k)::(2,dgs c)::(ksW ws++[(4,[59])]):=rfl
 rw [e,wts_cons,wts_cons,wts_app,wts_cons,wts_nil,pc1,pc2,pc4]
 simp only [fmtR,List.length_append,List.length_cons,List.length_nil]
 omega
theorem fmtRs_len:∀ rs:List Rul,(rs.flatMap fmtR).length≤wts (rs.flatMap ksR)
 | []=>Nat.le_refl _
 | r::rs=>by
   have:=fmtRs_len rs
   have:=fmtR_len r
   rw [List.flatMap_cons,List.flatMap_cons,wts_app,List.length_append]
   omega
theorem fmt_len {l:Lic} (h:lic l=0):(fmt l).length≤19000:=by
 refine Nat.le_trans ?_ (wts_L h)
 obtain ⟨nm,rs,u⟩:=l
 have:=fmtRs_len rs
 have e:ksL (nm,rs,u)=(1,[108,105,99,101,110,99,101])::(1,nm)::(4,[123])::(rs.flatMap ksR++[(4,[125])]):=rfl
 rw [e,wts_cons,wts_cons,wts_cons,wts_app,wts_cons,wts_nil,pc1,pc1,pc4,pc4]
 simp only [fmt,List.length_append,List.length_cons,List.length_nil]
 omega
end Go.Fw.L19
