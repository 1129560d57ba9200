/- A licence's text spaced otherwise leads to the same licence. -/
import Derived.Test.YtbdlccajpcomjaaFwHs17sc
import Derived.Test.YtbdlccajpcomjaaFwHs17f
set_option linter.unusedVariables false
set_option linter.unusedSimpArgs false
namespace Go.Fw.L19
open Go Go.Fw
set_option maxRecDepth 100000
set_option linter.unusedSimpArgs false
set_option linter.unusedVariables false
theorem lQuote {R:Type} (k0:List UInt8→Int→Option R) (k1:List UInt8→Int→Option R):
  ∀ (ys pre:List UInt8) (m:Nat),ys.length < m→(pre++ys).length≤BIG→(∀ c∈ys,inB' c=true)→
    l60_13 (S75 30000) k0 k1 m (pre++ys) (pre.length:Int)=k1 (pre++ys) ((pre++ys).length:Int):=by
 intro ys
 induction ys with
 | nil=>
   intro pre m hm hb hy
   obtain ⟨m,rfl⟩:∃ k,m=k+1:=⟨m - 1,by simp at hm; omega⟩
   unfold l60_13
   simp only [g60_0,g60_1,g60_2,g60_4,g60_5,g60_7,g60_8,g60_11,g60_12,g60_13,g60_15,g60_16,g60,lt_nil,brB_false,List.append_nil]
   have:decide ((pre.length:Int) < (pre.length:Int))=false:=decide_eq_false (by omega)
   simp only [this,brB_false]
 | cons y ys ih=>
   intro pre m hm hb hy
   obtain ⟨m,rfl⟩:∃ k,m=k+1:=⟨m - 1,by simp at hm; omega⟩
   unfold l60_13
   simp only [g60_0,g60_1,g60_2,g60_4,g60_5,g60_7,g60_8,g60_11,g60_12,g60_13,g60_15,g60_16,g60,lt_cons,in_cons,at_cons,if_true,brB_true,(vins y).2,hy y (by simp),Option.bind_some,Bool.not_true,brB_false,wrap_snoc pre ys y hb]
   rw [app_cons pre ys y]
   exact ih (pre++[y]) m (by simpa using hm) (by rw [←app_cons]; exact hb) (fun c hc=>hy c (by simp [hc]))
theorem vQuote (w:List UInt8) (h:(∀ c∈w,inB' c=true)∧w.length≤60):S60 30000 w=some ([34]++w++[34],0):=by
 have d:decide ((w.length:Int) > 60)=false:=decide_eq_false (by omega)
 unfold S60
 simp only [g60_0,g60_1,g60_2,g60_4,g60_5,g60_7,g60_8,g60_11,g60_12,g60_13,g60_15,g60_16,g60,d,brB_false]
 have l1:=fun k0 k1=>lQuote (R:=List UInt8×Int) k0 k1 w [] 30000 (by omega) (by unfold BIG; simp; omega) h.1
 refine (l1 _ _).trans ?_
 have c1:([34]:List UInt8).length+w.length≤140737488355328:=by simp; omega
 have c2:(([34]:List UInt8)++w).length+([34]:List UInt8).length≤140737488355328:=by simp; omega
 simp only [List.nil_append,if_pos c1,if_pos c2]
theorem good_numOk {x:List UInt8} (h:Good (2,x)):numOk x=true:=by
 rcases h with ⟨h1,_⟩ | ⟨_,h2,h3,h4,h5⟩ | ⟨h1,_⟩ | ⟨h1,_⟩
 ·simp at h1
 ·simp only at h2 h3 h4 h5
  have hc:cnt dgB x=x.length:=by simpa using cnt_app dgB x [] h4 rfl
  unfold numOk
  have e1:(x==[])=false:=by simpa using h2
  rw [e1,hc,decide_eq_true h3]
  by_cases hl:1 < x.length
  ·cases x with
   | nil=>simp at hl
   | cons c r=>
     have:=h5 (by omega) c r rfl
     simp only [List.headD_cons,hl,decide_true,Bool.true_and,beq_self_eq_true,Bool.not_false]
     simpa using this
  ·simp [hl]
 ·simp at h1
 ·simp at h1
theorem vRight {t:Tok} (h:Good (kt t)):S34 30000 t=some true:=by
 obtain ⟨k,x,l,u⟩:=t
 unfold S34
 simp only [g34_0,g34_1,g34_2,g34_3,g34_4,g34_7,g34_8,g34_11,g34_12,g34_13,g34_19,g34_20,g34]
 have h0:=h
 rcases h with ⟨h1,h2⟩ | ⟨h1,h2,h3,h4,h5⟩ | ⟨h1,h2,h3⟩ | ⟨h1,c,h2,h3,_⟩
 ·simp only [kt] at h1 h2
  subst h1
  have e:((1:Int)==1)=true:=rfl
  simp only [e,brB_true,(vname x).2,Option.bind_some,h2]
 ·simp only [kt] at h1 h2 h3 h4 h5 h0
  subst h1
  have e:((2:Int)==1)=false:=rfl
  have e2:((2:Int)==2)=true:=rfl
  have hn:(numR x).2=true:=by unfold numR; rw [good_numOk h0]; rfl
  simp only [e,e2,brB_true,brB_false,(vnum x (by omega)).2,Option.bind_some,hn]
 ·simp only [kt] at h1 h2 h3
  subst h1
  have e:((3:Int)==1)=false:=rfl
  have e2:((3:Int)==2)=false:=rfl
  have e3:((3:Int)==3)=true:=rfl
  simp only [e,e2,e3,brB_true,brB_false,vQuote x ⟨h2,h3⟩,Option.bind_some]
  rfl
 ·simp only [kt] at h1 h2
  subst h1 h2
  have e:((4:Int)==1)=false:=rfl
  have e2:((4:Int)==2)=false:=rfl
  have e3:((4:Int)==3)=false:=rfl
  have e4:((4:Int)==4)=true:=rfl
  have e5:((([c]:List UInt8).length:Int)==1)=true:=rfl
  have e6:(0:Int)≤0∧(0:Int) < (([c]:List UInt8).length:Int):=by simp
  have e7:((([c]:List UInt8).getD (0:Int).toNat 0).toNat:Int)=(c.toNat:Int):=rfl
  simp only [e,e2,e3,e4,e5,brB_true,brB_false,if_pos e6,e7,(vsign c).2,Option.bind_some,h3]
theorem piece_len {t:Int×List UInt8} (h:Good t):(piece t).length≤62:=by
 obtain ⟨k,x⟩:=t
 rcases h with ⟨h1,h2⟩ | ⟨h1,h2,h3,h4,h5⟩ | ⟨h1,h2,h3⟩ | ⟨h1,c,h2,h3,_⟩
 ·simp only at h1 h2; subst h1
  have:=(isNm_of h2).2.1
  rw [pc1]; omega
 ·simp only at h1 h3; subst h1; rw [pc2]; omega
 ·simp only at h1 h3; subst h1; rw [pc3]; omega
 ·simp only at h1 h2; subst h1 h2; rw [pc4]; simp
theorem vWrite {t:Tok} (h:Good (kt t)):S12 30000 [t]=some (piece (kt t),0):=by
 have hl:=piece_len h
 have hr:=vRight h
 obtain ⟨k,x,l,u⟩:=t
 have e1:decide ((0:Int) < (([((k,x,l,u):Tok)]:List Tok).length:Int))=true:=rfl
 have e2:(0:Int)≤0∧(0:Int) < (([((k,x,l,u):Tok)]:List Tok).length:Int):=by simp
 have e3:decide ((1:Int) < (([((k,x,l,u):Tok)]:List Tok).length:Int))=false:=rfl
 have e4:([((k,x,l,u):Tok)]:List Tok).getD (0:Int).toNat ((0:Int),([],((0:Int),())))=(k,x,l,u):=rfl
 have e5:IntKind.i64.wrap ((0:Int)+1)=1:=rfl
 have l1:∀ {R:Type} (k0:List UInt8→Int→Option R) (k1:List Tok→Int→Option R),l12_10 (S34 30000) k0 k1 30000 [(k,x,l,u)] 0=k1 [(k,x,l,u)] 1:=by
  intro R k0 k1
  show l12_10 (S34 30000) k0 k1 (29998+1+1) [(k,x,l,u)] 0=k1 [(k,x,l,u)] 1
  rw [l12_10]
  simp only [g12_0,g12_1,g12_2,g12_4,g12_5,g12_8,g12_9,g12_10,g12_12,g12_13,g12_14,g12_16,g12_17,g12_19,g12_20,g12_21,g12_22,g12_24,g12_25,g12_26,g12_27,g12_29,g12_30,g12_32,g12_33,g12,e1,if_pos e2,e4,hr,Option.bind_some,Bool.not_true,brB_false,brB_true,e5]
  rw [l12_10]
  simp only [g12_0,g12_1,g12_2,g12_4,g12_5,g12_8,g12_9,g12_10,g12_12,g12_13,g12_14,g12_16,g12_17,g12_19,g12_20,g12_21,g12_22,g12_24,g12_25,g12_26,g12_27,g12_29,g12_30,g12_32,g12_33,g12,e3,brB_false]
 have hx:x.length≤62:=by
  by_cases h3:k=3
  ·subst h3; have:=pc3 x; simp only [kt] at hl; omega
  ·have e:piece (k,x)=x:=by unfold piece; rw [if_neg h3]
   simp only [kt,e] at hl; exact hl
 have l2:∀ {R:Type} (k0:List Tok→List UInt8→Int→Option R),l12_27 k0 30000 [(k,x,l,u)] [] 0=k0 [(k,x,l,u)] (piece (k,x)) 1:=by
  intro R k0
  show l12_27 k0 (29998+1+1) [(k,x,l,u)] [] 0=k0 [(k,x,l,u)] (piece (k,x)) 1
  have d1:decide ((([]:List UInt8).length:Int)≤20000)=true:=rfl
  have d2:decide ((0:Int) > 0)=false:=rfl
  rw [l12_27]
  simp only [g12_0,g12_1,g12_2,g12_4,g12_5,g12_8,g12_9,g12_10,g12_12,g12_13,g12_14,g12_16,g12_17,g12_19,g12_20,g12_21,g12_22,g12_24,g12_25,g12_26,g12_27,g12_29,g12_30,g12_32,g12_33,g12,e1,d1,d2,if_pos e2,e4,Option.bind_some,brB_false,brB_true,e5]
  unfold piece
  by_cases h3:k=3
  ·subst h3
   have b3:((3:Int)==3)=true:=rfl
   have c1:([]:List UInt8).length+([34]:List UInt8).length≤140737488355328:=by decide
   have c2:(([]:List UInt8)++[34]).length+x.length≤140737488355328:=by simp; omega
   have c3:(([]:List UInt8)++[34]++x).length+([34]:List UInt8).length≤140737488355328:=by simp; omega
   simp only [b3,brB_true,if_pos c1,if_pos c2,if_pos c3]
   rw [l12_27]
   simp only [g12_0,g12_1,g12_2,g12_4,g12_5,g12_8,g12_9,g12_10,g12_12,g12_13,g12_14,g12_16,g12_17,g12_19,g12_20,g12_21,g12_22,g12_24,g12_25,g12_26,g12_27,g12_29,g12_30,g12_32,g12_33,g12,e3,brB_false]
   rfl
  ·have b3:(k==3)=false:=by simpa using h3
   have c1:([]:List UInt8).length+x.length≤140737488355328:=by simp; omega
   simp only [b3,brB_false,if_pos c1,if_neg h3]
   rw [l12_27]
   simp only [g12_0,g12_1,g12_2,g12_4,g12_5,g12_8,g12_9,g12_10,g12_12,g12_13,g12_14,g12_16,g12_17,g12_19,g12_20,g12_21,g12_22,g12_24,g12_25,g12_26,g12_27,g12_29,g12_30,g12_32,g12_33,g12,e3,brB_false]
   rfl
 unfold S12
 simp only [g12_0,g12_1,g12_2,g12_4,g12_5,g12_8,g12_9,g12_10,g12_12,g12_13,g12_14,g12_16,g12_17,g12_19,g12_20,g12_21,g12_22,g12_24,g12_25,g12_26,g12_27,g12_29,g12_30,g12_32,g12_33,g12,l1,l2]
 have d:decide (((piece (k,x)).length:Int) > 20000)=false:=decide_eq_false (by simp only [kt] at hl; omega)
 simp only [d,brB_false]
 rfl
theorem lfmtW {R:Type} (k0:Lic→List UInt8→Int→Rul→Int→Option R) (l:Lic) (i:Int) (k c:Int):
  ∀ (ys pre:List (List UInt8)) (m:Nat) (out:List UInt8),pre≠[]→ys.length < m→(pre++ys).length≤BIG→out.length+(fmtWs ys).length+10≤1000000→
    l10_24 k0 m l out i (k,c,(pre++ys),()) (pre.length:Int)=k0 l (out++fmtWs ys) i (k,c,(pre++ys),()) ((pre++ys).length:Int):=by
 intro ys
 induction ys with
 | nil=>
   intro pre m out hp hm hb ho
   obtain ⟨m,rfl⟩:∃ k,m=k+1:=⟨m - 1,by simp at hm; omega⟩
   unfold l10_24
   have:decide ((pre.length:Int) < (pre.length:Int))=false:=decide_eq_false (by omega)
   simp only [g10_0,g10_5,g10_3,g10_6,g10_7,g10_8,g10_27,g10_12,g10_13,g10_15,g10_16,g10_17,g10_19,g10_20,g10_22,g10_23,g10_24,g10_26,g10_29,g10_30,g10_31,g10_33,g10_34,g10,List.append_nil,this,brB_false,fmtWs,List.flatMap_nil]
 | cons y ys ih=>
   intro pre m out hp hm hb ho
   obtain ⟨m,rfl⟩:∃ k,m=k+1:=⟨m - 1,by simp at hm; omega⟩
   have hf:fmtWs (y::ys)=[44,32,34]++y++[34]++fmtWs ys:=rfl
   have hl:(fmtWs (y::ys)).length=4+y.length+(fmtWs ys).length:=by rw [hf]; simp; omega
   have e0:((pre.length:Int)==0)=false:=by
    cases pre with
    | nil=>exact absurd rfl hp
    | cons a b=>simp; omega
   have c0:out.length+([44,32]:List UInt8).length≤140737488355328:=by simp; omega
   have c1:(out++[44,32]).length+([34]:List UInt8).length≤140737488355328:=by simp; omega
   have c2:(out++[44,32]++[34]).length+y.length≤140737488355328:=by simp; omega
   have c3:(out++[44,32]++[34]++y).length+([34]:List UInt8).length≤140737488355328:=by simp; omega
   unfold l10_24
   simp only [g10_0,g10_5,g10_3,g10_6,g10_7,g10_8,g10_27,g10_12,g10_13,g10_15,g10_16,g10_17,g10_19,g10_20,g10_22,g10_23,g10_24,g10_26,g10_29,g10_30,g10_31,g10_33,g10_34,g10,lt_cons,in_cons,at_cons,if_true,brB_true,e0,brB_false,if_pos c0,if_pos c1,if_pos c2,if_pos c3,wrap_snoc pre ys y hb]
   rw [app_cons pre ys y]
   refine (ih (pre++[y]) m (out++[44,32]++[34]++y++[34]) (by simp) (by simpa using hm) (by rw [←app_cons]; exact hb) (by simp; omega)).trans ?_
   rw [hf]
   simp
theorem lfmtW0 {R:Type} (k0:Lic→List UInt8→Int→Rul→Int→Option R) (l:Lic) (i:Int) (k c:Int) (ws:List (List UInt8)) (m:Nat) (out:List UInt8) (hm:ws.length+1 < m) (hb:ws.length≤1000) (ho:out.length+(fmtW ws).length+10≤1000000):
  l10_24 k0 m l out i (k,c,ws,()) 0=k0 l (out++fmtW ws) i (k,c,ws,()) (ws.length:Int):=by
 obtain ⟨m,rfl⟩:∃ k,m=k+1:=⟨m - 1,by omega⟩
 cases ws with
 | nil=>
   unfold l10_24
   have:decide ((0:Int) < (([]:List (List UInt8)).length:Int))=false:=rfl
   simp only [g10_0,g10_5,g10_3,g10_6,g10_7,g10_8,g10_27,g10_12,g10_13,g10_15,g10_16,g10_17,g10_19,g10_20,g10_22,g10_23,g10_24,g10_26,g10_29,g10_30,g10_31,g10_33,g10_34,g10,this,brB_false,fmtW,List.append_nil]
   rfl
 | cons y ys=>
   have hf:fmtW (y::ys)=[32,105,110,32,34]++y++[34]++fmtWs ys:=rfl
   have hl:(fmtW (y::ys)).length=6+y.length+(fmtWs ys).length:=by rw [hf]; simp; omega
   have e0:((0:Int)==0)=true:=rfl
   have e1:decide ((0:Int) < ((y::ys).length:Int))=true:=decide_eq_true (by simp only [List.length_cons]; omega)
   have e2:(0:Int)≤0∧(0:Int) < ((y::ys).length:Int):=by simp only [List.length_cons]; omega
   have e3:(y::ys).getD (0:Int).toNat []=y:=rfl
   have e4:IntKind.i64.wrap ((0:Int)+1)=(([y]:List (List UInt8)).length:Int):=rfl
   have c0:out.length+([32,105,110,32]:List UInt8).length≤140737488355328:=by simp; omega
   have c1:(out++[32,105,110,32]).length+([34]:List UInt8).length≤140737488355328:=by simp; omega
   have c2:(out++[32,105,110,32]++[34]).length+y.length≤140737488355328:=by simp; omega
   have c3:(out++[32,105,110,32]++[34]++y).length+([34]:List UInt8).length≤140737488355328:=by simp; omega
   unfold l10_24
   simp only [g10_0,g10_5,g10_3,g10_6,g10_7,g10_8,g10_27,g10_12,g10_13,g10_15,g10_16,g10_17,g10_19,g10_20,g10_22,g10_23,g10_24,g10_26,g10_29,g10_30,g10_31,g10_33,g10_34,g10,e0,e1,e3,e4,if_pos e2,brB_true,if_pos c0,if_pos c1,if_pos c2,if_pos c3]
   refine (lfmtW k0 l i k c ys [y] m (out++[32,105,110,32]++[34]++y++[34]) (by simp) (by simp at hm; omega) (by unfold BIG; simp at hb ⊢; omega) (by simp; omega)).trans ?_
   rw [hf]
   simp
theorem lfmtR {R:Type} (k0:Lic→List UInt8→Int→Option R) (nm:List UInt8):
  ∀ (ys pre:List Rul) (m:Nat) (out:List UInt8),ys.length < m→(pre++ys).length≤1000→(∀ r∈ys,okR r)→out.length+(ys.flatMap fmtR).length+10≤1000000→
    l10_31 30000 (S29 30000) (S30 30000) k0 m (nm,(pre++ys),()) out (pre.length:Int)=k0 (nm,(pre++ys),()) (out++ys.flatMap fmtR) ((pre++ys).length:Int):=by
 intro ys
 induction ys with
 | nil=>
   intro pre m out hm hb hr ho
   obtain ⟨m,rfl⟩:∃ k,m=k+1:=⟨m - 1,by simp at hm; omega⟩
   unfold l10_31
   have:decide ((pre.length:Int) < (pre.length:Int))=false:=decide_eq_false (by omega)
   simp only [g10_0,g10_5,g10_3,g10_6,g10_7,g10_8,g10_27,g10_12,g10_13,g10_15,g10_16,g10_17,g10_19,g10_20,g10_22,g10_23,g10_24,g10_26,g10_29,g10_30,g10_31,g10_33,g10_34,g10,List.append_nil,this,brB_false,List.flatMap_nil]
 | cons y ys ih=>
   intro pre m out hm hb hr ho
   obtain ⟨m,rfl⟩:∃ k,m=k+1:=⟨m - 1,by simp at hm; omega⟩
   obtain ⟨k,c,ws,u⟩:=y
   obtain ⟨h1,h2,h3,h4⟩:=hr _ (List.mem_cons_self ..)
   simp only at h1 h2 h3 h4
   have hk:=vkname h1
   have hd:=vdigits h2
   have hl:(((k,c,ws,u)::ys).flatMap fmtR).length=5+(kname k).length+(dgs c).length+(fmtW ws).length+(ys.flatMap fmtR).length:=by
    rw [List.flatMap_cons,List.length_append]
    unfold fmtR; simp only [List.length_append,List.length_cons,List.length_nil]; omega
   have hf:((k,c,ws,u)::ys).flatMap fmtR=[32,32]++kname k++[32]++dgs c++fmtW ws++[59,10]++ys.flatMap fmtR:=rfl
   have c0:out.length+([32,32]:List UInt8).length≤140737488355328:=by simp only [List.length_append,List.length_cons,List.length_nil]; omega
   have c1:(out++[32,32]).length+(kname k).length≤140737488355328:=by simp only [List.length_append,List.length_cons,List.length_nil]; omega
   have c2:(out++[32,32]++kname k).length+([32]:List UInt8).length≤140737488355328:=by simp only [List.length_append,List.length_cons,List.length_nil]; omega
   have c3:(out++[32,32]++kname k++[32]).length+(dgs c).length≤140737488355328:=by simp only [List.length_append,List.length_cons,List.length_nil]; omega
   have c4:(out++[32,32]++kname k++[32]++dgs c++fmtW ws).length+([59,10]:List UInt8).length≤140737488355328:=by simp only [List.length_append,List.length_cons,List.length_nil]; omega
   have hbb:(pre++(k,c,ws,u)::ys).length≤BIG:=by unfold BIG; omega
   unfold l10_31
   simp only [g10_0,g10_5,g10_3,g10_6,g10_7,g10_8,g10_27,g10_12,g10_13,g10_15,g10_16,g10_17,g10_19,g10_20,g10_22,g10_23,g10_24,g10_26,g10_29,g10_30,g10_31,g10_33,g10_34,g10,lt_cons,in_cons,at_cons,if_true,brB_true,if_pos c0,if_pos c1,if_pos c2,if_pos c3,hk.1,hd.1,Option.bind_some]
   refine (lfmtW0 _ _ _ k c ws 30000 (out++[32,32]++kname k++[32]++dgs c) (by omega) (by omega) (by simp only [List.length_append,List.length_cons,List.length_nil]; omega)).trans ?_
   simp only [if_pos c4,wrap_snoc pre ys (k,c,ws,u) hbb]
   rw [app_cons pre ys (k,c,ws,u)]
   refine (ih (pre++[(k,c,ws,u)]) m _ (by simpa using hm) (by rw [←app_cons]; exact hb) (fun r hx=>hr r (by simp [hx])) (by simp only [List.length_append,List.length_cons,List.length_nil]; omega)).trans ?_
   rw [hf]
   simp
theorem vFormat {l:Lic} (h:lic l=0):S10 30000 l=some (fmt l,0):=by
 have hl:=fmt_len h
 have hv:=v9 l
 obtain ⟨h1,h2,h3⟩:=lic_okR h
 obtain ⟨nm,rs,u⟩:=l
 simp only at h1 h2 h3
 have hl2:(fmt (nm,rs,u)).length=8+nm.length+3+(rs.flatMap fmtR).length+2:=by unfold fmt; simp only [List.length_append,List.length_cons,List.length_nil]
 unfold S10
 simp only [g10_0,g10_5,g10_3,g10_6,g10_7,g10_8,g10_27,g10_12,g10_13,g10_15,g10_16,g10_17,g10_19,g10_20,g10_22,g10_23,g10_24,g10_26,g10_29,g10_30,g10_31,g10_33,g10_34,g10,hv,h,Option.bind_some]
 have e0:((0:Int) != 0)=false:=rfl
 have c0:([108,105,99,101,110,99,101,32]:List UInt8).length+nm.length≤140737488355328:=by simp only [List.length_append,List.length_cons,List.length_nil]; omega
 have c1:(([108,105,99,101,110,99,101,32]:List UInt8)++nm).length+([32,123,10]:List UInt8).length≤140737488355328:=by simp only [List.length_append,List.length_cons,List.length_nil]; omega
 simp only [e0,brB_false,if_pos c0,if_pos c1]
 have ll:=fun k0=>lfmtR (R:=List UInt8×Int) k0 nm rs [] 30000 (([108,105,99,101,110,99,101,32]:List UInt8)++nm++[32,123,10]) (by omega) (by simp only [List.length_append,List.length_cons,List.length_nil]; omega) h3 (by simp only [List.length_append,List.length_cons,List.length_nil]; omega)
 simp only [List.nil_append,List.length_nil,Int.natCast_zero] at ll
 refine (ll _).trans ?_
 have c2:(([108,105,99,101,110,99,101,32]:List UInt8)++nm++[32,123,10]++rs.flatMap fmtR).length+([125,10]:List UInt8).length≤140737488355328:=by simp only [List.length_append,List.length_cons,List.length_nil]; omega
 simp only [if_pos c2]
 rfl
def chF (cs:List Int) (i:Nat):Nat:=(cs.getD (i % cs.length) 0).toNat % 4
theorem chF_lt (cs:List Int) (i:Nat):chF cs i < 4:=Nat.mod_lt _ (by decide)
theorem lspc {R:Type} (k0:List Int→Lic→List Tok→List UInt8→Int→Int→Option R) (cs:List Int) (hc0:0 < cs.length) (hc:∀ c∈cs,0≤c∧c≤255) (l:Lic):
  ∀ (ys pre:List Tok) (m:Nat) (out:List UInt8),ys.length < m→(pre++ys).length≤BIG→(∀ t∈ys,Good (kt t))→out.length+wts (ys.map kt)≤1000000→
    l3_17 (S12 30000) k0 m cs l (pre++ys) out ((pre++ys).length:Int) (pre.length:Int)=k0 cs l (pre++ys) (out++spaced (chF cs) pre.length (ys.map kt)) ((pre++ys).length:Int) ((pre++ys).length:Int):=by
 intro ys
 induction ys with
 | nil=>
   intro pre m out hm hb hg ho
   obtain ⟨m,rfl⟩:∃ k,m=k+1:=⟨m - 1,by simp at hm; omega⟩
   unfold l3_17
   have:decide ((pre.length:Int) < (pre.length:Int))=false:=decide_eq_false (by omega)
   simp only [g3_0,g3_1,g3_2,g3_22,g3_7,g3_8,g3_13,g3_15,g3_16,g3_17,g3_21,g3_23,g3,List.append_nil,this,brB_false,List.map_nil,spaced]
 | cons y ys ih=>
   intro pre m out hm hb hg ho
   obtain ⟨m,rfl⟩:∃ k,m=k+1:=⟨m - 1,by simp at hm; omega⟩
   have hy:=hg y (by simp)
   have hp:=piece_len hy
   have hw:wts ((y::ys).map kt)=5+(piece (kt y)).length+wts (ys.map kt):=wts_cons ..
   have q0:¬ ((cs.length:Int)=0):=by omega
   have q1:Int.tmod (pre.length:Int) (cs.length:Int)=((pre.length % cs.length:Nat):Int):=rfl
   have hlt:pre.length % cs.length < cs.length:=Nat.mod_lt _ hc0
   have q2:0≤((pre.length % cs.length:Nat):Int)∧((pre.length % cs.length:Nat):Int) < (cs.length:Int):=by omega
   have hmem:cs.getD (pre.length % cs.length) 0∈cs:=by
    rw [List.getD_eq_getElem?_getD,List.getElem?_eq_getElem hlt]
    exact List.getElem_mem _
   have hv:=hc _ hmem
   have q3:Int.tmod (cs.getD (pre.length % cs.length) 0) 4=((chF cs pre.length:Nat):Int):=by
    unfold chF
    generalize cs.getD (pre.length % cs.length) 0=v at hv
    obtain ⟨n,rfl⟩:∃ n:Nat,v=(n:Int):=⟨v.toNat,by omega⟩
    rfl
   have hf:=chF_lt cs pre.length
   have q4:0≤((chF cs pre.length:Nat):Int)∧((chF cs pre.length:Nat):Int) < (([([32]:List UInt8),([10]:List UInt8),([32,35,32,99,10]:List UInt8),([9,32]:List UInt8)].length:Nat):Int):=by
    simp only [List.length_cons,List.length_nil]; omega
   have q5:chF cs pre.length < [([32]:List UInt8),([10]:List UInt8),([32,35,32,99,10]:List UInt8),([9,32]:List UInt8)].length:=by
    simp only [List.length_cons,List.length_nil]; omega
   have q6:[([32]:List UInt8),([10]:List UInt8),([32,35,32,99,10]:List UInt8),([9,32]:List UInt8)].getD (chF cs pre.length) []=seps.getD (chF cs pre.length) []:=rfl
   have h2:(seps.getD (chF cs pre.length) []).length≤5:=by
    match chF cs pre.length with
    | 0 | 1 | 2 | 3=>decide
    | n+4=>exact Nat.zero_le _
   have c1:(seps.getD (chF cs pre.length) []).length+(piece (kt y)).length≤140737488355328:=by omega
   have c2:out.length+(seps.getD (chF cs pre.length) []++piece (kt y)).length≤140737488355328:=by rw [List.length_append]; omega
   have hsp:spaced (chF cs) pre.length ((y::ys).map kt)=(seps.getD (chF cs pre.length) []++piece (kt y))++spaced (chF cs) (pre.length+1) (ys.map kt):=rfl
   unfold l3_17
   simp only [g3_0,g3_1,g3_2,g3_22,g3_7,g3_8,g3_13,g3_15,g3_16,g3_17,g3_21,g3_23,g3,lt_cons,in_cons,lt_at,at_cons,if_true,brB_true,vWrite hy,Option.bind_some,if_neg q0,q1,if_pos q2,Int.toNat_natCast (pre.length % cs.length),Int.toNat_natCast (chF cs pre.length),q3,if_pos q4,if_pos q5,q6,if_pos c1,if_pos c2,wrap_snoc pre ys y hb]
   rw [app_cons pre ys y]
   have hi:=ih (pre++[y]) m (out++(seps.getD (chF cs pre.length) []++piece (kt y))) (by simpa using hm) (by rw [←app_cons]; exact hb) (fun t ht=>hg t (by simp [ht])) (by rw [List.length_append,List.length_append]; omega)
   refine hi.trans ?_
   have e1:(pre++[y]).length=pre.length+1:=by simp
   rw [hsp,e1,List.append_assoc out]
theorem main3 (l:Lic) (cs:List Int) (i0:InR (.pair .str (.pair (.sl (.pair (.int .i64) (.pair (.int .i64) (.pair (.sl .str) .unit)))) .unit)) l) (i1:InR (.sl (.int .u8)) cs)
  (z0:InZ reachBytes (.pair .str (.pair (.sl (.pair (.int .i64) (.pair (.int .i64) (.pair (.sl .str) .unit)))) .unit)) l) (z1:InZ reachBytes (.sl (.int .u8)) cs):
  S3 30000 l cs=some true:=by
 unfold S3
 have e8:S7 30000=some true:=rfl
 have hname:l.1.length≤140737488355328:=by
  have h1:l.1.length≤reachBytes:=z0.1
  have:=reachBytes_lt
  omega
 obtain ⟨fa,ha,hfa⟩:=v8 l (lic_texts z0) hname
 simp only [g3_0,g3_1,g3_2,g3_22,g3_7,g3_8,g3_13,g3_15,g3_16,g3_17,g3_21,g3_23,g3,e8,Option.bind_some,Bool.not_true,brB_false,ha]
 cases fa with
 | false=>simp only [Bool.not_false,brB_true]
 | true=>
   simp only [Bool.not_true,brB_false]
   cases h0:((cs.length:Int)==0) with
   | true=>simp only [brB_true]
   | false=>
     simp only [brB_false]
     cases h1:decide ((cs.length:Int) > 100) with
     | true=>simp only [brB_true]
     | false=>
       simp only [brB_false,v9,Option.bind_some]
       by_cases h2:lic l=0
       ·have e2:(lic l != 0)=false:=by simpa using h2
        have hc0:0 < cs.length:=by
         have:¬ ((cs.length:Int)=0):=by simpa using h0
         omega
        have hc:∀ c∈cs,0≤c∧c≤255:=by
         intro c hc
         have:=i1.2 c hc
         simpa [InR,inR,IntKind.min,IntKind.max,IntKind.signed,IntKind.bits] using this
        have hlen:=fmt_len h2
        obtain ⟨ts,ht1,ht2⟩:=TK_fmt h2 1
        have hts:tk (fmt l)=(ts,0,0):=by unfold tk; rw [ht1]
        have htk:ts.map kt=ksL l:=ht2
        have hbd:=tk_bd (fmt l)
        rw [hts] at hbd
        have hgood:∀ t∈ts,Good (kt t):=fun t ht=>good_L h2 _ (by rw [←htk]; exact List.mem_map_of_mem ht)
        have hw:=wts_L h2
        simp only [e2,brB_false,vFormat h2,(vTokens (fmt l) (by omega) (by omega)).2,hts,Option.bind_some]
        have ll:=fun k0=>lspc (R:=Bool) k0 cs hc0 hc l ts [] 30000 [] (by have:=hbd.1; simp only at this; omega) (by have:=hbd.1; simp only at this; unfold BIG; simp only [List.nil_append]; omega) hgood (by rw [htk]; simp only [List.length_nil]; omega)
        simp only [List.nil_append,List.length_nil,Int.natCast_zero] at ll
        refine (ll _).trans ?_
        rw [htk]
        have hs:=spaced_len (chF cs) (ksL l) 0
        have hT:=(TK_spaced (chF cs) (chF_lt cs) (ksL l) 0 (good_L h2)).1
        have hp:=vParse (spaced (chF cs) 0 (ksL l)) (by omega) (by omega)
        rw [parse_TK hT h2] at hp
        have g:=lic_okR h2
        have e0:((0:Int)==0)=true:=rfl
        simp only [hp,Option.bind_some,e0,brB_true,v14 l l (by have:=g.2.1; omega) (fun r hr=>by have:=(g.2.2 r hr).2.2.1; omega),sameL_refl]
       ·have e2:(lic l != 0)=true:=by simpa using h2
        simp only [e2,brB_true]
end Go.Fw.L19
