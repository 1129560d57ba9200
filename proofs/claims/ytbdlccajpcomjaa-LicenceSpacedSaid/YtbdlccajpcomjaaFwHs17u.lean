/- Tokens: the next one. -/
import Derived.Test.YtbdlccajpcomjaaFwHs17t
set_option linter.unusedVariables false
set_option linter.unusedSimpArgs false
namespace Go.Fw.L19
open Go Go.Fw
set_option maxRecDepth 100000
set_option linter.unusedSimpArgs false
set_option linter.unusedVariables false
def sgB (c:UInt8):Bool:=match S58 30000 (c.toNat:Int) with | some b=>b | none=>false
theorem signs_ok:((List.range 256).all fun n=>(match S80 30000 ([123,125,40,41,91,93,47,59,58,126,64,61,94,44,46,124,43,42,60,62,45]:List UInt8) (n:Int) with | some r=>decide (r≥(0:Int))==sgB (UInt8.ofNat n) | none=>false)&&(S58 30000 (n:Int)==some (sgB (UInt8.ofNat n))))=true:=by kernel_rfl
theorem vsign (c:UInt8):(∃ r:Int,S80 30000 ([123,125,40,41,91,93,47,59,58,126,64,61,94,44,46,124,43,42,60,62,45]:List UInt8) (c.toNat:Int)=some r∧decide (r≥(0:Int))=sgB c)∧S58 30000 (c.toNat:Int)=some (sgB c):=by
 have h:=List.all_eq_true.1 signs_ok c.toNat (List.mem_range.2 c.toNat_lt)
 simp only [Bool.and_eq_true,beq_iff_eq] at h
 obtain ⟨h1,h2⟩:=h
 have e:UInt8.ofNat c.toNat=c:=by simp
 rw [e] at h1 h2
 refine ⟨?_,h2⟩
 split at h1
 ·rename_i r hr
  exact ⟨r,hr,by simpa using h1⟩
 ·cases h1
def quoT (t:List UInt8):Int×List UInt8:=
 match t.drop (cnt inB' t) with
 | c::_=>if c.toNat≠34 then (2,[]) else if 60 < cnt inB' t then (3,[]) else (0,t.take (cnt inB' t))
 | []=>(2,[])
theorem drop_cnt (p:UInt8→Bool) (t:List UInt8):(t.drop (cnt p t)=[]↔cnt p t=t.length)∧∀ c r,t.drop (cnt p t)=c::r→cnt p t < t.length∧t.getD (cnt p t) 0=c:=by
 refine ⟨⟨fun h=>?_,fun h=>by rw [h]; simp⟩,fun c r h=>?_⟩
 ·have:=List.drop_eq_nil_iff.1 h
  have:=cnt_le p t
  omega
 ·have hl:cnt p t < t.length:=by
   rcases Nat.lt_or_ge (cnt p t) t.length with h1 | h1
   ·exact h1
   ·rw [List.drop_eq_nil_iff.2 h1] at h; cases h
  refine ⟨hl,?_⟩
  rw [List.drop_eq_getElem_cons hl] at h
  rw [List.getD_eq_getElem?_getD,List.getElem?_eq_getElem hl]
  simp only [List.cons.injEq] at h
  simpa using h.1
theorem vquoted (c:UInt8) (t:List UInt8) (hs:(c::t).length < 30000):S79 30000 (c::t)=some ((quoT t).2,(quoT t).1):=by
 have e1:=lquoted (R:=List UInt8×Int) (fun s n=>brB (n==(s.length:Int)) (some (([]:List UInt8),(2:Int))) (if 0≤n∧n < (s.length:Int) then
   brB (((s.getD n.toNat 0).toNat:Int) != (34:Int)) (some ([],2)) (brB (decide ((IntKind.i64.wrap (n - 1)) > (60:Int))) (some ([],3)) (if 0≤(1:Int)∧(1:Int)≤n∧n≤(s.length:Int) then some (((s.drop (1:Int).toNat).take (n.toNat - (1:Int).toNat)),0) else none)) else none)) t [c] 30000 (by simp at hs; omega) (by simp at hs ⊢; omega)
 unfold S79
 simp only [g79_17,g79_2,g79_4,g79_6,g79_7,g79_9,g79_10,g79_11,g79_12,g79_16,g79_17b,g79]
 have e3:((([c]:List UInt8).length:Nat):Int)=1:=rfl
 have e4:[c]++t=c::t:=rfl
 rw [e3,e4] at e1
 refine e1.trans ?_
 have hle:=cnt_le inB' t
 have hd:=drop_cnt inB' t
 have e5:([c].length+cnt inB' t:Nat)=cnt inB' t+1:=by simp; omega
 rw [e5]
 unfold quoT
 cases hdr:t.drop (cnt inB' t) with
 | nil=>
   have h1:=hd.1.1 hdr
   have:(((cnt inB' t+1:Nat):Int)==((c::t).length:Int))=true:=by simp [h1]
   simp only [this,brB_true]
 | cons d r=>
   obtain ⟨h1,h2⟩:=hd.2 d r hdr
   have q1:(((cnt inB' t+1:Nat):Int)==((c::t).length:Int))=false:=by
    simp only [beq_eq_false_iff_ne,ne_eq,List.length_cons]; omega
   have q2:0≤((cnt inB' t+1:Nat):Int)∧((cnt inB' t+1:Nat):Int) < ((c::t).length:Int):=by
    simp only [List.length_cons]; omega
   have q3:(c::t).getD (Int.toNat ((cnt inB' t+1:Nat):Int)) 0=d:=by rw [Int.toNat_natCast,List.getD_cons_succ]; exact h2
   simp only [q1,brB_false,if_pos q2,q3]
   by_cases h3:d.toNat=34
   ·have q4:((d.toNat:Int) != 34)=false:=by simp [h3]
    have w:IntKind.i64.wrap (((cnt inB' t+1:Nat):Int) - 1)=(cnt inB' t:Int):=by
     rw [wrap_id (by simp at hs; omega)]; omega
    have n34:¬ (d.toNat≠34):=by simpa using h3
    simp only [q4,brB_false,w,if_neg n34]
    by_cases h4:60 < cnt inB' t
    ·have q5:decide ((cnt inB' t:Int) > 60)=true:=decide_eq_true (by omega)
     simp only [q5,brB_true,if_pos h4]
    ·have q5:decide ((cnt inB' t:Int) > 60)=false:=decide_eq_false (by omega)
     have q6:0≤(1:Int)∧(1:Int)≤((cnt inB' t+1:Nat):Int)∧((cnt inB' t+1:Nat):Int)≤((c::t).length:Int):=by
      simp only [List.length_cons]; omega
     have q7:((c::t).drop (1:Int).toNat).take (Int.toNat ((cnt inB' t+1:Nat):Int) - (1:Int).toNat)=t.take (cnt inB' t):=by
      rw [Int.toNat_natCast]; rfl
     simp only [q5,brB_false,if_pos q6,if_neg h4,q7]
   ·have q4:((d.toNat:Int) != 34)=true:=by simp only [bne_iff_ne,ne_eq]; omega
    have n34:d.toNat≠34:=h3
    simp only [q4,brB_true,if_pos n34]
theorem vinQuotes (c:UInt8) (t:List UInt8) (hs:(c::t).length < 30000):
  S57 30000 (c::t)=some (if (quoT t).1=0 then ((3,((quoT t).2,((0:Int),()))),(((quoT t).2.length+2:Nat):Int),0) else (((0:Int),([],((0:Int),()))),0,(quoT t).1)):=by
 have e1:=lquotedR (R:=Tok×Int×Int) (fun s z n=>brB (n==(s.length:Int)) (some (((0:Int),([],((0:Int),()))),(0:Int),(2:Int))) (if 0≤n∧n < (s.length:Int) then
   brB (((s.getD n.toNat 0).toNat:Int) != (34:Int)) (some (((0:Int),([],((0:Int),()))),(0:Int),(2:Int))) (brB (decide ((IntKind.i64.wrap (n - 1)) > (60:Int))) (some (((0:Int),([],((0:Int),()))),(0:Int),(3:Int))) (if 0≤(1:Int)∧(1:Int)≤n∧n≤(s.length:Int) then some (((3:Int),((s.drop (1:Int).toNat).take (n.toNat - (1:Int).toNat)),(0:Int),()),IntKind.i64.wrap (n+1),(0:Int)) else none)) else none)) ((0:Int),([],((0:Int),()))) t [c] 30000 (by simp at hs; omega) (by simp at hs ⊢; omega)
 unfold S57
 simp only [g57_16,g57_2,g57_4,g57_6,g57_7,g57_9,g57_10,g57_12,g57_13,g57_15,g57_16b,g57]
 have e3:((([c]:List UInt8).length:Nat):Int)=1:=rfl
 have e4:[c]++t=c::t:=rfl
 rw [e3,e4] at e1
 refine e1.trans ?_
 have hle:=cnt_le inB' t
 have hd:=drop_cnt inB' t
 have e5:([c].length+cnt inB' t:Nat)=cnt inB' t+1:=by simp; omega
 rw [e5]
 unfold quoT
 cases hdr:t.drop (cnt inB' t) with
 | nil=>
   have h1:=hd.1.1 hdr
   have:(((cnt inB' t+1:Nat):Int)==((c::t).length:Int))=true:=by simp [h1]
   simp only [this,brB_true]
   rfl
 | cons d r=>
   obtain ⟨h1,h2⟩:=hd.2 d r hdr
   have q1:(((cnt inB' t+1:Nat):Int)==((c::t).length:Int))=false:=by
    simp only [beq_eq_false_iff_ne,ne_eq,List.length_cons]; omega
   have q2:0≤((cnt inB' t+1:Nat):Int)∧((cnt inB' t+1:Nat):Int) < ((c::t).length:Int):=by
    simp only [List.length_cons]; omega
   have q3:(c::t).getD (Int.toNat ((cnt inB' t+1:Nat):Int)) 0=d:=by rw [Int.toNat_natCast,List.getD_cons_succ]; exact h2
   simp only [q1,brB_false,if_pos q2,q3]
   by_cases h3:d.toNat=34
   ·have q4:((d.toNat:Int) != 34)=false:=by simp [h3]
    have w:IntKind.i64.wrap (((cnt inB' t+1:Nat):Int) - 1)=(cnt inB' t:Int):=by
     rw [wrap_id (by simp at hs; omega)]; omega
    have w2:IntKind.i64.wrap (((cnt inB' t+1:Nat):Int)+1)=((cnt inB' t+2:Nat):Int):=by
     rw [wrap_id (by simp at hs; omega)]; omega
    have n34:¬ (d.toNat≠34):=by simpa using h3
    simp only [q4,brB_false,w,w2,if_neg n34]
    by_cases h4:60 < cnt inB' t
    ·have q5:decide ((cnt inB' t:Int) > 60)=true:=decide_eq_true (by omega)
     have n3:¬ ((3:Int)=0):=by decide
     simp only [q5,brB_true,if_pos h4,if_neg n3]
    ·have q5:decide ((cnt inB' t:Int) > 60)=false:=decide_eq_false (by omega)
     have q6:0≤(1:Int)∧(1:Int)≤((cnt inB' t+1:Nat):Int)∧((cnt inB' t+1:Nat):Int)≤((c::t).length:Int):=by
      simp only [List.length_cons]; omega
     have q7:((c::t).drop (1:Int).toNat).take (Int.toNat ((cnt inB' t+1:Nat):Int) - (1:Int).toNat)=t.take (cnt inB' t):=by
      rw [Int.toNat_natCast]; rfl
     have q8:(t.take (cnt inB' t)).length=cnt inB' t:=by rw [List.length_take]; omega
     simp only [q5,brB_false,if_pos q6,if_neg h4,q7,if_true,q8]
   ·have q4:((d.toNat:Int) != 34)=true:=by simp only [bne_iff_ne,ne_eq]; omega
    have n34:d.toNat≠34:=h3
    have n2:¬ ((2:Int)=0):=by decide
    simp only [q4,brB_true,if_pos n34,if_neg n2]
def numV:List UInt8→Int→Int
 | [],a=>a
 | c::s,a=>numV s (10 * a+((c.toNat:Int) - 48))
def numOk (s:List UInt8):Bool:=!(s==[])&&(decide (s.length≤6)&&((cnt dgB s==s.length)&&!(decide (1 < s.length)&&((s.headD 0).toNat==48))))
theorem dg_rng {c:UInt8} (h:dgB c=true):48≤c.toNat∧c.toNat≤57:=by
 unfold dgB dg at h
 simp only [Bool.and_eq_true,decide_eq_true_eq] at h
 omega
theorem cnt_all (p:UInt8→Bool):∀ {s:List UInt8},cnt p s=s.length→∀ c∈s,p c=true
 | [],_,c,hc=>by simp at hc
 | d::s,h,c,hc=>by
   have hle:=cnt_le p s
   simp only [cnt,List.length_cons] at h
   split at h
   ·rename_i hd
    rcases List.mem_cons.1 hc with rfl | hc
    ·exact hd
    ·exact cnt_all p (by omega) c hc
   ·omega
end Go.Fw.L19
