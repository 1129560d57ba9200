/- Tokens of a text: program and reference agree. -/
import Derived.Test.YtbdlccajpcomjaaFwHs17y
set_option linter.unusedVariables false
set_option linter.unusedSimpArgs false
namespace Go.Fw.L19
open Go Go.Fw
set_option maxRecDepth 100000
set_option linter.unusedSimpArgs false
set_option linter.unusedVariables false
theorem ltokR {R:Type} (k0:Int→Int→List Tok→Option R) (k1:List Tok→Int→Int→Option R):
  ∀ (f:Nat) (ys pre:List UInt8) (out:List Tok) (l:Int) (m:Nat),ys.length≤f→ys.length < m→(pre++ys).length < 30000→0≤l→l+ys.length≤1000000000→out.length+ys.length≤1000000000→
    l11_23 (S31 30000) (S32 30000) (S33 30000) k0 k1 m (pre++ys) out l (pre.length:Int)=
     match toks f l ys with | .inl (l',e)=>k1 [] l' e | .inr ts=>k0 0 0 (out++ts):=by
 intro f
 induction f with
 | zero=>
   intro ys pre out l m hf hm hb h0 h1 h2
   have:ys=[]:=List.length_eq_zero_iff.1 (by omega)
   subst this
   cases m with
   | zero=>simp at hm
   | succ m=>
     have i0:=in_pre pre ([]:List UInt8)
     have i1:=drop_pre pre ([]:List UInt8)
     have hsp:S31 30000 ([]:List UInt8)=some 0:=v31 [] (by simp)
     have hfe:S32 30000 ([]:List UInt8)=some 0:=v32 [] (by simp)
     have w0:IntKind.i64.wrap ((pre.length:Int)+0)=(pre.length:Int):=by rw [wrap_id (by simp at hb; omega)]; simp
     have w1:IntKind.i64.wrap (l+0)=l:=by rw [wrap_id (by omega)]; simp
     have i2:(0≤(pre.length:Int)∧(pre.length:Int)≤(pre.length:Int)∧(pre.length:Int)≤((pre++([]:List UInt8)).length:Int))=True:=by simp
     have i3:((pre++([]:List UInt8)).drop (Int.toNat (pre.length:Int))).take (Int.toNat (pre.length:Int) - Int.toNat (pre.length:Int))=[]:=by simp
     have i4:((pre.length:Int)==((pre++([]:List UInt8)).length:Int))=true:=by simp
     unfold l11_23
     simp only [g11_0,g11_1,g11_2,g11_25,g11_21,g11_10,g11_11,g11_13,g11_14,g11_15,g11_20,g11_22,g11_23,g11_26,g11,i0,if_true,i1,hsp,Option.bind_some,w0,i2,i3,hfe,w1,i4,brB_true,toks]
     rw [List.append_nil]
 | succ f ih=>
   intro ys pre out l m hf hm hb h0 h1 h2
   cases m with
   | zero=>simp at hm
   | succ m=>
     have hyl:ys.length < 30000:=by simp at hb; omega
     obtain ⟨q,hq,hn⟩:=spF_split ys.length ys
     have hhd:=spF_head ys.length ys (Nat.le_refl _)
     have htk:=toks_sp ys.length (f+1) l ys (Nat.le_refl _) hf
     have hsp:=v31 ys hyl
     generalize hr:(spF ys.length ys).2=rest at hq hhd htk hsp
     generalize (spF ys.length ys).1=c at hn htk
     have hlen:ys.length=q.length+rest.length:=by
      have:=congrArg List.length hq
      rw [List.length_append] at this; exact this
     have hfe:=v32 q (by omega)
     have hn0:ys.length - rest.length=q.length:=by omega
     rw [hn0] at hsp
     have hcq:c≤q.length:=by rw [←hn]; exact List.countP_le_length
     have w0:IntKind.i64.wrap ((pre.length:Int)+(q.length:Int))=((pre++q).length:Int):=by
      rw [wrap_id (by simp at hb; omega)]; simp
     have w1:IntKind.i64.wrap (l+(c:Int))=l+(c:Int):=wrap_id (by omega)
     have i2:(0≤(pre.length:Int)∧(pre.length:Int)≤((pre++q).length:Int)∧((pre++q).length:Int)≤((pre++ys).length:Int))=True:=by
      simp only [List.length_append,eq_iff_iff,iff_true]; omega
     have i3:((pre++ys).drop (Int.toNat (pre.length:Int))).take (Int.toNat ((pre++q).length:Int) - Int.toNat (pre.length:Int))=q:=by
      rw [Int.toNat_natCast,Int.toNat_natCast,List.drop_left,List.length_append,Nat.add_sub_cancel_left]
      conv=>lhs; rw [hq]
      exact List.take_left
     rw [hn] at hfe
     unfold l11_23
     simp only [g11_0,g11_1,g11_2,g11_25,g11_21,g11_10,g11_11,g11_13,g11_14,g11_15,g11_20,g11_22,g11_23,g11_26,g11,in_pre,if_true,drop_pre,hsp,Option.bind_some,w0,i2,i3,hfe,w1]
     rw [htk]
     cases rest with
     | nil=>
       have i4:(((pre++q).length:Int)==((pre++ys).length:Int))=true:=by
        simp only [beq_iff_eq,List.length_append]; simp at hlen; omega
       simp only [i4,brB_true,toks,List.append_nil]
     | cons d t=>
       have i4:(((pre++q).length:Int)==((pre++ys).length:Int))=false:=by
        simp only [beq_eq_false_iff_ne,ne_eq,List.length_append]; simp at hlen; omega
       obtain ⟨c1,c2,c3⟩:=hhd d t rfl
       have hpre:pre++ys=(pre++q)++d::t:=by rw [List.append_assoc,←hq]
       have hnx:=(vnext d t (by simp only [List.length_cons] at hlen ⊢; omega)).2
       have c2':¬ isW d=true:=by rw [c2]; simp
       simp only [i4,brB_false,toks,if_neg c1,if_neg c2',if_neg c3]
       rw [hpre]
       simp only [in_pre,if_true,drop_pre]
       unfold nxP at hnx
       cases hx:nx (d::t) with
       | inl e=>
         rw [hx] at hnx
         obtain ⟨he,t',n,hr'⟩:=hnx
         have d6:(e != 0)=true:=by simpa using he
         simp only [hr',Option.bind_some,d6,brB_true]
       | inr qq=>
         obtain ⟨k,x,n⟩:=qq
         rw [hx] at hnx
         obtain ⟨hp,hle,hr'⟩:=hnx
         have d6:((0:Int) != 0)=false:=rfl
         simp only [List.length_cons] at hle hlen
         have hb2:pre.length+ys.length < 30000:=by simpa using hb
         have w2:IntKind.i64.wrap (((pre++q).length:Int)+(n:Int))=(((pre++q)++(d::t).take n).length:Int):=by
          rw [wrap_id (by simp; omega),List.length_append (as:=pre++q),List.length_take,List.length_cons]; omega
         have hl:out.length+[(k,(x,(l+(c:Int),())))].length≤4398046511104:=by simp; omega
         simp only [hr',Option.bind_some,d6,brB_false,if_pos hl,w2]
         have hpre2:(pre++q)++d::t=((pre++q)++(d::t).take n)++(d::t).drop n:=by rw [List.append_assoc (pre++q),List.take_append_drop]
         have hdl:((d::t).drop n).length=t.length+1 - n:=by rw [List.length_drop,List.length_cons]
         have:=ih ((d::t).drop n) ((pre++q)++(d::t).take n) (out++[(k,(x,(l+(c:Int),())))]) (l+(c:Int)) m (by omega) (by omega) (by rw [←hpre2]; simp; omega) (by omega) (by omega) (by simp only [List.length_append,List.length_cons,List.length_nil]; omega)
         rw [←hpre2] at this
         refine this.trans ?_
         cases toks f (l+(c:Int)) ((d::t).drop n) with
         | inl q=>rfl
         | inr ts=>simp
def tk (s:List UInt8):List Tok×(Int×Int):=match toks s.length 1 s with
 | .inl (l,e)=>([],l,e)
 | .inr ts=>(ts,0,0)
theorem vTokens (s:List UInt8) (hs:s.length < 30000) (h2:s.length≤20000):S35 30000 s=some (tk s)∧S11 30000 s=some (tk s):=by
 have d:decide ((s.length:Int) > 20000)=false:=decide_eq_false (by omega)
 have a1:=ltokens (R:=List Tok×Int×Int) (fun a b c=>some (a,b,c)) (fun o=>some (o,0,0)) s.length s [] [] 1 30000 (Nat.le_refl _) hs (by simpa using hs) (by omega) (by omega) (by simp; omega)
 have a2:=ltokR (R:=List Tok×Int×Int) (fun b c a=>some (a,b,c)) (fun a b c=>some (a,b,c)) s.length s [] [] 1 30000 (Nat.le_refl _) hs (by simpa using hs) (by omega) (by omega) (by simp; omega)
 unfold S35 S11
 simp only [g35_0,g35_1,g35_2,g35_46,g35_6,g35_7,g35_9,g35_10,g35_13,g35_14,g35_15,g35_16,g35_19,g35_20,g35_21,g35_22,g35_24,g35_26,g35_27,g35_29,g35_30,g35_31,g35_36,g35_42,g35_43,g35_45,g35_47,g35,g11_0,g11_1,g11_2,g11_25,g11_21,g11_10,g11_11,g11_13,g11_14,g11_15,g11_20,g11_22,g11_23,g11_26,g11,d,brB_false]
 simp only [List.nil_append,List.length_nil,Int.natCast_zero] at a1 a2
 unfold tk
 refine ⟨a1.trans ?_,a2.trans ?_⟩<;>cases toks s.length 1 s<;>rfl
end Go.Fw.L19
