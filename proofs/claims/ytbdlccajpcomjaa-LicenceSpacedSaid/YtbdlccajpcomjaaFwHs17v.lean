/- Tokens: numbers; the next token; all of them. -/
import Derived.Test.YtbdlccajpcomjaaFwHs17u
set_option linter.unusedVariables false
set_option linter.unusedSimpArgs false
namespace Go.Fw.L19
open Go Go.Fw
set_option maxRecDepth 100000
set_option linter.unusedSimpArgs false
set_option linter.unusedVariables false
theorem u8_digit {c:UInt8} (h:dgB c=true):IntKind.u8.wrap ((c.toNat:Int) - 48)=(c.toNat:Int) - 48:=by
 have:=dg_rng h
 have w:∀ n:Int,0≤n→n≤255→IntKind.u8.wrap n=n:=by
  intro n h0 h1
  simp only [IntKind.wrap,IntKind.signed,IntKind.bits]
  simp
  omega
 exact w _ (by omega) (by omega)
theorem pow_succ10 (k:Nat):(10:Int) ^ (k+1)=10 * 10 ^ k:=by rw [Int.pow_succ]; omega
theorem pow_le6 {k:Nat} (h:k≤6):(10:Int) ^ k≤1000000:=by
 have:k=0∨k=1∨k=2∨k=3∨k=4∨k=5∨k=6:=by omega
 rcases this with rfl | rfl | rfl | rfl | rfl | rfl | rfl<;>decide
theorem lnum {R:Type} (k0:Int→List Int→Int→Int→Option R):
  ∀ (ys pre:List UInt8) (m:Nat) (a:Int),(∀ c∈ys,dgB c=true)→pre.length+ys.length≤6→ys.length < m→0≤a→a < 10 ^ pre.length→
    l62_14 k0 m a ((pre++ys).map fun b=>(b.toNat:Int)) (((pre++ys).map fun b=>(b.toNat:Int)).length:Int) (pre.length:Int)=k0 (numV ys a) ((pre++ys).map fun b=>(b.toNat:Int)) (((pre++ys).map fun b=>(b.toNat:Int)).length:Int) ((pre++ys).length:Int):=by
 intro ys
 induction ys with
 | nil=>
   intro pre m a hd hl hm h0 h1
   cases m with
   | zero=>simp at hm
   | succ m=>
     have d:decide ((pre.length:Int) < (((pre++[]).map fun b:UInt8=>(b.toNat:Int)).length:Int))=false:=by simp
     unfold l62_14
     simp only [g62_0,g62_1,g62_2,g62_4,g62_5,g62_6,g62_10,g62_12,g62_13,g62_14,g62_16,g62_17,g62,d,brB_false,numV]
     simp
 | cons y ys ih=>
   intro pre m a hd hl hm h0 h1
   cases m with
   | zero=>simp at hm
   | succ m=>
     simp only [List.length_cons] at hl hm
     have hy:=hd y (by simp)
     have hr:=dg_rng hy
     have hp:(10:Int) ^ pre.length≤1000000:=pow_le6 (by omega)
     have hL:(((pre++y::ys).map fun b:UInt8=>(b.toNat:Int)).length:Int)=((pre++y::ys).length:Int):=by simp
     have d:decide ((pre.length:Int) < (((pre++y::ys).map fun b:UInt8=>(b.toNat:Int)).length:Int))=true:=by rw [hL]; exact lt_cons ..
     have i1:(0≤(pre.length:Int)∧(pre.length:Int) < (((pre++y::ys).map fun b:UInt8=>(b.toNat:Int)).length:Int))=True:=by rw [hL]; exact in_cons ..
     have i2:(Int.toNat (pre.length:Int) < ((pre++y::ys).map fun b:UInt8=>(b.toNat:Int)).length)=True:=by simp
     have e1:((pre++y::ys).map fun b:UInt8=>(b.toNat:Int)).getD (Int.toNat (pre.length:Int)) 0=(y.toNat:Int):=by simp
     have w1:IntKind.i64.wrap (10 * a)=10 * a:=wrap_id (by omega)
     have w2:IntKind.i64.wrap ((y.toNat:Int) - 48)=(y.toNat:Int) - 48:=wrap_id (by omega)
     have w3:IntKind.i64.wrap (10 * a+((y.toNat:Int) - 48))=10 * a+((y.toNat:Int) - 48):=wrap_id (by omega)
     have w4:IntKind.i64.wrap ((pre.length:Int)+1)=((pre++[y]).length:Int):=by rw [wrap_id (by omega)]; simp
     unfold l62_14
     simp only [g62_0,g62_1,g62_2,g62_4,g62_5,g62_6,g62_10,g62_12,g62_13,g62_14,g62_16,g62_17,g62,d,brB_true,i1,i2,if_true,e1,u8_digit hy,w1,w2,w3,w4,numV]
     rw [app_cons pre ys y]
     exact ih (pre++[y]) m (10 * a+((y.toNat:Int) - 48)) (fun c hc=>hd c (by simp [hc])) (by simp; omega) (by omega) (by omega) (by
      simp only [List.length_append,List.length_cons,List.length_nil]; rw [pow_succ10]; omega)
theorem lnumR {R:Type} (k0:List UInt8→Int→Int→Option R):
  ∀ (ys pre:List UInt8) (m:Nat) (a:Int),(∀ c∈ys,dgB c=true)→pre.length+ys.length≤6→ys.length < m→0≤a→a < 10 ^ pre.length→
    l59_12 k0 m (pre++ys) a (pre.length:Int)=k0 (pre++ys) (numV ys a) ((pre++ys).length:Int):=by
 intro ys
 induction ys with
 | nil=>
   intro pre m a hd hl hm h0 h1
   cases m with
   | zero=>simp at hm
   | succ m=>
     unfold l59_12
     simp only [g59_0,g59_1,g59_2,g59_4,g59_5,g59_6,g59_8,g59_10,g59_11,g59_12,g59_14,g59_15,g59,lt_nil,brB_false,numV]
     simp
 | cons y ys ih=>
   intro pre m a hd hl hm h0 h1
   cases m with
   | zero=>simp at hm
   | succ m=>
     simp only [List.length_cons] at hl hm
     have hy:=hd y (by simp)
     have hr:=dg_rng hy
     have hp:(10:Int) ^ pre.length≤1000000:=pow_le6 (by omega)
     have w1:IntKind.i64.wrap (10 * a)=10 * a:=wrap_id (by omega)
     have w2:IntKind.i64.wrap ((y.toNat:Int) - 48)=(y.toNat:Int) - 48:=wrap_id (by omega)
     have w3:IntKind.i64.wrap (10 * a+((y.toNat:Int) - 48))=10 * a+((y.toNat:Int) - 48):=wrap_id (by omega)
     have w4:IntKind.i64.wrap ((pre.length:Int)+1)=((pre++[y]).length:Int):=by rw [wrap_id (by omega)]; simp
     unfold l59_12
     simp only [g59_0,g59_1,g59_2,g59_4,g59_5,g59_6,g59_8,g59_10,g59_11,g59_12,g59_14,g59_15,g59,lt_cons,in_cons,at_cons,brB_true,if_true,u8_digit hy,w1,w2,w3,w4,numV]
     rw [app_cons pre ys y]
     exact ih (pre++[y]) m (10 * a+((y.toNat:Int) - 48)) (fun c hc=>hd c (by simp [hc])) (by simp; omega) (by omega) (by omega) (by
      simp only [List.length_append,List.length_cons,List.length_nil]; rw [pow_succ10]; omega)
def numR (s:List UInt8):Int×Bool:=cond (numOk s) (numV s 0,true) (0,false)
theorem vnum (s:List UInt8) (hs:s.length < 30000):S62 30000 s=some (numR s)∧S59 30000 s=some (numR s):=by
 have hd:=vdg s hs
 have a1:=lnum (R:=Int×Bool) (fun n _ _ _=>some (n,true)) s [] 30000 0
 have a2:=lnumR (R:=Int×Bool) (fun _ n _=>some (n,true)) s [] 30000 0
 unfold S62 S59 numR numOk
 simp only [g62_0,g62_1,g62_2,g62_4,g62_5,g62_6,g62_10,g62_12,g62_13,g62_14,g62_16,g62_17,g62,g59_0,g59_1,g59_2,g59_4,g59_5,g59_6,g59_8,g59_10,g59_11,g59_12,g59_14,g59_15,g59,hd.1,hd.2,Option.bind_some]
 cases s with
 | nil=>exact ⟨rfl,rfl⟩
 | cons c t=>
   have h0:((c::t)==([]:List UInt8))=false:=rfl
   have hz:0≤(0:Int)∧(0:Int) < ((c::t).length:Int):=by simp only [List.length_cons]; omega
   have hc:(((c::t).getD (0:Int).toNat 0).toNat:Int)=(c.toNat:Int):=rfl
   have hh:((c::t).headD 0).toNat=c.toNat:=rfl
   simp only [h0,brB_false,Bool.not_false,Bool.true_and,if_pos hz,hc,hh]
   by_cases h1:(c::t).length≤6
   ·have d1:decide (((c::t).length:Int) > 6)=false:=decide_eq_false (by omega)
    have d2:decide ((c::t).length≤6)=true:=decide_eq_true h1
    simp only [d1,d2,brB_false,Bool.true_and]
    by_cases h2:cnt dgB (c::t)=(c::t).length
    ·have d3:((cnt dgB (c::t):Int) != ((c::t).length:Int))=false:=by rw [h2]; simp
     have d4:(cnt dgB (c::t)==(c::t).length)=true:=by simpa using h2
     simp only [d3,d4,brB_false,Bool.true_and]
     have hall:=cnt_all dgB h2
     have a1:=a1 hall (by simpa using h1) (by omega) (by omega) (by decide)
     have a2:=a2 hall (by simpa using h1) (by omega) (by omega) (by decide)
     simp only [List.nil_append,List.length_nil,Int.natCast_zero] at a1 a2
     by_cases h3:1 < (c::t).length
     ·have d5:decide (((c::t).length:Int) > 1)=true:=decide_eq_true (by omega)
      have d6:decide (1 < (c::t).length)=true:=decide_eq_true h3
      by_cases h4:c.toNat=48
      ·have d7:((c.toNat:Int)==48)=true:=by simp [h4]
       have d8:(c.toNat==48)=true:=by simp [h4]
       simp only [d5,d6,d7,d8,brB_true,brB_false,Bool.true_and,Bool.not_true,cond_false]
       exact ⟨trivial,trivial⟩
      ·have d7:((c.toNat:Int)==48)=false:=by simp only [beq_eq_false_iff_ne,ne_eq]; omega
       have d8:(c.toNat==48)=false:=by simpa using h4
       simp only [d5,d6,d7,d8,brB_true,brB_false,Bool.and_false,Bool.not_false,cond_true]
       exact ⟨a1,a2⟩
     ·have d5:decide (((c::t).length:Int) > 1)=false:=decide_eq_false (by omega)
      have d6:decide (1 < (c::t).length)=false:=decide_eq_false h3
      cases h4:((c.toNat:Int)==48) with
      | true=>
        simp only [d5,d6,h4,brB_true,brB_false,Bool.false_and,Bool.not_false,cond_true]
        exact ⟨a1,a2⟩
      | false=>
        simp only [d5,d6,h4,brB_true,brB_false,Bool.false_and,Bool.not_false,cond_true]
        exact ⟨a1,a2⟩
    ·have hle:=cnt_le dgB (c::t)
     have d3:((cnt dgB (c::t):Int) != ((c::t).length:Int))=true:=by simp only [bne_iff_ne,ne_eq]; omega
     have d4:(cnt dgB (c::t)==(c::t).length)=false:=by simpa using h2
     simp only [d3,d4,brB_true,Bool.false_and,cond_false]
     exact ⟨trivial,trivial⟩
   ·have d1:decide (((c::t).length:Int) > 6)=true:=decide_eq_true (by omega)
    have d2:decide ((c::t).length≤6)=false:=decide_eq_false h1
    simp only [d1,d2,brB_true,Bool.false_and,cond_false]
    exact ⟨trivial,trivial⟩
end Go.Fw.L19
