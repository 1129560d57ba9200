/- slices.IndexFunc and slices.DeleteFunc at rules, walked. -/
import Derived.Test.YtbdlccajpcomjaaProg
import Derived.Shelf.SlicesQ.Load
import Derived.Test.YtbdlccajpcomjaaFwB2
import Derived.Shelf.SlicesE.DeleteFunc
set_option linter.unusedVariables false
set_option linter.unusedSimpArgs false
namespace Go.Fw.L19
open Go Go.Fw Go.Proofs Go.RowKit Go.Lib
structure Apart (g:Nat) (w w1:World):Prop where
 os:w1.os=w.os
 tape:w1.tape=w.tape
 output:w1.output=w.output
 size:w.heap.size≤w1.heap.size
 rest:∀ b,b < w.heap.size→b≠g→w1.heap[b]?=w.heap[b]?
theorem Apart.below {g:Nat} {w w1 w2:World} (h:Apart g w w1) (hb:Below w1.heap.size w1 w2):Apart g w w2:=
 ⟨hb.os.trans h.os,hb.tape.trans h.tape,hb.output.trans h.output,Nat.le_trans h.size hb.size,fun b h1 h2=>(hb.block b (Nat.lt_of_lt_of_le h1 h.size)).trans (h.rest b h1 h2)⟩
theorem Apart.alloc {g:Nat} {w w1:World} (h:Apart g w w1) (o:Obj):Apart g w (w1.alloc o):=
 h.below ⟨rfl,rfl,rfl,by simp,fun i hi=>heap_alloc_old w1 o hi⟩
theorem al_cell {wr w':World} {y1 y2 y3:Value} {T:TypeId} (h:Below (wr.alloc (.cells #[y1,y2,y3] T)).heap.size (wr.alloc (.cells #[y1,y2,y3] T)) w'):
  w'.cell? ⟨wr.heap.size,0,none⟩=some y1∧w'.cell? ⟨wr.heap.size,1,none⟩=some y2∧w'.cell? ⟨wr.heap.size,2,none⟩=some y3:=by
 have h1:w'.heap[wr.heap.size]?=some (.cells #[y1,y2,y3] T):=(h.block wr.heap.size (by simp)).trans (heap_alloc_new wr _)
 simp [World.cell?,h1]
theorem al_row {wr w':World} {o ob:Obj} {g:Nat} (hg:wr.heap[g]?=some ob) (h:Below (wr.alloc o).heap.size (wr.alloc o) w'):w'.heap[g]?=some ob:=by
 have hlt:g < wr.heap.size:=(Array.getElem?_eq_some_iff.1 hg).1
 rw [h.block g (by simp; omega),heap_alloc_old wr o hlt,hg]
theorem set_row {w:World} {g i:Nat} {d:Array Value} {e:TypeId} {fz:Nat×Nat} {v:Value} (h:w.heap[g]?=some (.cells d e fz)):(w.setCell ⟨g,i,none⟩ v).heap[g]?=some (.cells (d.setIfInBounds i v) e fz):=by
 have hlt:g < w.heap.size:=(Array.getElem?_eq_some_iff.1 h).1
 simp [World.setCell,Array.getElem?_modify,h]
theorem Apart.set {g i:Nat} {w w1:World} {v:Value} (h:Apart g w w1):Apart g w (w1.setCell ⟨g,i,none⟩ v):=
 ⟨h.os,h.tape,h.output,by simp [World.setCell]; exact h.size,fun b h1 h2=>by rw [←h.rest b h1 h2]; simp [World.setCell,Array.getElem?_modify,Ne.symm h2]⟩
theorem Apart.row {g:Nat} {w w1:World} {cs:Array Value} (h:Apart g w w1):Apart g w (w1.setRow g cs):=
 ⟨h.os,h.tape,h.output,by simp [World.setRow]; exact h.size,fun b h1 h2=>by rw [←h.rest b h1 h2]; simp [World.setRow,Array.getElem?_modify,Ne.symm h2]⟩
theorem clear_row {g:Nat} (wr:World) {dk:Array Value} {e0:TypeId} (h:wr.heap[g]?=some (.cells dk e0 (0,0))) (i m k:Nat) (hm:(i+m) * 3≤dk.size):
  ∃ dk2,(∀ ty,(Builtin.clear_ #[22] ty #[.slice (some ⟨g,i * 3,none⟩) m k]).run Try.prog wr=.ok (.tuple #[]) (wr.setRow g dk2))∧dk2.size=dk.size∧∀ t,t < i * 3→dk2[t]?=dk[t]?:=by
 cases m with
 | zero=>exact ⟨dk,fun ty=>by rw [setRow_self wr g dk e0 (0,0) h]; simp [Builtin.clear_,run_underlying Try.underlying22],rfl,fun t _=>rfl⟩
 | succ m=>
   have hz:∀ w,(zeroValue 57).run Try.prog w=.ok (.agg #[.int .i64 0,.int .i64 0,.slice none 0 0]) w:=fun w=>by kernel_rfl
   have hl:(Builtin.zeroCells (Value.agg #[.int .i64 0,.int .i64 0,.slice none 0 0]).cells (m+1)).size=(m+1) * 3:=by simp [Builtin.zeroCells,Value.cells]
   have hst:=run_storeCellsX Try.prog g (i * 3) e0 (0,0) (Builtin.zeroCells (Value.agg #[.int .i64 0,.int .i64 0,.slice none 0 0]).cells (m+1)).toList 0 dk wr h (.inl rfl) (by simp only [Array.length_toList]; omega) (by
    intro v hv
    simp only [Builtin.zeroCells,Array.toList_map,List.mem_map] at hv
    obtain ⟨x,_,rfl⟩:=hv
    have:x % 3 < 3:=Nat.mod_lt _ (by omega)
    show (#[Value.int .i64 0,.int .i64 0,.slice none 0 0][x % 3]!).oneCell'=true
    generalize x % 3=y at this
    match y,this with
    | 0,_=>rfl
    | 1,_=>rfl
    | 2,_=>rfl
    | y+3,h=>omega)
   refine ⟨_,fun ty=>by simp only [Builtin.clear_]; simp [run_underlying Try.underlying22,hz,hst]; rfl,?_,?_⟩
   ·simp only [Array.length_toList,List.size_toArray,List.length_append,List.length_take,List.length_drop,hl]; omega
   ·intro t ht
    simp only [List.getElem?_toArray,Nat.add_zero]
    rw [List.getElem?_append_left (by simp only [List.length_take,Array.length_toList]; omega),List.getElem?_take_of_lt ht,Array.getElem?_toList]
section
variable (c:Nat→Value) (fg:FuncId) (caps:Array Value) (q:Nat→Bool)
set_option maxHeartbeats 2000000 in
set_option maxRecDepth 100000 in
theorem idxf (g n cap:Nat) (hfg0:0 < n→∀ args w,(callFunc fg args).run Try.prog w=.ok (.enter fg args) w) (w:World) (hb:g < w.heap.size) (hn:n≤9223372036854775807)
  (hc:∀ j,j < n→w.cell? ⟨g,j * 3,none⟩=some (c (j * 3))∧w.cell? ⟨g,j * 3+1,none⟩=some (c (j * 3+1))∧w.cell? ⟨g,j * 3+2,none⟩=some (c (j * 3+2)))
  (hcl:∀ W,Below w.heap.size w W→∀ j,j < n→Calls Try.prog fg (#[.agg #[c (j * 3),c (j * 3+1),c (j * 3+2)]]++caps) W fun e w2=>e=.returned (.bool (q j))∧Below w.heap.size w w2):
  Calls Try.prog 68 #[.slice (some ⟨g,0,none⟩) n cap,.func (.func fg) #[] caps] w fun e w'=>∃ r:Int,e=.returned (.int .i64 r)∧Below w.heap.size w w'∧
   ((r= -1∧∀ j,j < n→q j=false)∨∃ k,k < n∧r=(k:Int)∧q k=true∧∀ j,j < k→q j=false):=by
 have hrow:∀ W,Below w.heap.size w W→∀ j,j < n→W.cell? ⟨g,j * 3,none⟩=some (c (j * 3))∧W.cell? ⟨g,j * 3+1,none⟩=some (c (j * 3+1))∧W.cell? ⟨g,j * 3+2,none⟩=some (c (j * 3+2)):=fun W hW j hj=>by
  obtain ⟨h1,h2,h3⟩:=hc j hj
  exact ⟨by rw [hW.cell (p:=⟨g,_,none⟩) hb]; exact h1,by rw [hW.cell (p:=⟨g,_,none⟩) hb]; exact h2,by rw [hW.cell (p:=⟨g,_,none⟩) hb]; exact h3⟩
 clear hc
 go_enter Try.func68,Try.ntmps68
 go_wp2
 go_loopg [5,8] n (fun gg _ s8 wr=>∃ kk:Nat,kk≤n∧n - kk≤gg∧s8=.int .i64 kk∧Aside (Below w.heap.size w wr)∧Aside (∀ j,j < kk→q j=false))
 case atStart=>exact ⟨0,Nat.zero_le _,by omega,rfl,Below.refl _ w,fun j hj=>absurd hj (Nat.not_lt_zero _)⟩
 case round=>
  obtain ⟨kk,hkk,hg,rfl,BW,A⟩:=hrel
  by_cases hlt:kk < n
  ·have hltz:(kk:Int) < (n:Int):=by omega
   have hfg:=hfg0 (by omega)
   obtain ⟨l1,l2,l3⟩:=hrow wr BW.out kk (by omega)
   have hcall:=hcl wr BW.out kk hlt
   clear hrow hcl
   generalize c (kk * 3)=y1 at l1 hcall
   generalize c (kk * 3+1)=y2 at l2 hcall
   generalize c (kk * 3+2)=y3 at l3 hcall
   cases hq:q kk with
   | true=>
     rw [hq] at hcall
     go_wp2_with (go_at_fn fg; refine hcall.mono ?_; rintro e w' ⟨rfl,hb'⟩)
     go_ret
     exact ⟨_,rfl,hb',.inr ⟨kk,hlt,rfl,hq,A.out⟩⟩
   | false=>
     rw [hq] at hcall
     go_wp2_with (go_at_fn fg; refine hcall.mono ?_; rintro e w' ⟨rfl,hb'⟩)
     go_roundg (n - (kk+1))
     case measure=>omega
     case rel=>
      refine ⟨kk+1,by omega,by omega,by go_num,hb',(show Aside _ from fun j hj=>?_)⟩
      by_cases e:j=kk
      ·subst e; exact hq
      ·exact A.out j (by omega)
  ·have hltz:¬ (kk:Int) < (n:Int):=by omega
   have:kk=n:=by omega
   subst this
   go_wp2
   go_ret
   exact ⟨_,rfl,BW.out,.inl ⟨rfl,A.out⟩⟩
def kp (j:Nat):List Nat:=(List.range j).filter fun i=>!q i
theorem kp_true {j:Nat} (h:q j=true):kp q (j+1)=kp q j:=by simp [kp,List.range_succ,h]
theorem kp_false {j:Nat} (h:q j=false):kp q (j+1)=kp q j++[j]:=by simp [kp,List.range_succ,h]
theorem kp_len (j:Nat):(kp q j).length≤j:=by
 have:=List.length_filter_le (fun i=>!q i) (List.range j)
 simpa [kp] using this
theorem kp_all {j:Nat} (h:∀ i,i < j→q i=false):kp q j=List.range j:=by
 unfold kp; rw [List.filter_eq_self]; intro i hi; rw [h i (List.mem_range.1 hi)]; rfl
structure Part (n j:Nat) (dk:Array Value):Prop where
 low:∀ t,t < (kp q j).length→∀ r,r < 3→dk[t * 3+r]?=some (c ((kp q j).getD t 0 * 3+r))
 high:∀ t,j≤t→t < n→∀ r,r < 3→dk[t * 3+r]?=some (c (t * 3+r))
set_option maxHeartbeats 4000000 in
set_option maxRecDepth 100000 in
theorem delf (g n cap:Nat) (hfg0:0 < n→∀ args w,(callFunc fg args).run Try.prog w=.ok (.enter fg args) w) (cur:Array Value) (e0:TypeId) (w:World) (hh:w.heap[g]?=some (.cells cur e0 (0,0))) (hn:n≤cap) (hcap:cap≤maxLen) (hsz:cur.size=cap * 3)
  (hc:∀ i,i < n * 3→cur[i]?=some (c i)) (hone:∀ i,i < n * 3→(c i).oneCell'=true)
  (hcl:∀ W,Apart g w W→∀ j,j < n→Calls Try.prog fg (#[.agg #[c (j * 3),c (j * 3+1),c (j * 3+2)]]++caps) W fun e w2=>e=.returned (.bool (q j))∧Below W.heap.size W w2):
  Calls Try.prog 51 #[.slice (some ⟨g,0,none⟩) n cap,.func (.func fg) #[] caps] w fun e w'=>e=.returned (.slice (some ⟨g,0,none⟩) (kp q n).length cap)∧Apart g w w'∧
   ∃ dk,w'.heap[g]?=some (.cells dk e0 (0,0))∧dk.size=cur.size∧Part c q n n dk:=by
 have hb:g < w.heap.size:=(Array.getElem?_eq_some_iff.1 hh).1
 have hcell:∀ (W:World) (dk:Array Value),W.heap[g]?=some (.cells dk e0 (0,0))→∀ i v,dk[i]?=some v→W.cell? ⟨g,i,none⟩=some v∧W.frozen? ⟨g,i,none⟩=false:=by
  intro W dk hW i v hv
  constructor
  ·simp [World.cell?,hW,hv]
  ·simp [World.frozen?,hW]
 have hIF:=idxf c fg caps q g n cap hfg0 w hb (by unfold maxLen at hcap; omega)
  (fun j hj=>⟨(hcell w cur hh _ _ (hc _ (by omega))).1,(hcell w cur hh _ _ (hc _ (by omega))).1,(hcell w cur hh _ _ (hc _ (by omega))).1⟩)
  (fun W hW j hj=>(hcl W ⟨hW.os,hW.tape,hW.output,hW.size,fun b h1 _=>hW.block b h1⟩ j hj).mono fun e w2 h=>⟨h.1,hW.trans (h.2.mono hW.size)⟩)
 by_cases hall:∀ j,j < n→q j=false
 ·have h1:Calls Try.prog 68 #[.slice (some ⟨g,0,none⟩) n cap,.func (.func fg) #[] caps] w fun e w'=>e=.returned (.int .i64 (-1))∧Below w.heap.size w w':=hIF.mono (by
   rintro e w' ⟨r,rfl,hbw,⟨rfl,_⟩ | ⟨k,hk,rfl,hq,_⟩⟩
   ·exact ⟨rfl,hbw⟩
   ·rw [hall k hk] at hq; cases hq)
  have A:Aside (w.heap[g]?=some (.cells cur e0 (0,0))):=hh
  have A2:Aside (∀ i,i < n * 3→cur[i]?=some (c i)):=hc
  clear hIF hcl hcell hh hc hsz hone
  go_enter Try.func51,Try.ntmps51
  go_wp2_with (go_at_call 68; refine h1.mono ?_; rintro e w' ⟨rfl,hbw⟩)
  go_ret
  rw [kp_all q hall]
  refine ⟨by simp,⟨hbw.os,hbw.tape,hbw.output,hbw.size,fun b h1 _=>hbw.block b h1⟩,cur,by rw [hbw.block g hb]; exact A.out,rfl,fun t ht r hr=>?_,fun t h1 h2=>absurd h2 (by omega)⟩
  rw [kp_all q hall,List.length_range] at ht
  rw [kp_all q hall,A2.out _ (by omega)]
  simp [ht]
 ·obtain ⟨k0,hk0,hq0,hlow⟩:∃ k0,k0 < n∧q k0=true∧∀ j,j < k0→q j=false:=by
   have:∀ m,(∃ j,j < m∧q j=true)→∃ k0,k0 < m∧q k0=true∧∀ j,j < k0→q j=false:=by
    intro m
    induction m with
    | zero=>rintro ⟨j,hj,_⟩; omega
    | succ m ih=>
      rintro ⟨j,hj,hq⟩
      by_cases h:∃ j,j < m∧q j=true
      ·obtain ⟨k0,a,b,d⟩:=ih h
       exact ⟨k0,by omega,b,d⟩
      ·have:j=m:=by
        by_cases e:j=m
        ·exact e
        ·exact absurd ⟨j,by omega,hq⟩ h
       subst this
       refine ⟨j,by omega,hq,fun i hi=>?_⟩
       cases hi':q i with
       | false=>rfl
       | true=>exact absurd ⟨i,hi,hi'⟩ h
   refine this n ?_
   refine Classical.byContradiction fun hne=>hall fun j hj=>?_
   cases hq:q j with
   | false=>rfl
   | true=>exact absurd ⟨j,hj,hq⟩ hne
  have h1:Calls Try.prog 68 #[.slice (some ⟨g,0,none⟩) n cap,.func (.func fg) #[] caps] w fun e w'=>e=.returned (.int .i64 (k0:Int))∧Below w.heap.size w w':=hIF.mono (by
   rintro e w' ⟨r,rfl,hbw,⟨rfl,hno⟩ | ⟨k,hk,rfl,hq,hk2⟩⟩
   ·rw [hno k0 hk0] at hq0; cases hq0
   ·have:k=k0:=by
     rcases Nat.lt_trichotomy k k0 with h | h | h
     ·rw [hlow k h] at hq; cases hq
     ·exact h
     ·rw [hk2 k0 h] at hq0; cases hq0
    subst this
    exact ⟨rfl,hbw⟩)
  have hne1:((k0:Int)== -1)=false:=beq_eq_false_iff_ne.2 (by omega)
  have P0:Part c q n (k0+1) cur:=by
   have e1:kp q (k0+1)=List.range k0:=by rw [kp_true q hq0,kp_all q hlow]
   refine ⟨fun t ht r hr=>?_,fun t h1 h2 r hr=>hc _ (by omega)⟩
   rw [e1,List.length_range] at ht
   rw [e1,hc _ (by omega)]
   simp [ht]
  have HC:Aside _:=hcl
  have HL:Aside _:=hcell
  have A:Aside (w.heap[g]?=some (.cells cur e0 (0,0))):=hh
  have hlowA:Aside (∀ j,j < k0→q j=false):=hlow
  have hszA:Aside (cur.size=cap * 3):=hsz
  have hkA:Aside (k0 < n):=hk0
  have ONE:Aside (∀ i,i < n * 3→(c i).oneCell'=true):=hone
  have hn9A:Aside (n≤9223372036854775807):=by show n≤_; unfold maxLen at hcap; omega
  clear hIF hcl hcell hh hc hlow hall hsz hone
  have hk0z:(k0:Int) < (n:Int):=by omega
  go_enter Try.func51,Try.ntmps51
  go_wp2_with (go_at_call 68; refine h1.mono ?_; rintro e w' ⟨rfl,hbw⟩)
  go_loopg [5,6,7] n (fun gg s5 s6 _ wr=>∃ (i j:Nat) (dk:Array Value),s5=.int .i64 i∧s6=.int .i64 j∧i < j∧j≤n∧n - j≤gg∧Aside (Apart g w wr)∧Aside (wr.heap[g]?=some (.cells dk e0 (0,0)))∧dk.size=cur.size∧Aside (i=(kp q j).length)∧Aside (Part c q n j dk))
  case atStart=>
   have hk:=hkA.out
   have hn9:n≤9223372036854775807:=hn9A.out
   exact ⟨k0,k0+1,cur,rfl,(by congr 1; unfold wrap64; omega),by omega,by omega,by omega,⟨hbw.os,hbw.tape,hbw.output,hbw.size,fun b h1 _=>hbw.block b h1⟩,(by show Aside _; exact (hbw.block g hb).trans A.out),rfl,(by show k0=_; rw [kp_true q hq0,kp_all q (fun i hi=>hlowA.out i hi)]; simp),P0⟩
  case round=>
   obtain ⟨i,j,dk,rfl,rfl,hij,hjn,hgg,AW,HW,hds,hi,PT⟩:=hrel
   have hn9:n≤9223372036854775807:=hn9A.out
   by_cases hlt:j < n
   ·have hltz:(j:Int) < (n:Int):=by omega
    have hfg:=hfg0 (by omega)
    have l1:=HL.out wr dk HW.out _ _ (PT.out.high j (Nat.le_refl _) hlt 0 (by omega))
    have l2:=(HL.out wr dk HW.out _ _ (PT.out.high j (Nat.le_refl _) hlt 1 (by omega))).1
    have l3:=(HL.out wr dk HW.out _ _ (PT.out.high j (Nat.le_refl _) hlt 2 (by omega))).1
    have l1:wr.cell? ⟨g,j * 3,none⟩=some (c (j * 3)):=l1.1
    have hcall:∀ W,Apart g w W→Calls Try.prog fg (#[.agg #[c (j * 3),c (j * 3+1),c (j * 3+2)]]++caps) W fun e w2=>e=.returned (.bool (q j))∧Below W.heap.size W w2:=fun W hW=>HC.out W hW j hlt
    have hgs:g < wr.heap.size:=Nat.lt_of_lt_of_le hb AW.out.size
    have hcap3:cur.size=cap * 3:=hszA.out
    have st1:∀ a m W,Sem.run Try.prog (store a (c (j * 3)) m) W=stored Try.prog W a (c (j * 3)) m:=fun a m W=>run_store _ W a _ m (ONE.out _ (by omega))
    have st2:∀ a m W,Sem.run Try.prog (store a (c (j * 3+1)) m) W=stored Try.prog W a (c (j * 3+1)) m:=fun a m W=>run_store _ W a _ m (ONE.out _ (by omega))
    have st3:∀ a m W,Sem.run Try.prog (store a (c (j * 3+2)) m) W=stored Try.prog W a (c (j * 3+2)) m:=fun a m W=>run_store _ W a _ m (ONE.out _ (by omega))
    obtain ⟨y1,hy1⟩:∃ y,y=c (j * 3):=⟨_,rfl⟩
    obtain ⟨y2,hy2⟩:∃ y,y=c (j * 3+1):=⟨_,rfl⟩
    obtain ⟨y3,hy3⟩:∃ y,y=c (j * 3+2):=⟨_,rfl⟩
    rw [←hy1] at l1 st1 hcall
    rw [←hy2] at l2 st2 hcall
    rw [←hy3] at l3 st3 hcall
    have Y:Hid (y1=c (j * 3)∧y2=c (j * 3+1)∧y3=c (j * 3+2)):=⟨hy1,hy2,hy3⟩
    clear hy1 hy2 hy3
    cases hq:q j with
    | false=>
      rw [hq] at hcall
      have HCL:Aside _:=hcall
      have hsz3:i * 3+2 < dk.size:=by omega
      obtain ⟨d1,hd1⟩:∃ d,dk[i * 3]?=some d:=⟨_,Array.getElem?_eq_getElem (by omega)⟩
      obtain ⟨d2,hd2⟩:∃ d,dk[i * 3+1]?=some d:=⟨_,Array.getElem?_eq_getElem (by omega)⟩
      obtain ⟨d3,hd3⟩:∃ d,dk[i * 3+2]?=some d:=⟨_,Array.getElem?_eq_getElem (by omega)⟩
      have D:Hid (dk[i * 3]?=some d1∧dk[i * 3+1]?=some d2∧dk[i * 3+2]?=some d3):=⟨hd1,hd2,hd3⟩
      clear hcall hd1 hd2 hd3
      go_wp2_with (go_at_fn fg; refine (HCL.out _ (AW.out.alloc _)).mono ?_; rintro e w' ⟨rfl,hb'⟩; obtain ⟨v1,v2,v3⟩:=al_cell hb'; have hrw:=al_row HW.out hb'; obtain ⟨f1,f1'⟩:=HL.out w' dk hrw _ _ D.out.1; obtain ⟨f2,f2'⟩:=HL.out w' dk hrw _ _ D.out.2.1; obtain ⟨f3,f3'⟩:=HL.out w' dk hrw _ _ D.out.2.2; have HRW:Aside _:=hrw; have HB':Aside _:=hb'; clear hrw hb')
      go_roundg (n - (j+1))
      case measure=>omega
      case rel=>
       refine ⟨i+1,j+1,((dk.setIfInBounds (i * 3) y1).setIfInBounds (i * 3+1) y2).setIfInBounds (i * 3+2) y3,by first | rfl | (congr 1; unfold wrap64; omega),by first | rfl | (congr 1; unfold wrap64; omega),by omega,by omega,Nat.le_refl _,
        (((AW.out.alloc _).below HB'.out).set.set.set:Apart g w _),(set_row (set_row (set_row HRW.out)):_),by simp [hds],(by show i+1=_; rw [kp_false q hq,List.length_append,←hi.out]; rfl),(show Part c q n (j+1) _ from ⟨fun t ht r hr=>?_,fun t h1 h2 r hr=>?_⟩)⟩
       ·rw [kp_false q hq] at ht ⊢
        rw [List.length_append,List.length_singleton,←hi.out] at ht
        have hlen:(kp q j).length=i:=hi.out.symm
        simp only [Array.getElem?_setIfInBounds,Array.size_setIfInBounds]
        by_cases ht2:t=i
        ·subst ht2
         have e1:(kp q j++[j]).getD t 0=j:=by rw [List.getD_eq_getElem?_getD,List.getElem?_append_right (by omega),hlen]; simp
         rw [e1]
         obtain ⟨a1,a2,a3⟩:=Y.out
         match r,hr with
         | 0,_=>rw [if_neg (by omega),if_neg (by omega),if_pos (by omega),if_pos (by omega),a1]; rfl
         | 1,_=>rw [if_neg (by omega),if_pos (by omega),if_pos (by omega),a2]
         | 2,_=>rw [if_pos (by omega),if_pos (by omega),a3]
         | r+3,h=>omega
        ·rw [if_neg (by omega),if_neg (by omega),if_neg (by omega),PT.out.low t (by omega) r hr]
         congr 3
         rw [List.getD_eq_getElem?_getD,List.getD_eq_getElem?_getD,List.getElem?_append_left (by omega)]
       ·simp only [Array.getElem?_setIfInBounds,Array.size_setIfInBounds]
        rw [if_neg (by omega),if_neg (by omega),if_neg (by omega)]
        exact PT.out.high t (by omega) h2 r hr
    | true=>
      rw [hq] at hcall
      have HCL:Aside _:=hcall
      clear hcall
      go_wp2_with (go_at_fn fg; refine (HCL.out _ (AW.out.alloc _)).mono ?_; rintro e w' ⟨rfl,hb'⟩; have HB':Aside _:=hb'; have hrw:Aside _:=al_row HW.out hb'; clear hb')
      go_roundg (n - (j+1))
      case measure=>omega
      case rel=>exact ⟨i,j+1,dk,rfl,by first | rfl | (congr 1; unfold wrap64; omega),by omega,by omega,Nat.le_refl _,(AW.out.alloc _).below HB'.out,hrw,hds,(by show i=_; rw [kp_true q hq]; exact hi.out),(show Part c q n (j+1) dk from ⟨fun t ht r hr=>by rw [kp_true q hq] at ht ⊢; exact PT.out.low t ht r hr,fun t h1 h2=>PT.out.high t (by omega) h2⟩)⟩
   ·obtain rfl:j=n:=by omega
    have hltz:¬ (j:Int) < (j:Int):=by omega
    have hcap3:cur.size=cap * 3:=hszA.out
    obtain ⟨dk2,hclr,hs2,hk2⟩:=clear_row wr HW.out i (j - i) (cap - i) (by omega)
    have C2:Aside (dk2.size=dk.size∧∀ t,t < i * 3→dk2[t]?=dk[t]?):=⟨hs2,hk2⟩
    clear hs2 hk2
    have hic:i < cap:=by omega
    have hne:¬ cap=i:=by omega
    have hne':¬ i=cap:=by omega
    go_wp2
    go_ret
    have hlen:(kp q j).length=i:=hi.out.symm
    refine ⟨by rw [hlen]; rfl,AW.out.row,dk2,setRow_heap wr g dk dk2 e0 (0,0) HW.out,by have u1:=hszA.out; have u2:=C2.out.1; omega,?_⟩
    exact ⟨fun t ht r hr=>by rw [C2.out.2 _ (by omega)]; exact PT.out.low t ht r hr,fun t h1 h2=>absurd h2 (by omega)⟩
end
end Go.Fw.L19
