/- slices.DeleteFunc at rules, as the machine knows it. -/
import Derived.Test.YtbdlccajpcomjaaFwDf
import Derived.Test.YtbdlccajpcomjaaFwB6
set_option linter.unusedVariables false
set_option linter.unusedSimpArgs false
namespace Go.Fw.L19
open Go Go.Fw Go.Proofs Go.RowKit
abbrev RUL:Ty:=.pair (.int .i64) (.pair (.int .i64) (.pair (.sl .str) .unit))
theorem keepN_some {α:Type} (p:α×Unit→Option Bool) (d:α):∀ {xs ys:List α},keepN p xs=some ys→∃ q:Nat→Bool,(∀ j,j < xs.length→p (xs.getD j d,())=some (q j))∧ys=(kp q xs.length).map fun t=>xs.getD t d
 | [],ys,h=>by simp only [keepN,Option.some.injEq] at h; subst h; exact ⟨fun _=>false,fun j hj=>by simp at hj,by simp [kp]⟩
 | x::xs,ys,h=>by
   simp only [keepN,Option.bind_eq_some_iff,Option.some.injEq] at h
   obtain ⟨b,hb,l,hl,rfl⟩:=h
   obtain ⟨q,hq,rfl⟩:=keepN_some p d hl
   refine ⟨fun j=>match j with | 0=>b | j+1=>q j,fun j hj=>?_,?_⟩
   ·cases j with
    | zero=>exact hb
    | succ j=>exact hq j (by simpa using hj)
   ·have e1:kp (fun j=>match j with | 0=>b | j+1=>q j) (xs.length+1)=(if b then [] else [0])++(kp q xs.length).map (· +1):=by
     unfold kp
     rw [List.range_succ_eq_map,List.filter_cons,List.filter_map]
     cases b<;>rfl
    rw [List.length_cons,e1,List.map_append,List.map_map]
    cases b<;>simp [Function.comp_def]
theorem rows_flat (c:Nat→Value):∀ (L:List Nat) (l:List Value),(∀ t,t < L.length→∀ r,r < 3→l[t * 3+r]?=some (c (L.getD t 0 * 3+r)))→
  l.take (L.length * 3)=L.flatMap fun t=> [c (t * 3),c (t * 3+1),c (t * 3+2)]
 | [],_,_=>by simp
 | a::L,l,h=>by
   have h0:=h 0 (by simp) 0 (by omega)
   have h1:=h 0 (by simp) 1 (by omega)
   have h2:=h 0 (by simp) 2 (by omega)
   match l,h0,h1,h2,h with
   | x::y::z::l,h0,h1,h2,h=>
     simp at h0 h1 h2
     have ih:=rows_flat c L l fun t ht r hr=>by
      have:=h (t+1) (by simp; omega) r hr
      rw [show (t+1) * 3+r=t * 3+r+3 by omega] at this
      simpa using this
     rw [List.length_cons,Nat.add_mul,Nat.one_mul,List.flatMap_cons,←ih,h0,h1,h2]
     simp [List.take_succ_cons]
   | [],h0,_,_,_=>simp at h0
   | [x],_,h1,_,_=>simp at h1
   | [x,y],_,_,h2,_=>simp at h2
set_option maxHeartbeats 1000000 in
set_option maxRecDepth 100000 in
theorem idx_nil (fg:FuncId) (caps:Array Value) (w:World):Calls Try.prog 68 #[.slice none 0 0,.func (.func fg) #[] caps] w fun e w'=>e=.returned (.int .i64 (-1))∧Below w.heap.size w w':=by
 go_enter Try.func68,Try.ntmps68
 go_wp2
 go_loopg [5,8] 0 (fun gg _ s8 wr=>s8=.int .i64 0∧Aside (Below w.heap.size w wr))
 case atStart=>exact ⟨rfl,Below.refl _ w⟩
 case round=>
  obtain ⟨rfl,BW⟩:=hrel
  go_wp2
  go_ret
  exact ⟨rfl,BW.out⟩
set_option maxHeartbeats 1000000 in
set_option maxRecDepth 100000 in
theorem del_nil (fg:FuncId) (caps:Array Value) (w:World):Calls Try.prog 51 #[.slice none 0 0,.func (.func fg) #[] caps] w fun e w'=>e=.returned (.slice none 0 0)∧Below w.heap.size w w':=by
 have h1:=idx_nil fg caps w
 go_enter Try.func51,Try.ntmps51
 go_wp2_with (go_at_call 68; refine h1.mono ?_; rintro e w' ⟨rfl,hbw⟩)
 go_ret
 exact ⟨rfl,hbw⟩
theorem df_good (xs:List (den RUL)) (gf:den (.fn (.pair RUL .unit) .bool)) (ys:List (den RUL)) (h:keepN gf xs=some ys) (w:World) (B:Nat) (G:Nat→Nat→Prop) (v gv:Value) (cells:List Value) (e:TypeId) (he:e≠BUF)
  (hrow:rowX w B e (cellsN RUL) v xs.length cells) (hel:Elems (Flat Try.prog RUL w G B .no) xs cells []) (hnoG:∀ g i,v.ownBlock=some g→¬ G g i) (hB:B≤w.heap.size)
  (hfn:∀ w1,Along v w w1→Flat Try.prog (.fn (.pair RUL .unit) .bool) w1 (fun _ _=>True) w1.heap.size .no gf [gv] []):
  Calls Try.prog 51 #[v,gv] w fun en w'=>∃ v' cells',en=.returned v'∧Along v w w'∧v'.ownBlock=v.ownBlock∧rowX w' B e (cellsN RUL) v' ys.length cells'∧Elems (Flat Try.prog RUL w' G B .no) ys cells' []:=by
 obtain ⟨q,hq,rfl⟩:=keepN_some gf (zero RUL) h
 have hF:=hfn w ⟨rfl,rfl,rfl,Nat.le_refl _,fun _ _ _=>rfl⟩
 unfold Flat at hF
 obtain ⟨_,_,fg,caps,hgv,_⟩:=hF
 simp only [List.cons.injEq,and_true] at hgv
 subst hgv
 have hlen:=hrow.1
 rcases hrow.2 with ⟨rfl,hn⟩ | ⟨g,cap,cur,e',fz,rfl,hBg,hg,hnc,hcm,hcs,htk,hfz,hrest⟩
 ·have:xs=[]:=List.length_eq_zero_iff.1 hn
  subst this
  refine (del_nil fg caps w).mono ?_
  rintro en w' ⟨rfl,hb⟩
  refine ⟨_,[],rfl,⟨hb.os,hb.tape,hb.output,hb.size,fun b h1 _=>hb.block b h1⟩,rfl,⟨by simp [kp],.inl ⟨rfl,by simp [kp]⟩⟩,by simp [kp,Elems]⟩
 ·obtain ⟨rfl,rfl⟩:=hfz he
  have hglt:g < w.heap.size:=(Array.getElem?_eq_some_iff.1 hg).1
  have c3:cellsN RUL=3:=rfl
  rw [c3] at hlen hcs htk
  have hlater:∀ W,Along (.slice (some ⟨g,0,none⟩) xs.length cap) w W→∀ b i,b < w.heap.size→G b i→W.cell? ⟨b,i,none⟩=w.cell? ⟨b,i,none⟩:=fun W hW b i hb hGb=>
   World.cell?_of_block (w:=w) (hW.rest b hb fun hv=>hnoG b i hv hGb)
  have hap:∀ W,Apart g w W→Along (.slice (some ⟨g,0,none⟩) xs.length cap) w W:=fun W hW=>⟨hW.os,hW.tape,hW.output,hW.size,fun b h1 h2=>hW.rest b h1 fun e=>h2 (by rw [e]; rfl)⟩
  have hchunk:∀ j,j < xs.length→Flat Try.prog RUL w G B .no (xs.getD j (zero RUL)) [cells.getD (j * 3) undef,cells.getD (j * 3+1) undef,cells.getD (j * 3+2) undef] []:=by
   intro j hj
   have h1:=Elems.drop_take (n:=3) (fun x v b hx=>Flat.len Try.prog RUL hx) j 1 hel
   rw [show (xs.drop j).take 1=[xs.getD j (zero RUL)] by
    rw [List.take_one,List.head?_drop,List.getD_eq_getElem?_getD,List.getElem?_eq_getElem hj]; rfl] at h1
   rw [show (cells.drop (j * 3)).take (1 * 3)=[cells.getD (j * 3) undef,cells.getD (j * 3+1) undef,cells.getD (j * 3+2) undef] by
    have l0:j * 3+2 < cells.length:=by omega
    rw [List.drop_eq_getElem_cons (by omega:j * 3 < cells.length),List.drop_eq_getElem_cons (by omega:j * 3+1 < cells.length),List.drop_eq_getElem_cons l0]
    simp only [List.take_succ_cons,Nat.one_mul,List.take_zero,List.getD_eq_getElem?_getD]
    rw [List.getElem?_eq_getElem (by omega:j * 3 < cells.length),List.getElem?_eq_getElem (by omega:j * 3+1 < cells.length),List.getElem?_eq_getElem l0]; rfl] at h1
   obtain ⟨v1,v2,b1,b2,e1,e2,hx,rfl,rfl⟩:=h1
   have hb1:b1=[]:=by simpa using e2.symm
   subst hb1
   rw [List.append_nil] at e1
   rw [e1]; exact hx
  have hone:=fun j hj=>Flat.one Try.prog RUL (o:=.no) rfl (hchunk j hj)
  have hcell:∀ i,i < xs.length * 3→cells[i]?=some (cells.getD i undef):=fun i hi=>by rw [List.getD_eq_getElem?_getD,List.getElem?_eq_getElem (by omega)]; rfl
  have hcl:∀ W,Apart g w W→∀ j,j < xs.length→Callable Try.prog fg∧Calls Try.prog fg (#[.agg #[cells.getD (j * 3) undef,cells.getD (j * 3+1) undef,cells.getD (j * 3+2) undef]]++caps) W fun e w2=>e=.returned (.bool (q j))∧Below W.heap.size W w2:=by
   intro W hW j hj
   have h1:=hfn W (hap W hW)
   unfold Flat at h1
   obtain ⟨_,_,f2,caps2,h2,h3⟩:=h1
   simp only [List.cons.injEq,and_true,Value.func.injEq,Fn.func.injEq,true_and] at h2
   obtain ⟨rfl,rfl⟩:=h2
   have h4:=h3 W (fun _ _=>True) (xs.getD j (zero RUL),()) [.agg #[cells.getD (j * 3) undef,cells.getD (j * 3+1) undef,cells.getD (j * 3+2) undef]] (Later.refl _ _) (by
    unfold FArgs
    refine ⟨_,[],Flat.up Try.prog RUL (Nat.le_trans hB hW.size) (Flat.mono Try.prog RUL (fun b i hb hGb=>⟨trivial,hlater W (hap _ hW) b i hb hGb⟩) ⟨hW.size,fun b hb=>hW.rest b (Nat.lt_of_lt_of_le hb hB) (by omega)⟩ (by simp) (hchunk j hj)),rfl,by unfold FArgs; rfl⟩) (q j) (hq j hj)
   refine ⟨h4.1,Calls.mono h4.2 ?_⟩
   rintro en w2 ⟨rs,hr,rfl,hb⟩
   unfold Flat at hr
   obtain ⟨rfl,_⟩:=hr
   exact ⟨rfl,hb⟩
  have hdel:=delf (fun i=>cells.getD i undef) fg caps q g xs.length cap (fun hn0 args W=>?_) cur e' w hg hnc hcm hcs (fun i hi=>by
   rw [←hcell i hi,←htk,List.getElem?_take_of_lt hi,Array.getElem?_toList]) (fun i hi=>by
   have:=hone (i / 3) (by omega)
   have e3:i=i / 3 * 3+i % 3:=by omega
   have:i % 3 < 3:=Nat.mod_lt _ (by omega)
   have h3:=hone (i / 3) (by omega)
   rw [e3]
   generalize i % 3=r at this
   match r,this with
   | 0,_=>exact h3 _ (by simp)
   | 1,_=>exact h3 _ (by simp)
   | 2,_=>exact h3 _ (by simp)
   | r+3,hr=>omega) (fun W hW j hj=>?_)
  ·refine hdel.mono ?_
   rintro en w' ⟨rfl,hA,dk,hdk,hds,hP⟩
   have hlk:∀ t,t∈kp q xs.length→t < xs.length:=fun t ht=>List.mem_range.1 (List.mem_filter.1 ht).1
   refine ⟨_,(kp q xs.length).flatMap fun t=> [cells.getD (t * 3) undef,cells.getD (t * 3+1) undef,cells.getD (t * 3+2) undef],rfl,hap _ hA,rfl,⟨?_,.inr ⟨g,cap,dk,e',(0,0),?_,hBg,hdk,?_,hcm,?_,?_,fun _=>⟨rfl,rfl⟩,?_⟩⟩,?_⟩
   ·rw [c3,List.length_map]
    have:∀ L:List Nat,(L.flatMap fun t=> [cells.getD (t * 3) undef,cells.getD (t * 3+1) undef,cells.getD (t * 3+2) undef]).length=L.length * 3:=by
     intro L; induction L with
     | nil=>rfl
     | cons a L ih=>rw [List.flatMap_cons,List.length_append,ih,List.length_cons]; simp; omega
    exact this _
   ·rw [List.length_map]
   ·rw [List.length_map]; exact Nat.le_trans (kp_len q _) hnc
   ·rw [hds,hcs,c3]
   ·rw [c3,List.length_map]
    refine rows_flat (fun i=>cells.getD i undef) (kp q xs.length) dk.toList fun t ht r hr=>?_
    rw [Array.getElem?_toList]; exact hP.low t ht r hr
   ·exact .inl rfl
   ·have hup:∀ j,j < xs.length→Flat Try.prog RUL w' G B .no (xs.getD j (zero RUL)) [cells.getD (j * 3) undef,cells.getD (j * 3+1) undef,cells.getD (j * 3+2) undef] []:=fun j hj=>
     Flat.mono Try.prog RUL (fun b i hb hGb=>⟨hGb,hlater w' (hap _ hA) b i hb hGb⟩) ⟨hA.size,fun b hb=>hA.rest b (Nat.lt_of_lt_of_le hb hB) (by omega)⟩ (by simp) (hchunk j hj)
    have:∀ L:List Nat,(∀ t∈L,t < xs.length)→Elems (Flat Try.prog RUL w' G B .no) (L.map fun t=>xs.getD t (zero RUL)) (L.flatMap fun t=> [cells.getD (t * 3) undef,cells.getD (t * 3+1) undef,cells.getD (t * 3+2) undef]) []:=by
     intro L
     induction L with
     | nil=>intro _; exact ⟨rfl,rfl⟩
     | cons a L ih=>intro hL; exact ⟨_,_,[],[],by rw [List.flatMap_cons],rfl,hup a (hL a (by simp)),ih fun t ht=>hL t (by simp [ht])⟩
    exact this _ hlk
  ·exact run_callFunc (hcl w ⟨rfl,rfl,rfl,Nat.le_refl _,fun _ _ _=>rfl⟩ 0 hn0).1 args W
  ·exact (hcl W hW j hj).2
end Go.Fw.L19
