/- slices.SortFunc at elements of one cell, as the machine's. -/
import Derived.Test.YtooiookccchmeaaGreatFwRev
import Derived.Test.YtooiookccchmeaaGreatFwB7
import Derived.Shelf.SlSortCmp.Whole1
set_option linter.unusedVariables false
set_option linter.unusedSimpArgs false
open List renaming finRange → LS, length_finRange → LV, take_succ_cons → LX, getD_eq_getElem?_getD → oQ, getElem?_eq_getElem → fc
open List.cons renaming injEq → gC
open Nat renaming le_add_right → LY, mul_one → ur
namespace Go.Fw
open Go Go.RowKit Go.Proofs Go.Shelf Go.Sort
theorem ZC {w w':World} (h:Below w.heap.size w w'):∃ q os,w'=grow (w.drewN q) os:=by
 refine ⟨w'.drawn - w.drawn,w'.heap.extract w.heap.size w'.heap.size,?_⟩
 obtain ⟨heap',tape',drawn',os',output'⟩:=w'
 have e1:os'=w.os:=h.os
 have e2:tape'=w.tape:=h.tape
 have e3:output'=w.output:=h.output
 have hs:w.heap.size≤heap'.size:=h.size
 have hd:w.drawn≤drawn':=h.drawn
 have hb:∀ k,k < w.heap.size→heap'[k]?=w.heap[k]?:=h.block
 subst e1 e2 e3
 have eh:heap'=w.heap++heap'.extract w.heap.size heap'.size:=by
  apply Array.ext_getElem?
  intro k
  by_cases hk:k < w.heap.size
  ·rw [Array.getElem?_append_left hk]; exact hb k hk
  ·rw [Array.getElem?_append_right (by omega),Array.getElem?_extract]
   by_cases hk2:k < heap'.size
   ·rw [if_pos (by omega)]; congr 1; omega
   ·rw [if_neg (by omega),Array.getElem?_eq_none (by omega)]
 simp only [grow,World.drewN]
 congr 1
 omega
theorem L9 {α:Type} [Inhabited α] {enc:α→Value} {w:World} {g m:Nat} {dk:Array α} {os:Array Obj} {n cap:Nat} (hg:g < w.heap.size):iF (.slice (some ⟨g,0,none⟩) n cap) w (sortWorld enc w g 0 m dk os):=by
 refine ⟨rfl,rfl,rfl,?_,LY _ _,fun b hb hne=>?_⟩
 ·unfold sortWorld; rw [size_grow,Proofs.size_putRow]; exact LY _ _
 ·unfold sortWorld
  rw [heap_grow_old _ _ (by rw [Proofs.size_putRow]; exact hb)]
  unfold putRow mapBlock
  rw [Array.getElem?_modify,if_neg (fun e=>hne (by rw [←e]; rfl))]
  rfl
theorem akW {P:Program} {ρ:Ren} (L:SlLaysF.n6 P ρ) {T:Ty} [DecidableEq (den T)] (hT1:ay T=1) (hTa:cA T=false) {e:TypeId} {xs ys:List (den T)} {gf:den T×(den T×Unit)→Option Int} (hs:tT gf xs=some ys)
  (w:World) (B:Nat) (G:Nat→Nat→Prop) (v gv:Value) (cells:List Value) (he:e≠gV) (hrow:gk w B e (ay T) v xs.length cells) (hel:aL (Flat P T w G B .no) xs cells [])
  (hnoG:∀ g i,v.ownBlock=some g→¬ G g i) (hB:B≤w.heap.size) (hfn:∀ w1,iF v w w1→Flat P (.fn (.pair T (.pair T .unit)) (.int .i64)) w1 (fun _ _=>True) w1.heap.size .no gf [gv] []):
  Calls P (ρ.f 6) #[v,gv] w fun en w'=>∃ cells',en=.returned (.tuple #[])∧iF v w w'∧gk w' B e (ay T) v ys.length cells'∧aL (Flat P T w' G B .no) ys cells' []:=by
 unfold tT at hs
 split at hs
 case isFalse=>cases hs
 rename_i hc
 cases hs
 obtain ⟨hne,hlen,hok⟩:=hc
 have hn0:0 < xs.length:=List.length_pos_iff.2 hne
 obtain ⟨hl,hrow⟩:=hrow
 rcases hrow with ⟨rfl,hn⟩ | ⟨g,cap,cur,e',fz,rfl,hBg,hg,hnc,hcm,hcs,htk,hfz,hfk⟩
 ·omega
 obtain ⟨rfl,rfl⟩:=hfz he
 rw [hT1] at hl hcs htk
 rw [ur] at hl hcs htk
 have hglt:g < w.heap.size:=(Array.getElem?_eq_some_iff.1 hg).1
 -- the elements by their numbers
 let ι:=Fin xs.length
 letI:Inhabited ι:=⟨⟨0,hn0⟩⟩
 let enc:ι→Value:=fun i=>cells.getD i.1 undef
 let xa:ι→den T:=fun i=>xs[i.1]
 have hmem:∀ i,xa i∈jc gf xs:=fun i=>(zi xs).mem_iff.2 (List.getElem_mem i.2)
 have hidx:∀ i j,∃ n,gf (xa i,(xa j,()))=some n∧(n < 0↔(jc gf xs).idxOf (xa i) < (jc gf xs).idxOf (xa j)):=fun i j=>K9 hok _ (hmem i) _ (hmem j)
 let cf:ι→ι→Int:=fun i j=>(gf (xa i,(xa j,()))).getD 0
 have hcf:∀ i j,gf (xa i,(xa j,()))=some (cf i j):=fun i j=>by
  obtain ⟨n,hn,_⟩:=hidx i j
  show _=some ((gf (xa i,(xa j,()))).getD 0)
  rw [hn]; rfl
 have hlt:∀ i j,ltOf cf i j=decide ((jc gf xs).idxOf (xa i) < (jc gf xs).idxOf (xa j)):=fun i j=>by
  obtain ⟨n,hn,h⟩:=hidx i j
  have:cf i j=n:=by have:=hcf i j; rw [hn] at this; exact (Option.some.inj this).symm
  unfold ltOf
  rw [this]
  exact decide_eq_decide.2 h
 have hO:SWO (ltOf cf):=⟨fun i=>by rw [hlt]; simp,fun i j k h1 h2=>by rw [hlt] at *; simp at *; omega,fun i j k h1 h2=>by rw [hlt] at *; simp at *; omega⟩
 let d:Array ι:=(LS xs.length).toArray
 have hds:d.size=xs.length:=LV
 have hdj:∀ j (hj:j < xs.length),d[j]! =⟨j,hj⟩:=fun j hj=>by
  rw [getElem!_pos d j (by rw [hds]; exact hj)]
  show (LS xs.length)[j]'(by rw [LV]; exact hj)=_
  exact List.getElem_finRange _
 have hchunk:∀ i:ι,Flat P T w G B .no (xa i) [enc i] []:=by
  intro i
  have h1:=aL.drop_take (n:=1) (fun x v b hx=>by rw [Flat.len P T hx,hT1]) i.1 1 hel
  have hi:i.1 < cells.length:=by rw [hl]; exact i.2
  rw [ur,ur,List.drop_eq_getElem_cons i.2,List.drop_eq_getElem_cons hi,LX,LX,List.take_zero,List.take_zero] at h1
  obtain ⟨v1,v2,b1,b2,e1,e2,hx,rfl,rfl⟩:=h1
  have hb1:b1=[]:=by simpa using e2.symm
  subst hb1
  rw [List.append_nil] at e1
  subst e1
  show Flat P T w G B .no xs[i.1] [cells.getD i.1 undef] []
  rw [oQ,fc hi]
  exact hx
 have h1c:OneCell enc:=fun i=>Flat.one P T (o:=.no) rfl (hchunk i) _ (by simp)
 have hlater:∀ W,iF (.slice (some ⟨g,0,none⟩) xs.length cap) w W→∀ b i,b < w.heap.size→G b i→W.cell? ⟨b,i,none⟩=w.cell? ⟨b,i,none⟩:=fun W hW b i hb hGb=>
  World.cell?_of_block (w:=w) (hW.rest b hb fun hv=>hnoG b i hv hGb)
 have hlB:∀ W,iF (.slice (some ⟨g,0,none⟩) xs.length cap) w W→bV B w W:=fun W hW=>⟨hW.size,fun b hb=>hW.rest b (Nat.lt_of_lt_of_le hb hB) (fun e=>by simp only [Value.ownBlock,Option.some.injEq] at e; omega)⟩
 have hwr:iF (.slice (some ⟨g,0,none⟩) xs.length cap) w w:=⟨rfl,rfl,rfl,Nat.le_refl _,Nat.le_refl _,fun _ _ _=>rfl⟩
 have hf0:=hfn w hwr
 unfold Flat at hf0
 obtain ⟨_,_,fg,caps,hgv,h30⟩:=hf0
 simp only [gC,and_true] at hgv
 subst hgv
 have hcall:∀ W,iF (.slice (some ⟨g,0,none⟩) xs.length cap) w W→∀ i j:ι,fi P fg∧Calls P fg (#[enc i,enc j]++caps) W fun e w'=>e=.returned (.int .i64 (cf i j))∧∃ q os',w'=grow (W.drewN q) os':=by
  intro W hW i j
  have h1:=hfn W hW
  unfold Flat at h1
  obtain ⟨_,_,f2,caps2,h2,h3⟩:=h1
  simp only [gC,and_true,Value.func.injEq,Fn.func.injEq,true_and] at h2
  obtain ⟨rfl,rfl⟩:=h2
  have hup:∀ i,Flat P T W (fun _ _=>True) W.heap.size .no (xa i) [enc i] []:=fun i=>Flat.up P T (Nat.le_trans hB hW.size) (Flat.mono P T (fun b k hb hGb=>⟨trivial,hlater W hW b k hb hGb⟩) (hlB W hW) (by simp) (hchunk i))
  have hv:∀ i,bh T [enc i]=enc i:=fun i=>by simp [bh,hTa]
  have h4:=h3 W (fun _ _=>True) (xa i,(xa j,())) [enc i,enc j] (bV.refl _ _) (by
   unfold iH
   refine ⟨_,[enc j],hup i,by rw [hv],?_⟩
   unfold iH
   exact ⟨_,[],hup j,by rw [hv],by unfold iH; rfl⟩) (cf i j) (hcf i j)
  refine ⟨h4.1,Calls.mono h4.2 ?_⟩
  rintro en w2 ⟨rs,hr,rfl,hb⟩
  unfold Flat at hr
  obtain ⟨rfl,_⟩:=hr
  exact ⟨rfl,ZC hb⟩
 have hcl:cells.length=xs.length:=hl
 have hcur:∀ k,k < xs.length→cur[k]?=some (cells.getD k undef):=fun k hk=>by
  have h:=congrArg (fun l=>l[k]?) htk
  simp only [List.getElem?_take_of_lt hk] at h
  rw [←Array.getElem?_toList,h,oQ,fc (by omega)]; rfl
 have hH:Holds enc w g 0 d:=by
  intro j hj
  rw [hds] at hj
  rw [Nat.zero_add,hdj j hj]
  refine ⟨?_,by simp [World.frozen?,hg]⟩
  rw [cell_of_row w g j cur _ (0,0) hg,hcur j hj]
 have hcmp:CmpLays1 P fg caps enc cf g 0 d.size w:=fun m os dk _ i j=>(hcall _ (L9 hglt) i j).2
 have hsz:d.size < 4611686018427387904:=by rw [hds]; omega
 have hmain:=Any.slices_SortFunc L enc h1c cf hO fg caps g 0 cap d w (fun args W=>mH (hcall w hwr ⟨0,hn0⟩ ⟨0,hn0⟩).1 args W) hcmp hH hglt hsz
 rw [hds] at hmain
 refine hmain.mono ?_
 rintro en w' ⟨rfl,d',n,os,⟨hp1,_,hp2⟩,hsd,rfl⟩
 rw [hds] at hp1
 have hex:∀ a:Array ι,a.size=xs.length→a.extract 0 xs.length=a:=fun a ha=>by rw [←ha,Array.extract_size]
 rw [hex d' hp1,hex d hds] at hp2
 have hA:iF (.slice (some ⟨g,0,none⟩) xs.length cap) w (sortWorld enc w g 0 n d' os):=L9 hglt
 have hperm:(d'.toList.map xa).Perm (jc gf xs):=by
  refine (hp2.map xa).trans (List.Perm.trans (List.Perm.of_eq ?_) (zi xs).symm)
  show (LS xs.length).map (fun i=>xs[i.1])=xs
  refine List.ext_getElem (by rw [List.length_map,LV]) fun i h1 h2=>?_
  rw [List.getElem_map,List.getElem_finRange]
  rfl
 have hys:d'.toList.map xa=jc gf xs:=by
  refine ahE hok hperm ?_
  rw [List.pairwise_map,List.pairwise_iff_getElem]
  intro i j hi hj hij
  have h:=hsd i j (Nat.zero_le _) hij (by simp at hj; omega)
  rw [hlt] at h
  simp only [Array.length_toList] at hi hj
  rw [getElem!_pos d' i hi,getElem!_pos d' j hj] at h
  simp only [Array.getElem_toList]
  simp only [decide_eq_false_iff_not] at h
  omega
 have hyl:(jc gf xs).length=xs.length:=(zi xs).length_eq
 have hw':(sortWorld enc w g 0 n d' os).heap[g]?=some (.cells (putCells enc 0 d' cur) e' (0,0)):=by
  unfold sortWorld
  rw [heap_grow_old _ _ (by rw [Proofs.size_putRow]; exact hglt),Wa enc (Sort.ahead w n) (g:=g) (cur:=cur) hg d']
  exact setRow_heap (Sort.ahead w n) g cur _ e' _ hg
 refine ⟨d'.toList.map enc,rfl,hA,⟨?_,.inr ⟨g,cap,_,e',(0,0),by rw [hyl],hBg,hw',by rw [hyl]; exact hnc,hcm,?_,?_,fun _=>⟨rfl,rfl⟩,.inl rfl⟩⟩,?_⟩
 ·rw [hT1,hyl]; simp [hp1]
 ·rw [hT1]; simp [putCells,hcs]
 ·rw [hT1,hyl,ur,←hp1]
  exact VZ enc d' cur (by rw [hp1,hcs]; exact hnc)
 ·rw [←hys]
  have:∀ l:List ι,aL (Flat P T (sortWorld enc w g 0 n d' os) G B .no) (l.map xa) (l.map enc) []:=by
   intro l
   induction l with
   | nil=>exact ⟨rfl,rfl⟩
   | cons i l ih=>exact ⟨[enc i],l.map enc,[],[],rfl,rfl,Flat.mono P T (fun b k hb hGb=>⟨hGb,hlater _ hA b k hb hGb⟩) (hlB _ hA) (by simp) (hchunk i),ih⟩
  exact this _
end Go.Fw
