/- What the library's builder does, with all that stays as it is: a text is written, the text is asked for. -/
import Derived.Test.YtooiookccchmeaaGreatFwB6
import Derived.Test.YtooiookccchmeaaGreatFwB1
import Derived.Shelf.Strings.Builder1
set_option linter.unusedVariables false
set_option linter.unusedSimpArgs false
open Array renaming getElem?_modify → zt, getElem?_eq_none → tY
open Nat renaming zero_le → iL, lt_of_lt_of_le → dK, lt_or_ge → kM, le_succ → rk
open Option.some renaming injEq → aw
namespace Go.Fw
open Go Go.RowKit Go.Proofs Go.Shelf
structure Fr (b:Nat) (u:Option Nat) (w w':World):Prop where
 below:Go.RowKit.Below 0 w w'
 drawn:w.drawn≤w'.drawn
 rest:∀ k,k < w.heap.size→k≠b→some k≠u→w'.heap[k]?=w.heap[k]?
section
variable {P:Program} {ρ:Ren}
theorem Fr.refl (b:Nat) (u:Option Nat) (w:World):Fr b u w w:=⟨Go.RowKit.Below.refl 0 w,Nat.le_refl _,fun _ _ _ _=>rfl⟩
theorem Fr.set {b:Nat} {u:Option Nat} {w w1:World} (h:Fr b u w w1) (i:Nat) (v:Value):Fr b u w (w1.setCell ⟨b,i,none⟩ v):=
 ⟨h.below.setCell (p:=⟨b,i,none⟩) (iL _) v,h.drawn,fun k h1 h2 h3=>by rw [Go.RowKit.Below.heap_setCell _ _ _ _ (fun e=>h2 e)]; exact h.rest k h1 h2 h3⟩
theorem Fr.grown {b:Nat} {u:Option Nat} {w w1 w2:World} (h:Fr b u w w1) (hg:w1.grownBy w2 u) (hd:w1.drawn≤w2.drawn):Fr b u w w2:=
 ⟨h.below.grown hg (iL _) (fun _ _=>iL _),Nat.le_trans h.drawn hd,fun k h1 h2 h3=>by rw [hg.block k (dK h1 h.below.size) h3]; exact h.rest k h1 h2 h3⟩
theorem akq (w:World) (base:Nat) (t u ty e:TypeId) (i:TypeInfo) (ht:P.underlying t=some (.slice e)) (hu:P.underlying u=some .string) (hi:P.info? e=some i) (hz:i.zero=some (.int .u8 0))
  (hsize:i.size=1) (hby:i.bytes=1) (v:Value) (n:Nat) (xs:List Value) (hown:w.ownsRow base e 1 v n xs) (s:ByteArray) (hbytes:n+s.size≤140737488355328) (hbase:base≤w.heap.size):
  ∃ v' w',(Builtin.append_ #[t,u] ty #[v,.string s]).run P w=.ok v' w'∧w'.ownsRow base e 1 v' (n+s.size) (xs++Lib.strCells s)∧w.grownBy w' v.ownBlock∧∀ g,v'.ownBlock=some g→v.ownBlock=some g∨w.heap.size≤g:=by
 have hm:n+s.size≤maxLen:=by unfold maxLen; omega
 rcases hown.2 with ⟨rfl,rfl⟩ | ⟨g,cap,cur,rfl,hbg,hg,hnc,hcm,hcs,htake⟩
 ·obtain ⟨v',w',h1,h2,h3,h4⟩:=Lib.run_append_own_string (P:=P) w base t u ty e i ht hu hi hz hsize hby _ 0 xs hown s hm hbytes hbase
  obtain ⟨v2,w2,k1,k2,k3,k4⟩:=Lib.run_append_own_string (P:=P) w w.heap.size t u ty e i ht hu hi hz hsize hby (.slice none 0 0) 0 xs ⟨hown.1,.inl ⟨rfl,rfl⟩⟩ s hm hbytes (Nat.le_refl _)
  rw [h1] at k1
  cases k1
  refine ⟨v',w',h1,h2,h3,fun g hg=>.inr ?_⟩
  rcases k2.2 with ⟨rfl,_⟩ | ⟨g',c',cu,rfl,hb',_⟩
  ·simp [Value.ownBlock] at hg
  ·simp only [Value.ownBlock,aw] at hg; subst hg; exact hb'
 ·obtain ⟨v',w',h1,h2,h3,h4⟩:=Lib.run_append_own_string (P:=P) w base t u ty e i ht hu hi hz hsize hby _ n xs hown s hm hbytes hbase
  refine ⟨v',w',h1,h2,h3,fun g' hg'=>?_⟩
  by_cases hroom:n+s.size≤cap
  ·have hr:=Lib.run_append_room_string (P:=P) w t u ty e i ht hu hi hsize g n cap cur hg s hroom (by omega)
   rw [hr] at h1; cases h1
   exact .inl hg'
  ·have hxl:xs.length=n:=by simpa using hown.1
   have hr:=Lib.run_append_grow_string (P:=P) w t u ty e i (.int .u8 0) ht hu hi hz ⟨g,0,none⟩ n cap xs (by rw [hsize]; simpa using hxl) (fun j x hx=>hown.cells (g:=g) rfl j x hx) s (by omega) (by omega) (by rw [hby]; exact growslice_fits (by omega) (by omega))
   rw [hr] at h1; cases h1
   simp only [Value.ownBlock,aw] at hg'
   exact .inr (by omega)
theorem asK {w:World} {ops:Array Oper} {rest:List Oper} {o:Oper} {a:Act} {Q:Exit→Act→World→Prop} (hgd:o.guard=none) (sl x:Operand) (t u:TypeId)
  (ho:o.op=.call {callee:=.builtin .append,args:=#[sl,x],argTypes:=#[t,u]})
  (base:Nat) (e:TypeId) (i:TypeInfo) (ht:P.underlying t=some (.slice e)) (hu:P.underlying u=some .string) (hi:P.info? e=some i) (hz:i.zero=some (.int .u8 0))
  (hsize:i.size=1) (hby:i.bytes=1)
  (v:Value) (n:Nat) (xs:List Value) (hs:a.eval sl=v) (hown:w.ownsRow base e 1 v n xs) (s:ByteArray) (hx:a.eval x=.string s) (hbytes:n+s.size≤140737488355328) (hbase:base≤w.heap.size)
  (h:∀ v' w',w'.ownsRow base e 1 v' (n+s.size) (xs++Lib.strCells s)→w.grownBy w' v.ownBlock→w.drawn≤w'.drawn→(∀ g,v'.ownBlock=some g→v.ownBlock=some g∨w.heap.size≤g)→wpList P ops Q rest (a.put o.dst v') w'):wpList P ops Q (o::rest) a w:=by
 refine wpList_plain hgd fun K hK=>?_
 obtain ⟨v',w',hr,h2,h3,h4⟩:=akq w base t u o.type e i ht hu hi hz hsize hby v n xs hown s hbytes hbase
 unfold Oper.wp execOp
 simp only [ho,resolve,invoke,builtin,Sem.run_bind,Sem.run_pure,Result.andThen_ok,List.map_toArray,List.map_cons,List.map_nil,hs,hx,hr]
 exact hK _ _ (h v' w' h2 h3 (iB _ _ hr) h4)
theorem akG (L:Lays.n240 P ρ) (X:Builder.X72 P ρ) {w:World} {b:Nat} {p u:Value} (hb:w.heap[b]?=some (.cells #[p,u] (ρ.t 72) (0,0))) (hp:p=.pointer none∨p=.pointer (some ⟨b,0,none⟩)) (o:Option Nat):
  Calls P (ρ.f 240) #[.pointer (some ⟨b,0,none⟩)] w fun e w'=>e=.returned (.tuple #[])∧w'.heap[b]?=some (.cells #[.pointer (some ⟨b,0,none⟩),u] (ρ.t 72) (0,0))∧Fr b o w w'∧w'.heap.size=w.heap.size:=by
 have c0:w.cell? ⟨b,0,none⟩=some p:=by rw [Lib.cell_of_heap hb]; rfl
 rcases hp with rfl | rfl
 ·refine (Any.Builder_copyCheck_fresh L X b w c0 (by simp [World.shape?,hb]) (Lib.frozen_of_heap hb 0)).mono ?_
  rintro e w' ⟨rfl,rfl⟩
  refine ⟨rfl,?_,(Fr.refl b o w).set 0 _,by simp [World.setCell]⟩
  simp [World.setCell,zt,hb]
 ·refine (Any.Builder_copyCheck_used L X b w c0).mono ?_
  rintro e w' ⟨rfl,rfl⟩
  exact ⟨rfl,hb,Fr.refl b o _,rfl⟩
set_option maxHeartbeats 2000000 in
set_option maxRecDepth 100000 in
theorem akK (L:Lays.n166 P ρ) (X:Builder.Extra P ρ) {w:World} {B b:Nat} {p u:Value} {bs:List Value} {s:ByteArray} (hB:B≤b) (hb:w.heap[b]?=some (.cells #[p,u] (ρ.t 72) (0,0))) (hp:p=.pointer none∨p=.pointer (some ⟨b,0,none⟩))
  (hown:w.ownsRow B (ρ.t 5) 1 u bs.length bs) (hne:u.ownBlock≠some b) (hlen:bs.length+s.size≤140737488355328) (hBw:B≤w.heap.size):
  Calls P (ρ.f 166) #[.pointer (some ⟨b,0,none⟩),.string s] w fun e w'=>(∃ rv,e=.returned rv)∧∃ u',w'.heap[b]?=some (.cells #[.pointer (some ⟨b,0,none⟩),u'] (ρ.t 72) (0,0))∧w'.ownsRow B (ρ.t 5) 1 u' (bs.length+s.size) (bs++Lib.strCells s)∧
   Fr b u.ownBlock w w'∧∀ g,u'.ownBlock=some g→u.ownBlock=some g∨w.heap.size≤g:=by
 obtain ⟨i0,hi,hz0,hz1,hz2⟩:=info_parts X.infoByte
 have hlt:b < w.heap.size:=by
  rcases kM b w.heap.size with h' | h'
  ·exact h'
  ·simp [tY h'] at hb
 have e240:∀ args w,(callFunc (ρ.f 240) args).run P w=.ok (.enter (ρ.f 240) args) w:=enters_of L.f240 (by kernel_rfl) rfl
 have mixed:=L.mixed; have t5:=X.t5; have a5:=X.a5; have z5:=X.z5; have v5:=X.v5; have u5:=run_underlying X.t5
 have t72:=L.t72; have a72:=L.a72; have z72:=L.z72; have v72:=L.v72; have u72:=run_underlying L.t72; have t70:=L.t70; have a70:=L.a70; have z70:=L.z70; have v70:=L.v70; have u70:=run_underlying L.t70
 have t37:=L.t37; have a37:=L.a37; have z37:=L.z37; have v37:=L.v37; have u37:=run_underlying L.t37; have t3:=L.t3; have a3:=L.a3; have z3:=L.z3; have v3:=L.v3; have u3:=run_underlying L.t3
 have t9:=L.t9; have a9:=L.a9; have z9:=L.z9; have v9:=L.v9; have u9:=run_underlying L.t9; have t4:=L.t4; have a4:=L.a4; have z4:=L.z4; have v4:=L.v4; have u4:=run_underlying L.t4
 have t164:=L.t164; have a164:=L.a164; have z164:=L.z164; have v164:=L.v164; have u164:=run_underlying L.t164
 go_enter L.f166,Body.n166_ntmps ρ
 go_wp2_with (go_at_fn (ρ.f 240); refine (akG {L with} X.toX72 hb hp none).mono ?_)
 rintro e w1 ⟨rfl,hb1,hF,hsz⟩
 have hown1:w1.ownsRow B (ρ.t 5) 1 u bs.length bs:=by
  refine ⟨hown.1,hown.2.imp id fun k=>?_⟩
  obtain ⟨g,cap,cur,k1,k2,k3,k4⟩:=k
  refine ⟨g,cap,cur,k1,k2,?_,k4⟩
  have hgb:g≠b:=fun e=>hne (by rw [k1,e]; rfl)
  rw [hF.rest g (by rcases kM g w.heap.size with h' | h'; exact h'; simp [tY h'] at k3) hgb (by simp)]
  exact k3
 have hF0:Fr b u.ownBlock w w1:=⟨hF.below,hF.drawn,fun k h1 h2 _=>hF.rest k h1 h2 (by simp)⟩
 have c0:w1.cell? ⟨b,0,none⟩=some (.pointer (some ⟨b,0,none⟩)):=by rw [Lib.cell_of_heap hb1]; rfl
 have c1:w1.cell? ⟨b,1,none⟩=some u:=by rw [Lib.cell_of_heap hb1]; rfl
 go_wp2_with (at_builtin; refine asK rfl _ _ (ρ.t 37) (ρ.t 9) rfl B (ρ.t 5) i0 L.t37 L.t9 hi hz0 hz1 hz2 _ _ _ rfl hown1 s rfl hlen (by omega) ?_)
 intro v' w2 hown' hgrow hdrw hblk
 have hb2:w2.heap[b]?=some (.cells #[.pointer (some ⟨b,0,none⟩),u] (ρ.t 72) (0,0)):=by
  rw [hgrow.block b (by omega) (fun e=>hne e.symm)]
  exact hb1
 have d0:w2.cell? ⟨b,0,none⟩=some (.pointer (some ⟨b,0,none⟩)):=by rw [Lib.cell_of_heap hb2]; rfl
 have d1:w2.cell? ⟨b,1,none⟩=some u:=by rw [Lib.cell_of_heap hb2]; rfl
 have f1:w2.frozen? ⟨b,1,none⟩=false:=Lib.frozen_of_heap hb2 1
 obtain ⟨ao,n',cap,rfl⟩:∃ ao n' cap,v'=.slice ao n' cap:=by
  rcases hown'.2 with ⟨hv,_⟩ | ⟨g,cap,cur,hv,_⟩
  ·exact ⟨_,_,_,hv⟩
  ·exact ⟨_,_,_,hv⟩
 go_wp2
 go_ret2
 have hput:=Lib.BuilderAt.put (T:=(ρ.t 72)) (e:=(ρ.t 5)) hB hb2 (bs':=bs++Lib.strCells s) (by simpa [Lib.strCells_length] using hown') X.neB5
 obtain ⟨_,v2,hb3,hown3,_⟩:=hput
 have e3:v2=.slice ao n' cap:=by
  simp [World.setCell,zt,hb2] at hb3
  exact hb3.symm
 subst e3
 exact ⟨⟨_,rfl⟩,_,hb3,by simpa [Lib.strCells_length] using hown3,(hF0.grown hgrow hdrw).set 1 _,fun g hg=>(hblk g hg).imp id fun h=>by omega⟩
set_option maxHeartbeats 1000000 in
set_option maxRecDepth 100000 in
theorem akJ (L:Lays.n169 P ρ) (X:Builder.Extra P ρ) {w:World} {B b:Nat} {p u:Value} {l:List UInt8} (hb:w.heap[b]?=some (.cells #[p,u] (ρ.t 72) (0,0)))
  (hown:w.ownsRow B (ρ.t 5) 1 u l.length (Lib.byteCells l)) (h0:l≠[]):
  Calls P (ρ.f 169) #[.pointer (some ⟨b,0,none⟩)] w fun e w'=>e=.returned (.string ⟨l.toArray⟩)∧Fr b u.ownBlock w w':=by
 have hl0:l.length≠0:=by simpa using h0
 obtain ⟨g,cap,cur,rfl,hbg,hg,hnc,hcm,hcs,htake⟩:∃ g cap cur,u=.slice (some ⟨g,0,none⟩) l.length cap∧B≤g∧w.heap[g]?=some (.cells cur (ρ.t 5) (0,0))∧l.length≤cap∧cap≤maxLen∧cur.size=cap * 1∧cur.toList.take (l.length * 1)=Lib.byteCells l:=by
  rcases hown.2 with ⟨_,hz⟩ | ⟨g,cap,cur,hv,r⟩
  ·exact absurd hz hl0
  ·exact ⟨g,cap,cur,hv,r⟩
 have hbd:w.drew.heap[b]?=some (.cells #[p,.slice (some ⟨g,0,none⟩) l.length cap] (ρ.t 72) (0,0)):=hb
 have hgd:w.drew.heap[g]?=some (.cells cur (ρ.t 5) (0,0)):=hg
 have c1:w.drew.cell? ⟨b,1,none⟩=some (.slice (some ⟨g,0,none⟩) l.length cap):=by rw [Lib.cell_of_heap hbd]; rfl
 have hSD:(Builtin.unsafeSliceData_ #[(ρ.t 37)] (ρ.t 127) #[.slice (some ⟨g,0,none⟩) l.length cap]).run P w.drew=.ok (.pointer (some ⟨g,0,none⟩)) w.drew:=Lib.run_unsafeSliceData_row _ _ _ _ _ _ (by omega)
 have hUS:(Builtin.unsafeString_ #[(ρ.t 127),(ρ.t 3)] (ρ.t 9) #[.pointer (some ⟨g,0,none⟩),.int .i64 l.length]).run P w.drew=.ok (.string ⟨l.toArray⟩) (w.drew.freeze ⟨g,0,none⟩ l.length):=
  Lib.run_unsafeString_row w.drew (ρ.t 127) (ρ.t 3) (ρ.t 9) (ρ.t 5) L.t127 X.cellsByte g cur.size (by simp [World.shape?,hgd]) l h0 (by omega) (by unfold maxLen at hcm; omega) fun j x hx=>hown.cells (g:=g) rfl j (.int .u8 x.toNat) (by simp [Lib.byteCells,hx])
 have fin:Fr b (some g) w (w.drew.freeze ⟨g,0,none⟩ l.length):=by
  refine ⟨Lib.below_freeze (Go.RowKit.Below.drew (Go.RowKit.Below.refl 0 w)) (p:=⟨g,0,none⟩) (iL _) _,(by unfold World.freeze; split<;>exact rk _),fun k _ _ h3=>?_⟩
  unfold World.freeze
  rw [if_neg hl0]
  have:¬ g=k:=fun e=>h3 (by rw [e])
  simp [zt,this]
  rfl
 have mixed:=L.mixed; have t5:=X.t5; have a5:=X.a5; have z5:=X.z5; have v5:=X.v5; have u5:=run_underlying X.t5
 have t72:=L.t72; have a72:=L.a72; have z72:=L.z72; have v72:=L.v72; have u72:=run_underlying L.t72; have t70:=L.t70; have a70:=L.a70; have z70:=L.z70; have v70:=L.v70; have u70:=run_underlying L.t70
 have t37:=L.t37; have a37:=L.a37; have z37:=L.z37; have v37:=L.v37; have u37:=run_underlying L.t37; have t127:=L.t127; have a127:=L.a127; have z127:=L.z127; have v127:=L.v127; have u127:=run_underlying L.t127
 have t3:=L.t3; have a3:=L.a3; have z3:=L.z3; have v3:=L.v3; have u3:=run_underlying L.t3; have t9:=L.t9; have a9:=L.a9; have z9:=L.z9; have v9:=L.v9; have u9:=run_underlying L.t9
 go_enter L.f169,Body.n169_ntmps ρ
 go_wp2
 go_region_o
 all_goals (go_wp2; go_ret; exact ⟨rfl,fin⟩)
set_option maxHeartbeats 2000000 in
set_option maxRecDepth 100000 in
theorem Wp (L:Lays.n169 P ρ) (X:Builder.Extra P ρ) {w:World} {b:Nat} {p u:Value} {q:Option Addr} (hb:w.heap[b]?=some (.cells #[p,u] (ρ.t 72) (0,0)))
  (hSD:(Builtin.unsafeSliceData_ #[(ρ.t 37)] (ρ.t 127) #[u]).run P w.drew=.ok (.pointer q) w.drew) {c:Nat} (hu:u=.slice q 0 c):
  Calls P (ρ.f 169) #[.pointer (some ⟨b,0,none⟩)] w fun e w'=>e=.returned (.string ⟨#[]⟩)∧Fr b u.ownBlock w w':=by
 have hUS:=fun W=>Lib.run_unsafeString_none (P:=P) W (ρ.t 127) (ρ.t 3) (ρ.t 9) q
 have fin:Fr b u.ownBlock w w.drew:=⟨Go.RowKit.Below.drew (Go.RowKit.Below.refl 0 w),rk _,fun _ _ _ _=>rfl⟩
 have hbd:w.drew.heap[b]?=some (.cells #[p,u] (ρ.t 72) (0,0)):=hb
 have c1:w.drew.cell? ⟨b,1,none⟩=some u:=by rw [Lib.cell_of_heap hbd]; rfl
 subst hu
 have mixed:=L.mixed; have t5:=X.t5; have a5:=X.a5; have z5:=X.z5; have v5:=X.v5; have u5:=run_underlying X.t5
 have t72:=L.t72; have a72:=L.a72; have z72:=L.z72; have v72:=L.v72; have u72:=run_underlying L.t72; have t70:=L.t70; have a70:=L.a70; have z70:=L.z70; have v70:=L.v70; have u70:=run_underlying L.t70
 have t37:=L.t37; have a37:=L.a37; have z37:=L.z37; have v37:=L.v37; have u37:=run_underlying L.t37; have t127:=L.t127; have a127:=L.a127; have z127:=L.z127; have v127:=L.v127; have u127:=run_underlying L.t127
 have t3:=L.t3; have a3:=L.a3; have z3:=L.z3; have v3:=L.v3; have u3:=run_underlying L.t3; have t9:=L.t9; have a9:=L.a9; have z9:=L.z9; have v9:=L.v9; have u9:=run_underlying L.t9
 go_enter L.f169,Body.n169_ntmps ρ
 go_wp2
 go_region_o
 all_goals (go_wp2; go_ret; exact ⟨rfl,fin⟩)
set_option maxHeartbeats 2000000 in
set_option maxRecDepth 100000 in
theorem akI (L:Lays.n169 P ρ) (X:Builder.Extra P ρ) {w:World} {b g:Nat} {p:Value} {cur:Array Value} (hb:w.heap[b]?=some (.cells #[p,.slice (some ⟨g,0,none⟩) 0 0] (ρ.t 72) (0,0))) (hg:w.heap[g]?=some (.cells cur (ρ.t 5) (0,0))):
  Calls P (ρ.f 169) #[.pointer (some ⟨b,0,none⟩)] w fun e w'=>e=.returned (.string ⟨#[]⟩)∧Fr b (some g) w w':=by
 have hUS:=fun W q=>Lib.run_unsafeString_none (P:=P) W (ρ.t 127) (ρ.t 3) (ρ.t 9) q
 have hlt:b < w.heap.size:=(Array.getElem?_eq_some_iff.1 hb).1
 have c1:w.drew.cell? ⟨b,1,none⟩=some (.slice (some ⟨g,0,none⟩) 0 0):=by
  have:w.drew.heap[b]?=some (.cells #[p,.slice (some ⟨g,0,none⟩) 0 0] (ρ.t 72) (0,0)):=hb
  rw [Lib.cell_of_heap this]; rfl
 have hSD:(Builtin.unsafeSliceData_ #[(ρ.t 37)] (ρ.t 127) #[.slice (some ⟨g,0,none⟩) 0 0]).run P w.drew=.ok (.pointer (some ⟨w.drew.heap.size,0,none⟩)) (w.drew.alloc (.view ⟨g,0,none⟩ (ρ.t 5))):=
  Lib.run_unsafeSliceData_zero w.drew _ _ (ρ.t 5) L.t127 ⟨g,0,none⟩ 0 ((ρ.t 5),cur.size) (by have hg':w.drew.heap[g]?=some (.cells cur (ρ.t 5) (0,0)):=hg; simp [World.shape?,hg'])
 have c2:(w.drew.alloc (.view ⟨g,0,none⟩ (ρ.t 5))).cell? ⟨b,1,none⟩=some (.slice (some ⟨g,0,none⟩) 0 0):=by
  have:(w.drew.alloc (.view ⟨g,0,none⟩ (ρ.t 5))).heap[b]?=_:=(Lib.alloc_old w.drew _ b hlt).trans hb
  rw [Lib.cell_of_heap this]; rfl
 have c3:(w.alloc (.view ⟨g,0,none⟩ (ρ.t 5))).drew.cell? ⟨b,1,none⟩=some (.slice (some ⟨g,0,none⟩) 0 0):=c2
 have c0:w.cell? ⟨b,1,none⟩=some (.slice (some ⟨g,0,none⟩) 0 0):=c1
 have fin:Fr b (some g) w (w.drew.alloc (.view ⟨g,0,none⟩ (ρ.t 5))):=⟨(Go.RowKit.Below.drew (Go.RowKit.Below.refl 0 w)).alloc (iL _) _,rk _,fun k h1 _ _=>Lib.alloc_old w.drew _ k h1⟩
 have mixed:=L.mixed; have t5:=X.t5; have a5:=X.a5; have z5:=X.z5; have v5:=X.v5; have u5:=run_underlying X.t5
 have t72:=L.t72; have a72:=L.a72; have z72:=L.z72; have v72:=L.v72; have u72:=run_underlying L.t72; have t70:=L.t70; have a70:=L.a70; have z70:=L.z70; have v70:=L.v70; have u70:=run_underlying L.t70
 have t37:=L.t37; have a37:=L.a37; have z37:=L.z37; have v37:=L.v37; have u37:=run_underlying L.t37; have t127:=L.t127; have a127:=L.a127; have z127:=L.z127; have v127:=L.v127; have u127:=run_underlying L.t127
 have t3:=L.t3; have a3:=L.a3; have z3:=L.z3; have v3:=L.v3; have u3:=run_underlying L.t3; have t9:=L.t9; have a9:=L.a9; have z9:=L.z9; have v9:=L.v9; have u9:=run_underlying L.t9
 go_enter L.f169,Body.n169_ntmps ρ
 go_wp2
 go_region_o
 all_goals (go_wp2; go_ret; exact ⟨rfl,fin⟩)
theorem Fr.out {b:Nat} {u:Option Nat} {w w':World} {ob ob':OB} (h:Fr b u w w') (ho:∀ g,g=b∨some g=u→g∈blocks ob) (hn:∀ g∈blocks ob',g < w'.heap.size∧(g∈blocks ob∨w.heap.size≤g)) (hd:(blocks ob').Nodup):oW w w' ob ob':=
 ⟨h.below.os,h.below.tape,h.below.output,h.below.size,h.drawn,fun g h1 h2=>h.rest g h1 (fun e=>h2 (ho g (.inl e))) (fun e=>h2 (ho g (.inr e))),hn,hd⟩
theorem strCells_eq (x:List UInt8):Lib.strCells ⟨⟨x⟩⟩=x.map fun c=>Value.int .u8 c.toNat:=rfl
theorem akN (L:Lays.n166 P ρ) (X:Builder.Extra P ρ) (s x:List UInt8) (hlen:s.length+x.length≤140737488355328) (w:World) (B:Nat) (v:Value) (ob:OB) (hBw:B≤w.heap.size) (h:jR w B (ρ.t 72) (ρ.t 5) s v ob):
  Calls P (ρ.f 166) #[v,.string ⟨⟨x⟩⟩] w fun en w'=>∃ rv ob',en=.returned rv∧jR w' B (ρ.t 72) (ρ.t 5) (s++x) v ob'∧oW w w' ob ob':=by
 obtain ⟨b,p,u,rfl,hB,hb,hp,hown,hne,rfl⟩:=h
 have hl:(s.map fun c=>Value.int .u8 c.toNat).length=s.length:=by simp
 have hlt:b < w.heap.size:=by
  rcases kM b w.heap.size with h' | h'
  ·exact h'
  ·simp [tY h'] at hb
 refine (akK L X (s:=⟨⟨x⟩⟩) hB hb hp (by rw [hl]; exact hown) hne (by rw [hl]; exact hlen) hBw).mono ?_
 rintro en w' ⟨⟨rv,rfl⟩,u',h1,h2,h3,h4⟩
 have hu':u'.ownBlock≠some b:=Lib.ownBlock_ne h2 h1 X.neB5
 have hsz:(⟨⟨x⟩⟩:ByteArray).size=x.length:=rfl
 rw [hl,hsz,strCells_eq] at h2
 have ub:∀ g,g∈blocks (bN u' 0)↔u'.ownBlock=some g:=by
  intro g; unfold bN; cases u'.ownBlock<;>simp [eq_comm]
 refine ⟨rv,(b,0)::bN u' 0,rfl,⟨b,_,u',rfl,hB,h1,.inr rfl,by simpa using h2,hu',rfl⟩,h3.out (fun g hg=>?_) (fun g hg=>?_) ?_⟩
 ·rcases hg with rfl | hg
  ·simp
  ·have:g∈blocks (bN u 0):=by unfold bN; rw [←hg]; simp
   simp [this]
 ·rcases (by simpa using hg:g=b∨g∈blocks (bN u' 0)) with rfl | hg
  ·exact ⟨dK hlt h3.below.size,.inl (by simp)⟩
  ·have hg':=(ub g).1 hg
   refine ⟨(h2.lt g hg').2,(h4 g hg').imp (fun e=>?_) id⟩
   have:g∈blocks (bN u 0):=by unfold bN; rw [e]; simp
   simp [this]
 ·have:b∉blocks (bN u' 0):=fun hm=>hu' ((ub b).1 hm)
  have hn:(blocks (bN u' 0)).Nodup:=by unfold bN; cases u'.ownBlock<;>simp
  simpa using ⟨this,hn⟩
theorem akM (L:Lays.n169 P ρ) (X:Builder.Extra P ρ) (s:List UInt8) (h0:s≠[]) (w:World) (B:Nat) (v:Value) (ob:OB) (_:B≤w.heap.size) (h:jR w B (ρ.t 72) (ρ.t 5) s v ob):
  Calls P (ρ.f 169) #[v] w fun en w'=>en=.returned (.string ⟨⟨s⟩⟩)∧oW w w' ob []:=by
 obtain ⟨b,p,u,rfl,hB,hb,hp,hown,hne,rfl⟩:=h
 refine (akJ L X hb hown h0).mono ?_
 rintro en w' ⟨rfl,h3⟩
 refine ⟨rfl,h3.out (fun g hg=>?_) (by simp) (by simp)⟩
 rcases hg with rfl | hg
 ·simp
 ·have:g∈blocks (bN u 0):=by unfold bN; rw [←hg]; simp
  simp [this]
theorem akL (L:Lays.n169 P ρ) (X:Builder.Extra P ρ) (s:List UInt8) (w:World) (B:Nat) (v:Value) (ob:OB) (hBw:B≤w.heap.size) (h:jR w B (ρ.t 72) (ρ.t 5) s v ob):
  Calls P (ρ.f 169) #[v] w fun en w'=>en=.returned (.string ⟨⟨s⟩⟩)∧oW w w' ob []:=by
 by_cases h0:s=[]
 ·subst h0
  obtain ⟨b,p,u,rfl,hB,hb,hp,hown,hne,rfl⟩:=h
  have key:Calls P (ρ.f 169) #[.pointer (some ⟨b,0,none⟩)] w fun e w'=>e=.returned (.string ⟨#[]⟩)∧Fr b u.ownBlock w w':=by
   rcases hown.2 with ⟨rfl,_⟩ | ⟨g,cap,cur,rfl,hbg,hg,_,_,_,_⟩
   ·exact Wp L X (q:=none) (c:=0) hb rfl rfl
   ·by_cases hc0:cap=0
    ·subst hc0; exact akI L X hb hg
    ·exact Wp L X (q:=some ⟨g,0,none⟩) (c:=cap) hb (Lib.run_unsafeSliceData_row _ _ _ _ _ _ hc0) rfl
  refine key.mono ?_
  rintro en w' ⟨rfl,h3⟩
  refine ⟨rfl,h3.out (fun g hg=>?_) (by simp) (by simp)⟩
  rcases hg with rfl | hg
  ·simp
  ·have:g∈blocks (bN u 0):=by unfold bN; rw [←hg]; simp
   simp [this]
 ·exact akM L X s h0 w B v ob hBw h
end
theorem WT {P:Program} {w:World} {G:Nat→Nat→Prop} {es:List E} {vals:List Value}:¬ dQ P w G (.bJ::es) vals:=by
 intro h
 cases h with
 | cons h1 _=>exact h1
end Go.Fw
