/- slices.Reverse of whole numbers: what is known of it, as the machine's. -/
import Derived.Test.YtooiookccchmeaaGreatFwB6
import Derived.Shelf.Slices.Reverse
set_option linter.unusedVariables false
set_option linter.unusedSimpArgs false
open Array renaming getElem?_toList → jd
open List renaming getElem?_take_of_lt → uj, getElem?_map → lj, getElem?_eq_none → DH
namespace Go.Fw
open Go Go.RowKit Go.Shelf Go.Proofs
theorem atm {P:Program} {w:World} {G:Nat→Nat→Prop} {es:List E} {vals:List Value}:¬ dQ P w G (.bJ::es) vals:=by
 intro h
 cases h with
 | cons h1 _=>exact h1
theorem Ug {P:Program} {w:World} {G:Nat→Nat→Prop} {B:Nat} {k:IntKind}:∀ {xs:List Int} {vs:List Value},aL (Flat P (.int k) w G B .no) xs vs []→vs=xs.map (Value.int k)∧∀ x∈xs,fT k x
 | [],_,h=>⟨h.1,by simp⟩
 | x::xs,_,h=>by
   obtain ⟨v1,v2,b1,b2,rfl,hb,h1,h2⟩:=h
   obtain ⟨rfl,rfl⟩:b1=[]∧b2=[]:=by
    have:b1++b2=[]:=hb.symm
    simpa using this
   unfold Flat at h1
   obtain ⟨rfl,hr,_⟩:=h1
   obtain ⟨rfl,ih⟩:=Ug h2
   exact ⟨rfl,fun y hy=>by
    rcases List.mem_cons.1 hy with rfl | hy
    ·exact hr
    ·exact ih y hy⟩
theorem Uf {P:Program} {w:World} {G:Nat→Nat→Prop} {B:Nat} {k:IntKind}:∀ {xs:List Int},(∀ x∈xs,fT k x)→aL (Flat P (.int k) w G B .no) xs (xs.map (Value.int k)) []
 | [],_=>⟨rfl,rfl⟩
 | x::xs,h=>⟨[.int k x],xs.map (Value.int k),[],[],rfl,rfl,by unfold Flat; exact ⟨rfl,h x (by simp),rfl⟩,Uf fun y hy=>h y (by simp [hy])⟩
theorem Wa {α:Type} [Inhabited α] (enc:α→Value) (w:World) {g:Nat} {cur:Array Value} {e:TypeId} {fz:Nat×Nat} (hg:w.heap[g]?=some (.cells cur e fz)) (d:Array α):Sort.putRow enc w g 0 d=w.setRow g (Sort.putCells enc 0 d cur):=by
 unfold Sort.putRow Sort.mapBlock World.setRow
 congr 1
 apply Array.ext_getElem?
 intro k
 simp only [Array.getElem?_modify]
 by_cases hk:g=k
 ·subst hk
  simp [hg,Sort.onCells]
 ·simp [hk]
theorem VZ {α:Type} [Inhabited α] (enc:α→Value) (d:Array α) (c:Array Value) (h:d.size≤c.size):(Sort.putCells enc 0 d c).toList.take d.size=d.toList.map enc:=by
 apply List.ext_getElem?
 intro k
 by_cases hk:k < d.size
 ·rw [uj hk]
  simp only [jd,Sort.putCells,Array.getElem?_mapIdx,lj]
  rw [Array.getElem?_eq_getElem (by omega:k < c.size),Array.getElem?_eq_getElem hk]
  simp [hk]
 ·rw [DH (by simp; omega),DH (by simp; omega)]
theorem atl {P:Program} {ρ:Ren} (L:Lays.n112 P ρ) (hc:fi P (ρ.f 112)) {e:TypeId} {T:Ty} {xs:List (den T)} {a b:List Int} {res:List E} (hu:[E.bJ,.own true e T .no xs]=[.bJ,.own true (ρ.t 3) (.int .i64) .no a])
  (hb:(if a.length≤9223372036854775807 then some a.reverse else none)=some b) (h:some [E.own true (ρ.t 3) (.int .i64) .no b]=some res):
  ∃ ys:List (den T),res=[.own true e T .no ys]∧ys.length=xs.length∧fi P (ρ.f 112)∧
  ∀ (w:World) (B:Nat) (G:Nat→Nat→Prop) (v:Value) (cells:List Value),e≠gV→gk w B e (ay T) v xs.length cells→aL (Flat P T w G B .no) xs cells []→
    Calls P (ρ.f 112) #[v] w fun en w'=>en=.returned (.tuple #[])∧∃ cells',cells'.length=cells.length∧aL (Flat P T w G B .no) ys cells' []∧DW w w' v (xs.length * ay T) cells':=by
 cases hu
 cases h
 split at hb
 case isFalse=>cases hb
 rename_i hlen
 cases hb
 refine ⟨a.reverse,rfl,by simp,hc,fun w B G v cells hbuf hrow hel=>?_⟩
 obtain ⟨rfl,hin⟩:=Ug hel
 have hin':∀ x∈a.reverse,fT .i64 x:=fun x hx=>hin x (List.mem_reverse.1 hx)
 have h1:ay (.int .i64)=1:=rfl
 rcases hrow.2 with ⟨rfl,hn⟩ | ⟨g,cap,cur,e',fz,rfl,hBg,hg,hnc,hcm,hcs,htake,hbf,hfz⟩
 ·obtain rfl:a=[]:=List.length_eq_zero_iff.1 hn
  refine (Any.slices_Reverse_int_empty L none 0 w).mono ?_
  rintro en w' ⟨rfl,rfl⟩
  exact ⟨rfl,[],rfl,⟨rfl,rfl⟩,.inl ⟨rfl,aO.refl _,rfl⟩⟩
 ·obtain ⟨rfl,rfl⟩:=hbf hbuf
  rw [h1,Nat.mul_one] at htake
  have hcl:a.length≤cur.size:=by
   have:=congrArg List.length htake
   simp at this
   omega
  have hH:Sort.Holds (Value.int .i64) w g 0 a.toArray:=by
   intro j hj
   have hj':j < a.length:=by simpa using hj
   refine ⟨?_,?_⟩
   ·rw [Nat.zero_add,cell_of_row w g j cur _ (0,0) hg,←jd]
    have:=congrArg (fun l=>l[j]?) htake
    simp only [uj hj',lj] at this
    rw [this,List.getElem?_eq_getElem hj']
    simp [hj']
   ·simp [World.frozen?,hg]
  refine (Any.slices_Reverse_int L g 0 cap a w hH hlen).mono ?_
  rintro en w' ⟨rfl,n,rfl⟩
  have hg2:(Sort.ahead w n).heap[g]?=some (.cells cur (ρ.t 3) (0,0)):=hg
  refine ⟨rfl,a.reverse.map (Value.int .i64),by simp,Uf hin',.inr ⟨g,cur,_,(0,0),_,Sort.ahead w n,rfl,hg,⟨rfl,rfl,rfl,Nat.le_refl _,fun _ _=>rfl,Nat.le_add_right _ _⟩,Wa _ _ hg2 _,?_,?_⟩⟩
  ·simp [Sort.putCells]
  ·have:=VZ (Value.int .i64) a.reverse.toArray cur (by simpa using hcl)
   simpa [h1] using this
end Go.Fw
