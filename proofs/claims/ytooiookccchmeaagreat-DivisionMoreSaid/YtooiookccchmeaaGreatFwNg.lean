/- slices.Grow of a nil slice: what is known of it, as the machine's. -/
import Derived.Test.YtooiookccchmeaaGreatFwB6
import Derived.Shelf.Spec.SlicesGrow
set_option linter.unusedVariables false
set_option linter.unusedSimpArgs false
open Bool renaming and_eq_true → au
open Nat renaming le_refl → cE
namespace Go.Fw
open Go Go.RowKit Go.Shelf Go.Proofs
theorem Zz {P:Program} {ρ:Ren} (L:Lays8.n4 P ρ) {T:Ty} {lim:Nat} {i0:TypeInfo} {z:Value} (hi0:P.info? (ρ.t 25)=some i0) (hz0:i0.zero=some z) (hs0:0 < i0.size) (hzs:z.cells.size=i0.size) (hT:i0.size=ay T) (hN:ej T=true)
  (hlim:lim * i0.bytes≤140737488355328) (h62:lim≤4611686018427387904) (hc:fi P (ρ.f 4))
  (n:Int) (hn:0≤n∧n≤(lim:Int)) (w:World) (G:Nat→Nat→Prop) (vals:List Value) (hA:dQ P w G [.dead,.v (.int .i64) n] vals):
  fi P (ρ.f 4)∧Calls P (ρ.f 4) vals.toArray w fun en w'=>∃ v rob,en=.returned v∧Below w.heap.size w w'∧ke P w w' G [.own true (ρ.t 25) T .no []] v rob:=by
 cases hA with
 | cons h1 hA=>
   cases hA with
   | cons h2 hA=>
     cases hA
     obtain ⟨v2,f2,rfl⟩:=h2
     unfold Flat at f2
     obtain ⟨rfl,_,_⟩:=f2
     have h1:_=Value.slice none 0 0:=h1
     subst h1
     refine ⟨hc,?_⟩
     obtain ⟨m,rfl⟩:∃ m:Nat,n=(m:Int):=⟨n.toNat,by omega⟩
     have hml:m≤lim:=by omega
     by_cases h0:m=0
     ·subst h0
      refine (Any8.slices_Grow_room L none 0 0 0 w (by omega) (by omega) (by omega) (by omega)).mono fun en w' ⟨he,hw⟩=>?_
      subst hw
      refine ⟨_,[],he,Below.refl _ _,⟨?_,by simp [E.back,hN,ax.pure],by simp [blocks],by simp [blocks]⟩⟩
      show Flat P (.sl T) _ _ _ (.own true (ρ.t 25) .no) [] [_] []
      unfold Flat
      exact ⟨_,[],[],rfl,⟨by simp,.inl ⟨rfl,rfl⟩⟩,⟨rfl,rfl⟩,by simp [bN,Value.ownBlock]⟩
     ·have hb:(0+m) * i0.bytes≤140737488355328:=by
       rw [Nat.zero_add]; exact Nat.le_trans (Nat.mul_le_mul_right _ hml) hlim
      refine (Any8.slices_Grow_grow L i0 z hi0 hz0 hs0 none 0 0 m [] w (by omega) (by omega) hb (by omega) (by simp) (fun _=>rfl) (by simp)).mono fun en w' ⟨he,hw⟩=>?_
      have hge:=grownCap_ge w (0+m) 0 (ρ.t 25)
      have hle:=grownCap_le_maxLen w (0+m) 0 (ρ.t 25) (by unfold maxLen; omega)
      generalize grownCap w (0+m) 0 (ρ.t 25)=cap at *
      subst hw
      have hbel:Below w.heap.size w (w.drew.alloc (.cells ((#[]:Array Value)++Builtin.zeroCells z.cells (0+m - 0)++Builtin.zeroCells z.cells (cap - (0+m))) (ρ.t 25))):=(((aO.drew w).trans (aO.alloc _ _)).below (cE _))
      refine ⟨_,[(w.heap.size,0)],he,hbel,⟨?_,by simp [E.back,hN,ax.pure],by simp [blocks],?_⟩⟩
      ·show Flat P (.sl T) _ _ _ (.own true (ρ.t 25) .no) [] [_] [(w.heap.size,0)]
       unfold Flat
       refine ⟨_,[],[],rfl,⟨by simp,.inr ⟨w.heap.size,cap,(#[]:Array Value)++Builtin.zeroCells z.cells (0+m - 0)++Builtin.zeroCells z.cells (cap - (0+m)),ρ.t 25,(0,0),rfl,cE _,?_,Nat.zero_le _,hle,?_,by simp,fun _=>⟨rfl,rfl⟩,.inl rfl⟩⟩,⟨rfl,rfl⟩,by simp [bN,Value.ownBlock]⟩
       ·exact heap_alloc_new w.drew _
       ·rw [←hT]
        simp only [Array.size_append,size_zeroCells,hzs]
        have:0+m - 0+(cap - (0+m))=cap:=by omega
        rw [show (#[]:Array Value).size=0 from rfl,Nat.zero_add,←Nat.add_mul,this]
      ·intro b hb
       simp only [blocks,List.map_cons,List.map_nil,List.mem_singleton] at hb
       subst hb
       refine ⟨cE _,?_⟩
       show w.heap.size < (w.drew.alloc _).heap.size
       have:w.drew.heap.size=w.heap.size:=rfl
       simp [World.alloc,this]
def TJ (P:Program) (t:TypeId) (T:Ty) (lim:Nat):Bool:=ej T&&decide (lim≤4611686018427387904)&&match P.info? t with
 | some i=>(match i.zero with
   | some z=>decide (0 < i.size)&&z.cells.size==i.size&&i.size==ay T&&decide (lim * i.bytes≤140737488355328)
   | none=>false)
 | none=>false
theorem ZA {P:Program} {ρ:Ren} (L:Lays8.n4 P ρ) {T:Ty} {lim:Nat} (h:TJ P (ρ.t 25) T lim=true) (hc:fi P (ρ.f 4))
  (n:Int) (hn:0≤n∧n≤(lim:Int)) (w:World) (G:Nat→Nat→Prop) (vals:List Value) (hA:dQ P w G [.dead,.v (.int .i64) n] vals):
  fi P (ρ.f 4)∧Calls P (ρ.f 4) vals.toArray w fun en w'=>∃ v rob,en=.returned v∧Below w.heap.size w w'∧ke P w w' G [.own true (ρ.t 25) T .no []] v rob:=by
 unfold TJ at h
 simp only [au,decide_eq_true_eq] at h
 obtain ⟨⟨h1,h2⟩,h3⟩:=h
 split at h3
 ·rename_i i hi
  split at h3
  ·rename_i z hz
   simp only [au,decide_eq_true_eq,beq_iff_eq] at h3
   obtain ⟨⟨⟨k1,k2⟩,k3⟩,k4⟩:=h3
   exact Zz L hi hz k1 k2 k3 h1 k4 h2 hc n hn w G vals hA
  ·cases h3
 ·cases h3
end Go.Fw
