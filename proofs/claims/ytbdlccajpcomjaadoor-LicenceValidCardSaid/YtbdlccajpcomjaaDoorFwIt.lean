/- A number's text (strconv.Itoa): what is known of it, as the machine's. -/
import Derived.Test.YtbdlccajpcomjaaDoorFwB6
import Derived.Shelf.Strconv.Itoa3
import Derived.Lib.ItoaLen
set_option linter.unusedVariables false
set_option linter.unusedSimpArgs false
namespace Go.Fw
open Go Go.RowKit Go.Proofs Go.Shelf
theorem aom {P : Program} {ρ : Ren} (L : LaysM.n171 P ρ) (hc : gS P (ρ.f 171)) (n : Int) (w : World) (G : Nat → Nat → Prop) (vals : List Value) (htab : Lib.TabIs P w "internal/strconv.uint64pow10" .u64 Lib.pow10Tab)
  (hA:dW P w G [.v (.int .i64) n] vals):gS P (ρ.f 171)∧Calls P (ρ.f 171) vals.toArray w fun en w'=>∃ v rob,en=.returned v∧Below w.heap.size w w'∧lK P w w' G [.v .str (Lib.itoa n)] v rob:=by
 cases hA with
 | cons h1 hA=>
   cases hA
   obtain ⟨v1,f1,rfl⟩:=h1
   unfold Flat at f1
   obtain ⟨rfl,hr,_⟩:=f1
   have hr2: -9223372036854775808≤n∧n≤9223372036854775807:=hr
   refine ⟨hc,(Any.strconv_Itoa L n hr2.1 hr2.2 w htab).mono fun en w' ⟨he,k,os,hw⟩=>?_⟩
   subst hw
   refine ⟨_,[],he,⟨rfl,rfl,rfl,by show w.heap.size≤(w.heap++os).size; rw [Array.size_append]; omega,fun j hj=>by show (w.heap++os)[j]?=_; rw [Array.getElem?_append_left hj]⟩,⟨?_,rfl,by simp,by simp⟩⟩
   refine ⟨rfl,[.string ⟨⟨Lib.itoa n⟩⟩],?_,rfl⟩
   unfold Flat
   have:=Lib.itoa_length_le n hr2.1 hr2.2
   exact ⟨rfl,by unfold maxLen; omega,rfl⟩
theorem aMB {P:Program} {W:World} {name:String} {k:IntKind} {zs:List Int} {g:Nat} (hg:P.globalNamed name=some g) (hT:Lib.TabIs P W name k zs):∃ t:gp,t.ok W∧∀ w,t.ok w→Lib.TabIs P w name k zs:=by
 have hv:∀ w:World,w.var? P name=match w.heap[g]? with | some (.cells cs _ _)=>some cs | _=>none:=by
  intro w; unfold World.var?; rw [hg]; rfl
 unfold Lib.TabIs at hT ⊢
 rw [hv] at hT
 have hlt:g < W.heap.size:=by
  rcases Nat.lt_or_ge g W.heap.size with h | h
  ·exact h
  ·rw [Array.getElem?_eq_none h] at hT; cases hT
 refine ⟨⟨g+1,fun b o=>b=g∧W.heap[g]?=some o,fun b o h=>by omega⟩,⟨hlt,fun b o h=>by rw [h.1]; exact h.2⟩,fun w h=>?_⟩
 rw [hv,h.at_ g _ ⟨rfl,Array.getElem?_eq_getElem hlt⟩,←Array.getElem?_eq_getElem hlt]
 exact hT
end Go.Fw
