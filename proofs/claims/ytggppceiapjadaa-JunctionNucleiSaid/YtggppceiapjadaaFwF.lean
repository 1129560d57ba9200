/- Facts of closed calls, so that a call is run piece by piece. -/
import Derived.Test.YtggppceiapjadaaFwP
set_option linter.unusedVariables false
set_option linter.unusedSimpArgs false
namespace Go.Fw
open Go Go.RowKit

def eqLF {α : Type} (f : α → α → Bool) : List α → List α → Bool
  | [], [] => true
  | x :: xs, y :: ys => f x y && eqLF f xs ys
  | _, _ => false

theorem eqLF_eq {α : Type} {f : α → α → Bool} (h : ∀ x y, f x y = true → x = y) : ∀ {xs ys : List α}, eqLF f xs ys = true → xs = ys
  | [], [], _ => rfl
  | x :: xs, y :: ys, e => by
    simp only [eqLF, Bool.and_eq_true] at e
    rw [h x y e.1, eqLF_eq h e.2]
  | [], _ :: _, e => by simp [eqLF] at e
  | _ :: _, [], e => by simp [eqLF] at e

def eqVF : (T : Ty) → den T → den T → Bool
  | .int _ => fun x y => @decide (x = y) (Int.instDecidableEq x y)
  | .bool => fun x y => match x, y with | true, true => true | false, false => true | _, _ => false
  | .str => eqLF fun x y => @decide (x.toNat = y.toNat) (Nat.decEq _ _)
  | .unit => fun _ _ => true
  | .pair A B => fun x y => eqVF A x.1 y.1 && eqVF B x.2 y.2
  | .sl T => eqLF (eqVF T)
  | .arr _ T => eqLF (eqVF T)
  | .fn _ _ => fun _ _ => false

theorem eqVF_eq : ∀ (T : Ty) (x y : den T), eqVF T x y = true → x = y
  | .int _, x, y, h => of_decide_eq_true h
  | .bool, x, y, h => by cases x <;> cases y <;> first | rfl | (simp [eqVF] at h; done)
  | .str, x, y, h => eqLF_eq (fun a b h => by
      have := of_decide_eq_true h
      exact UInt8.toNat_inj.1 this) h
  | .unit, x, y, _ => rfl
  | .pair A B, x, y, h => by
    simp only [eqVF, Bool.and_eq_true] at h
    exact Prod.ext (eqVF_eq A _ _ h.1) (eqVF_eq B _ _ h.2)
  | .sl T, x, y, h => eqLF_eq (eqVF_eq T) h
  | .arr _ T, x, y, h => eqLF_eq (eqVF_eq T) h
  | .fn _ _, x, y, h => by simp [eqVF] at h

def eqTV (x y : TV) : Bool := if h : x.1 = y.1 then eqVF y.1 (h ▸ x.2) y.2 else false
theorem eqTV_eq {x y : TV} (h : eqTV x y = true) : x = y := by
  obtain ⟨T, x⟩ := x; obtain ⟨T', y⟩ := y
  unfold eqTV at h
  split at h
  · rename_i e
    simp only at e
    subst e
    have h' : eqVF T x y = true := h
    rw [eqVF_eq _ _ _ h']
  · cases h

def eqE : E → E → Bool
  | .v T x, .v T' y => eqTV ⟨T, x⟩ ⟨T', y⟩
  | .at T x, .at T' y => eqTV ⟨T, x⟩ ⟨T', y⟩
  | _, _ => false

theorem eqE_eq (a b : E) (h : eqE a b = true) : a = b := by
  unfold eqE at h
  split at h
  · have := eqTV_eq h; cases this; rfl
  · have := eqTV_eq h; cases this; rfl
  · cases h

abbrev Fact := FuncId × List E × List E

def lookF : List Fact → FuncId → List E → Option (List E)
  | [], _, _ => none
  | (g, as, rs) :: r, f, es => match Nat.decEq g f with
    | .isTrue _ => (match eqLF eqE as es with | true => some rs | false => lookF r f es)
    | .isFalse _ => lookF r f es

theorem lookF_mem : ∀ {fs : List Fact} {f : FuncId} {es rs : List E}, lookF fs f es = some rs → (f, es, rs) ∈ fs
  | [], _, _, _, h => by simp [lookF] at h
  | (g, as, rs') :: r, f, es, rs, h => by
    simp only [lookF] at h
    split at h
    · rename_i hg _
      split at h
      · rename_i he
        simp only [Option.some.injEq] at h
        subst h; subst hg
        rw [eqLF_eq eqE_eq he]
        exact List.mem_cons_self ..
      · exact List.mem_cons_of_mem _ (lookF_mem h)
    · exact List.mem_cons_of_mem _ (lookF_mem h)

/-- what calls answer, with facts looked up ahead -/
def withF (fs : List Fact) (cl : Cal) : Cal := ⟨fun f es => match lookF fs f es with | some rs => some rs | none => cl.run f es, fun f es k => match lookF fs f es with | some rs => k rs | none => cl.runK f es k, fun f es k => by
  split
  · rfl
  · exact cl.eqn f es k⟩

def allF (cl : Cal) : List Fact → Prop
  | [] => True
  | q :: r => cl.run q.1 q.2.1 = some q.2.2 ∧ allF cl r

theorem allF_mem {cl : Cal} : ∀ {fs : List Fact}, allF cl fs → ∀ q ∈ fs, cl.run q.1 q.2.1 = some q.2.2
  | [], _, q, hq => by simp at hq
  | p :: r, h, q, hq => by
    rcases List.mem_cons.1 hq with rfl | hq
    · exact h.1
    · exact allF_mem h.2 q hq

theorem withF_eq {fs : List Fact} {cl : Cal} (h : allF cl fs) : withF fs cl = cl := by
  apply Cal.ext'
  intro f es
  show (match lookF fs f es with | some rs => some rs | none => cl.run f es) = cl.run f es
  split
  · rename_i rs hl
    exact (allF_mem h _ (lookF_mem hl)).symm
  · rfl

theorem fact_of {tb : Table} {pr : Prims} {N D : Nat} {f : FuncId} {fd : FD} {es res : List E} (fs : List Fact) (h1 : pr f = none) (h2 : tb f = some fd) (h3 : es.length = fd.nargs) (hf : allF (acall tb pr N D) fs)
    (hk : exec (withF fs (acall tb pr N D)) N fd.body (params 0 es) (retK fd) = some res) : (acall tb pr N (D + 1)).run f es = some res := by
  have := acall_succ (tb := tb) (pr := pr) (N := N) (D := D) (f := f) (es := es) h1 h2 h3
  rw [withF_eq hf] at hk
  exact this.trans hk

end Go.Fw
