/- Soundness, part 5: operands; copies and assignments. -/
import Derived.Test.YtggppceiapjadaaFwS4
set_option linter.unusedVariables false
set_option linter.unusedSimpArgs false
namespace Go.Fw
open Go Go.RowKit

/-! ### Operands -/
def okOd : Operand → Od → Bool
  | .tmp k, .t k' => k == k'
  | .const v, .c T x => (match constV T x with | some vs => eqV T vs v | none => false)
  | .const v, .nil _ _ => eq1 v (.slice none 0 0)
  | .func f, .fn g _ _ => f == g
  | _, _ => false

def obOd (ob : Nat → OB) : Od → OB | .t k => ob k | _ => []

section
variable {P : Program} {B : Nat} {G0 : Nat → Nat → Prop} {W0 : World} {n : Nat} {env : Env} {a : Act} {w : World} {ob : Nat → OB}

theorem ent_rep {x : Operand} {y : Od} (hC : Conc P B G0 W0 n env a.tmps w ob) (h : okOd x y = true) : ERep P w (Gd B G0 ob) B a.tmps env (ent env y) (a.eval x) (obOd ob y) := by
  unfold okOd at h
  split at h
  · rename_i k k'
    rw [beq_iff_eq] at h; subst h
    exact hC.rep k
  · rename_i v T x
    split at h
    · rename_i vs hvs
      exact ⟨rfl, vs, constV_flat P T w _ B .no (constV_flat.annOk_no T) hvs, eqV_eq h⟩
    · exact absurd h (by simp)
  · rename_i v e T
    have := eq1_eq h
    subst this
    show Flat P (.sl T) w _ B (.own true e .no) [] [_] _
    unfold Flat
    exact ⟨_, [], [], rfl, rowX_of (World.ownsRow_nil _ _ _ _), ⟨rfl, rfl⟩, rfl⟩
  · rename_i f g A C
    rw [beq_iff_eq] at h; subst h
    exact ⟨rfl, #[], rfl, rfl, rfl⟩
  · exact absurd h (by simp)

/-- a copy of an entry -/
theorem copy_rep {x : Operand} {y : Od} (hC : Conc P B G0 W0 n env a.tmps w ob) (h : okOd x y = true) : ERep P w (Gd B G0 ob) B a.tmps env (copyE y (ent env y)) (a.eval x) [] ∨ (∃ v e T o xs, copyE y (ent env y) = .own v e T o xs ∧ obOd ob y = [] ∧ xs = [] ∧ a.eval x = .slice none 0 0) := by
  have hr := ent_rep hC h
  cases y with
  | t k =>
    left
    simp only [ent, obOd] at hr ⊢
    have hx : a.eval x = a.tmps.getD k undef := by
      unfold okOd at h
      split at h <;> first | (rename_i k1 k2 _ hh; cases hh; rw [beq_iff_eq] at h; subst h; rfl) | skip
      all_goals first | (rename_i hh; cases hh; done) | (exact absurd h (by simp)) | skip
    cases he : look env k with
    | dead => rw [he] at hr; exact rfl
    | und => rw [he] at hr; exact ⟨hr.1, rfl⟩
    | v T x => rw [he] at hr; exact ⟨rfl, hr.2⟩
    | own wr e T o xs =>
      refine ⟨rfl, ?_, ?_⟩
      · simp only [headAt, he]; rw [hx]
      · simp [heldAt, he]
    | loc T o x =>
      rw [he] at hr
      obtain ⟨b, cur, e, ob', h1, _⟩ := hr
      refine ⟨rfl, T, o, x, b, he, by rw [← hx]; exact h1, ?_, ?_⟩
      · cases T <;> rfl
      · rw [h1]; cases T <;> rfl
    | ref s p => rw [he] at hr; exact ⟨rfl, hr.2⟩
    | ptr s p => rw [he] at hr; exact ⟨rfl, hr.2⟩
    | ptre s p i q => rw [he] at hr; exact ⟨rfl, hr.2⟩
    | «at» T x => rw [he] at hr; exact ⟨rfl, hr.2⟩
    | tup es => exact rfl
    | it s pos => exact rfl
    | nw T o x => rw [he] at hr; exact ⟨rfl, hr.2⟩
    | clo f A C caps => rw [he] at hr; exact ⟨rfl, hr.2⟩
  | c T x => left; exact hr
  | nil e T =>
    right
    refine ⟨true, e, T, .no, [], rfl, rfl, rfl, ?_⟩
    unfold okOd at h
    split at h <;> first | (rename_i hh; cases hh; exact eq1_eq h) | (rename_i hh; cases hh; done) | (exact absurd h (by simp)) | skip
  | fn f A C => left; exact hr

/-! ### What is left to show of an operation -/
def KOk (P : Program) (B : Nat) (G0 : Nat → Nat → Prop) (W0 : World) (n : Nat) (a : Act) {R : Type} (K : Kont R) (r : R) (next : Act → World → Prop) : Prop :=
  ∀ env' tm' w' ob', Conc P B G0 W0 n env' tm' w' ob' → K env' = some r → next { a with tmps := tm' } w'

theorem put_tmps (a : Act) (d : Option Tmp) (v : Value) : ({ a with tmps := (a.put d v).tmps } : Act) = a.put d v := by cases d <;> rfl

theorem wp_value {o : Oper} {next : Act → World → Prop} {Q : Exit → Act → World → Prop} {v : Value} {w' : World} (hrun : (execOp a.eval o).run P w = .ok (.value v) w') (h : next (a.put o.dst v) w') : o.wp P a w next Q := by
  unfold Oper.wp; rw [hrun]; exact h

theorem wp_unit {o : Oper} {next : Act → World → Prop} {Q : Exit → Act → World → Prop} {w' : World} (hrun : (execOp a.eval o).run P w = .ok .skip w') (h : next (a.put o.dst undef) w') : o.wp P a w next Q := by
  unfold Oper.wp; rw [hrun]; exact h

variable {R : Type} {K : Kont R} {r : R} {next : Act → World → Prop}

theorem fin0 (hC : Conc P B G0 W0 n env a.tmps w ob) (hK : KOk P B G0 W0 n a K r next) {d : Option Nat} {e : E} {v : Value} {w' : World} (hd : ∀ k, d = some k → k < n) (hg : Grows w w')
    (hr : ERep P w (Gd B G0 ob) B a.tmps env e v []) (hk : K (putO env d e) = some r) : next (a.put d v) w' := by
  obtain ⟨ob', h⟩ := Conc.putO hC hd hg hr a rfl
  have := hK _ _ _ _ h hk
  rwa [put_tmps] at this

/-- a held empty slice of no block -/
theorem fin_nil (hC : Conc P B G0 W0 n env a.tmps w ob) (hK : KOk P B G0 W0 n a K r next) {d : Option Nat} {wr : Bool} {e : TypeId} {T : Ty} {o : Ann} (hd : ∀ k, d = some k → k < n)
    (hk : K (putO env d (.own wr e T o [])) = some r) : next (a.put d (.slice none 0 0)) w := by
  cases d with
  | none =>
    have := hK _ _ _ _ hC hk
    exact this
  | some k =>
    have h := Conc.putG (e := .own wr e T o []) (v := .slice none 0 0) (bk := []) hC (hd k rfl) (Grows.refl w) ?_ (by simp) (by simp)
    · have := hK _ _ _ _ h hk
      exact this
    · rw [if_neg (by simp [leads])]
      show Flat P (.sl T) w _ B (.own wr e o) [] [_] _
      unfold Flat
      exact ⟨_, [], [], rfl, rowX_of (World.ownsRow_nil _ _ _ _), ⟨rfl, rfl⟩, rfl⟩

/-- a copy goes into a slot -/
theorem fin_copy (hC : Conc P B G0 W0 n env a.tmps w ob) (hK : KOk P B G0 W0 n a K r next) {d : Option Nat} {x : Operand} {y : Od} (hx : okOd x y = true) (hd : ∀ k, d = some k → k < n)
    (hk : K (putO env d (copyE y (ent env y))) = some r) : next (a.put d (a.eval x)) w := by
  rcases copy_rep hC hx with h | ⟨wr, e, T, o, xs, h1, _, rfl, h4⟩
  · exact fin0 hC hK hd (Grows.refl w) h hk
  · rw [h1] at hk
    rw [h4]
    exact fin_nil hC hK hd hk

end
end Go.Fw
