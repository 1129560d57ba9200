/- Soundness, part 22: regions, code. -/
import Derived.Test.YtggppceiapjadaaFwS21
set_option linter.unusedVariables false
set_option linter.unusedSimpArgs false
namespace Go.Fw
open Go Go.RowKit

def okGuard (ops : Array Oper) : Option (Nat × Bool) → Option (Nat × Bool) → Bool
  | none, none => true
  | some (j, b), some (s, b') => b == b' && (match ops[j]? with | some o => decide (o.dst = some s) | none => false)
  | _, _ => false

def okOps (P : Program) (n : Nat) (ops : Array Oper) : Nat → List AI → Bool
  | j, [] => j == ops.size
  | j, i :: r => (match ops[j]? with | some o => okGuard ops o.guard i.guard && okAI P n o i | none => false) && okOps P n ops (j + 1) r

section
variable {P : Program} {B : Nat} {G0 : Nat → Nat → Prop} {W0 : World} {n : Nat} {env env' : Env} {tm : Array Value} {a : Act} {w : World} {ob : Nat → OB} {cl : Cal}
variable {R : Type} {r : R} {Q : Exit → Act → World → Prop}

theorem Conc.ext (hC : Conc P B G0 W0 n env tm w ob) (h : ∀ k, look env' k = look env k) : ∃ ob', Conc P B G0 W0 n env' tm w ob' := Conc.forget hC (fun k => .inl (h k))

theorem Conc.keep (hC : Conc P B G0 W0 n env tm w ob) (live : List Nat) : ∃ ob', Conc P B G0 W0 n (Fw.keep live env) tm w ob' := by
  refine Conc.forget hC (fun k => ?_)
  rw [look_keep]
  have gone : ∀ j, leads k (look (Fw.keep live env) j) = true → k ∈ live ∧ (look env k).home = true := by
    intro j hj
    rw [look_keep] at hj
    split at hj
    · rcases keepE_or live (look env j) with ⟨h1, h2⟩ | h1
      · rw [h1] at hj; exact ⟨h2 k hj, (ERep.leads hj (hC.rep j)).1⟩
      · rw [h1] at hj; simp [leads] at hj
    · simp [leads] at hj
  by_cases hk : k ∈ live
  · rw [if_pos hk]
    rcases keepE_or live (look env k) with ⟨h1, _⟩ | h1
    · exact .inl h1
    · by_cases hh : (look env k).home = true
      · left
        have : ledTo (look env k) = [] := by
          cases he : look env k <;> rw [he] at hh <;> first | rfl | (exfalso; simp [E.home] at hh; done)
        unfold keepE; rw [this]; rfl
      · exact .inr ⟨h1, fun j hj => hh (gone j hj).2⟩
  · rw [if_neg hk]
    exact .inr ⟨rfl, fun j hj => hk (gone j hj).1⟩

theorem kept (hC : Conc P B G0 W0 n env a.tmps w ob) {o : Oper} {j : Nat} {ops : Array Oper} {s : Nat} {b : Bool} (hj : ops[j]? = some o) (hd : o.dst = some s) (hs : look env s = .v .bool b) : yielded ops a.tmps j = some b := by
  have hr := hC.rep s
  rw [hs] at hr
  obtain ⟨_, vs, h1, h2⟩ := hr
  unfold Flat at h1
  obtain ⟨rfl, _⟩ := h1
  have h3 : a.tmps.getD s undef = .bool b := h2
  unfold yielded
  simp only [hj, Option.bind_some, hd]
  cases h4 : a.tmps[s]? with
  | none =>
    have : a.tmps.getD s undef = undef := by simp [Array.getD_eq_getD_getElem?, h4]
    rw [this] at h3; exact absurd h3 (by simp [undef])
  | some v =>
    have : a.tmps.getD s undef = v := by simp [Array.getD_eq_getD_getElem?, h4]
    rw [this] at h3; subst h3; rfl

theorem kept_und (hC : Conc P B G0 W0 n env a.tmps w ob) {o : Oper} {j : Nat} {ops : Array Oper} {s : Nat} (hj : ops[j]? = some o) (hd : o.dst = some s) (hs : look env s = .und) : yielded ops a.tmps j = none := by
  have hr := hC.rep s
  rw [hs] at hr
  have h3 : a.tmps.getD s undef = undef := hr.1
  unfold yielded
  simp only [hj, Option.bind_some, hd]
  cases h4 : a.tmps[s]? with
  | none => rfl
  | some v =>
    have : a.tmps.getD s undef = v := by simp [Array.getD_eq_getD_getElem?, h4]
    rw [this] at h3; subst h3; rfl

theorem ops_sound {K : Kont R} (hgood : Good P cl) {ops : Array Oper} : ∀ (l : List AI) (j : Nat) (env : Env) (a : Act) (w : World) (ob : Nat → OB), okOps P n ops j l = true → Conc P B G0 W0 n env a.tmps w ob → Fw.ops cl l env K = some r →
    KOk P B G0 W0 n a K r (fun a' w' => Q .normal a' w') → wpOps P ops Q (List.range' j (ops.size - j)) a w
  | [], j, env, a, w, ob, hok, hC, h, hK => by
    simp only [okOps, beq_iff_eq] at hok
    rw [hok, Nat.sub_self]
    have := hK env a.tmps w ob hC h
    exact this
  | i :: l, j, env, a, w, ob, hok, hC, h, hK => by
    simp only [okOps, Bool.and_eq_true] at hok
    obtain ⟨h1, h2⟩ := hok
    split at h1
    case h_2 => simp at h1
    rename_i o hj
    simp only [Bool.and_eq_true] at h1
    obtain ⟨hg, hai⟩ := h1
    have hlt : j < ops.size := (Array.getElem?_eq_some_iff.1 hj).1
    have hr : List.range' j (ops.size - j) = j :: List.range' (j + 1) (ops.size - (j + 1)) := by
      rw [show ops.size - j = (ops.size - (j + 1)) + 1 by omega, List.range'_succ]
    rw [hr]
    simp only [wpOps, hj]
    have hdst : i.dst = o.dst := by simp only [okAI, Bool.and_eq_true, decide_eq_true_eq] at hai; exact hai.1.1
    have hd : ∀ k, o.dst = some k → k < n := by
      simp only [okAI, Bool.and_eq_true, decide_eq_true_eq] at hai
      intro k hk
      have := hai.1.2
      rw [hk] at this; simpa using this
    have yes : ∀ (env : Env) (ob : Nat → OB), Conc P B G0 W0 n env a.tmps w ob → step cl i env (fun env => Fw.ops cl l env K) = some r → o.wp P a w (wpOps P ops Q (List.range' (j + 1) (ops.size - (j + 1)))) Q := by
      intro env ob hC h
      exact st_ok hgood hC (fun env' tm' w' ob' hC' h' => ops_sound hgood l (j + 1) env' { a with tmps := tm' } w' ob' h2 hC' h' (fun e2 t2 w2 o2 h3 h4 => hK e2 t2 w2 o2 h3 h4)) hai h
    have no : ∀ (env : Env) (ob : Nat → OB), Conc P B G0 W0 n env a.tmps w ob → Fw.ops cl l (putO env i.dst .und) K = some r → wpOps P ops Q (List.range' (j + 1) (ops.size - (j + 1))) (a.put o.dst undef) w := by
      intro env ob hC h
      rw [hdst] at h
      obtain ⟨ob', hC'⟩ := Conc.putO (e := .und) (v := undef) hC hd (Grows.refl w) ⟨rfl, rfl⟩ a rfl
      refine ops_sound hgood l (j + 1) _ _ w ob' h2 hC' h (fun e2 t2 w2 o2 h3 h4 => ?_)
      have := hK e2 t2 w2 o2 h3 h4
      have e : ({ (a.put o.dst undef) with tmps := t2 } : Act) = { a with tmps := t2 } := by cases o.dst <;> rfl
      rw [e]; exact this
    unfold Fw.ops guardX at h
    cases hog : o.guard with
    | none =>
      cases hig : i.guard with
      | some q => rw [hog, hig] at hg; simp [okGuard] at hg
      | none =>
        rw [hig] at h
        have hw : Region.wanted o (yielded ops a.tmps) = true := by simp [Region.wanted, hog]
        rw [if_pos hw]
        exact .inl (yes env ob hC h)
    | some q =>
      obtain ⟨gj, gb⟩ := q
      cases hig : i.guard with
      | none => rw [hog, hig] at hg; simp [okGuard] at hg
      | some q' =>
        obtain ⟨s, pol⟩ := q'
        rw [hog, hig] at hg
        simp only [okGuard, Bool.and_eq_true, beq_iff_eq] at hg
        obtain ⟨rfl, hg⟩ := hg
        split at hg
        case h_2 => simp at hg
        rename_i og hgj
        simp only [decide_eq_true_eq] at hg
        rw [hig] at h
        simp only at h
        split at h
        · rename_i b hs
          have hy := kept hC hgj hg hs
          have hw : Region.wanted o (yielded ops a.tmps) = (b == gb) := by
            simp only [Region.wanted, hog, hy]
            cases b <;> cases gb <;> rfl
          have ext : ∀ b', b = b' → ∃ ob', Conc P B G0 W0 n ((s, .v .bool b') :: env) a.tmps w ob' := by
            rintro b' rfl
            refine Conc.ext hC (fun k => ?_)
            rw [look_cons]
            split
            · rename_i e; subst e; exact hs.symm
            · rfl
          cases b with
          | true =>
            obtain ⟨ob', hC'⟩ := ext true rfl
            simp only [brB] at h
            cases gb with
            | true =>
              rw [if_pos (by rw [hw]; rfl)]
              exact .inl (yes _ _ hC' h)
            | false =>
              rw [if_neg (by rw [hw]; decide)]
              exact no _ _ hC' h
          | false =>
            obtain ⟨ob', hC'⟩ := ext false rfl
            simp only [brB] at h
            cases gb with
            | true =>
              rw [if_neg (by rw [hw]; decide)]
              exact no _ _ hC' h
            | false =>
              rw [if_pos (by rw [hw]; rfl)]
              exact .inl (yes _ _ hC' h)
        · rename_i hs
          have hy := kept_und hC hgj hg hs
          rw [if_neg (by simp [Region.wanted, hog, hy])]
          exact no _ _ hC h
        · simp at h

/-! ### Loops -/
theorem loop_rounds {c : Code} (J : Nat → Act → World → Prop) (h0 : ∀ a w, ¬ J 0 a w) (hs : ∀ m a w, J (m + 1) a w → c.wp P (Exit.then (J m) Q) a w) : ∀ (m : Nat) (a : Act) (w : World), J m a w → (Code.loop c).wp P Q a w := by
  have key : ∀ m a w, J m a w → ∀ (b : Frame) (k : List Item) (cs : List Frame), ∃ e a' w', Q e a' w' ∧ Arrives P (lone (b.at a (.code c :: .inLoop c :: k)) cs w) b k cs e a' w' := by
    intro m
    induction m with
    | zero => intro a w h; exact absurd h (h0 a w)
    | succ m ih =>
      intro a w h b k cs
      obtain ⟨e, a₁, w₁, hq, harr⟩ := hs m a w h b (.inLoop c :: k) cs
      cases e with
      | normal =>
        obtain ⟨e₂, a₂, w₂, hq₂, harr₂⟩ := ih a₁ w₁ hq b k cs
        exact ⟨e₂, a₂, w₂, hq₂, .of_steps (Steps.trans harr (.one step_inLoop)) harr₂⟩
      | exit id => exact ⟨_, a₁, w₁, hq, .pass (x := .inLoop c) rfl (fun _ _ => .inl (by simp)) harr⟩
      | goto l => exact ⟨_, a₁, w₁, hq, .pass (x := .inLoop c) rfl (fun _ _ => .inl (by simp)) harr⟩
      | ret => exact ⟨_, a₁, w₁, hq, .pass (x := .inLoop c) rfl (fun _ _ => .inl (by simp)) harr⟩
      | panic ch => exact ⟨_, a₁, w₁, hq, .pass (x := .inLoop c) rfl (fun _ _ => .inl (by simp)) harr⟩
      | outgrown => exact ⟨_, a₁, w₁, hq, .pass (x := .inLoop c) rfl (fun _ _ => .inl (by simp)) harr⟩
  intro m a w h b k cs
  obtain ⟨e, a', w', hq, harr⟩ := key m a w h b k cs
  exact ⟨e, a', w', hq, .of_steps (.one step_loop) harr⟩

end
end Go.Fw
