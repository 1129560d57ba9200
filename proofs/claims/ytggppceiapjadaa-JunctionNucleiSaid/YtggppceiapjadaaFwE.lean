/- Soundness: equality of structs. -/
import Derived.Test.YtggppceiapjadaaFwS20
import Derived.Laws.StructEq
set_option linter.unusedVariables false
set_option linter.unusedSimpArgs false
namespace Go.Fw
open Go Go.RowKit

mutual
def eqTy (P : Program) : Nat → TypeId → Ty → Bool
  | 0, _, _ => false
  | n + 1, t, T => match P.underlying t with
    | some (.int _) => (match T with | .int _ => true | _ => false)
    | some .bool => (match T with | .bool => true | _ => false)
    | some .string => (match T with | .str => true | _ => false)
    | some (.struct fs) => isAggT T && !P.stoodInHeld t && eqFl P n fs.toList T 0
    | _ => false
def eqFl (P : Program) : Nat → List Field → Ty → Nat → Bool
  | 0, _, _, _ => false
  | _ + 1, [], T, _ => (match T with | .unit => true | _ => false)
  | n + 1, f :: fs, T, off => (match T with | .pair A B => !(f.name == "_") && f.offset == off && tyOk P 64 f.type A && eqTy P n f.type A && eqFl P n fs B (off + cellsN A) | _ => false)
end

section
variable {P : Program} {w : World} {G : Nat → Nat → Prop} {B : Nat}

theorem eq_ok : ∀ (n : Nat),
    (∀ (d : Nat) (t : TypeId) (T : Ty) (f : den T → den T → Bool) (x y : den T) (vs us : List Value), eqTy P n t T = true → n ≤ d → beqV T = some f → Flat P T w G B .no x vs [] → Flat P T w G B .no y us [] →
      (Op.equalIn d t (asVal T vs) (asVal T us)).run P w = .ok (f x y) w) ∧
    (∀ (d : Nat) (fs : List Field) (T : Ty) (off : Nat) (f : den T → den T → Bool) (x y : den T) (v1 u1 vs us : List Value), eqFl P n fs T off = true → n ≤ d → beqV T = some f → Flat P T w G B .no x vs [] → Flat P T w G B .no y us [] →
      v1.length = off → u1.length = off → (Op.eqFields d (v1 ++ vs).toArray (u1 ++ us).toArray fs).run P w = .ok (f x y) w) := by
  intro n
  induction n with
  | zero => exact ⟨fun d t T f x y vs us h => by simp [eqTy] at h, fun d fs T off f x y v1 u1 vs us h => by simp [eqFl] at h⟩
  | succ n ih =>
    obtain ⟨ih1, ih2⟩ := ih
    refine ⟨fun d t T f x y vs us h hd hf hx hy => ?_, fun d fs T off f x y v1 u1 vs us h hd hf hx hy hv hu => ?_⟩
    · obtain ⟨d, rfl⟩ : ∃ d', d = d' + 1 := ⟨d - 1, by omega⟩
      unfold eqTy at h
      split at h
      · rename_i k hk
        cases T <;> first | (exfalso; simp at h; done) | skip
        unfold Flat at hx hy
        obtain ⟨rfl, _⟩ := hx
        obtain ⟨rfl, _⟩ := hy
        simp only [beqV, Option.some.injEq] at hf
        subst hf
        exact run_equalIn_int w d t _ _ x y hk
      · rename_i hk
        cases T <;> first | (exfalso; simp at h; done) | skip
        unfold Flat at hx hy
        obtain ⟨rfl, _⟩ := hx
        obtain ⟨rfl, _⟩ := hy
        simp only [beqV, Option.some.injEq] at hf
        subst hf
        exact run_equalIn_bool' w d t x y hk
      · rename_i hk
        cases T <;> first | (exfalso; simp at h; done) | skip
        unfold Flat at hx hy
        obtain ⟨rfl, _⟩ := hx
        obtain ⟨rfl, _⟩ := hy
        simp only [beqV, Option.some.injEq] at hf
        subst hf
        have := run_equalIn_string (P := P) w d t ⟨⟨x⟩⟩ ⟨⟨y⟩⟩ hk
        rw [ByteArray.toList_eq, ByteArray.toList_eq] at this
        exact this
      · rename_i fs hk
        simp only [Bool.and_eq_true, Bool.not_eq_true'] at h
        obtain ⟨⟨h1, h2⟩, h3⟩ := h
        have e1 : asVal T vs = .agg vs.toArray := by unfold asVal; rw [if_pos h1]
        have e2 : asVal T us = .agg us.toArray := by unfold asVal; rw [if_pos h1]
        have hfo : P.fieldsOf t = fs := by unfold Program.fieldsOf; rw [hk]
        rw [e1, e2, run_equalIn_struct w d t _ _ (by rw [hfo]; exact hk) h2, hfo]
        exact ih2 d fs.toList T 0 f x y [] [] vs us h3 (by omega) hf hx hy rfl rfl
      · simp at h
    · cases fs with
      | nil =>
        unfold eqFl at h
        cases T <;> first | (exfalso; simp at h; done) | skip
        simp only [beqV, Option.some.injEq] at hf
        subst hf
        simp [Op.eqFields]
      | cons g fs =>
        unfold eqFl at h
        cases T <;> first | (exfalso; simp at h; done) | skip
        rename_i A C
        simp only [Bool.and_eq_true, Bool.not_eq_true', beq_iff_eq] at h
        obtain ⟨⟨⟨⟨h1, h2⟩, h3⟩, h4⟩, h5⟩ := h
        unfold Flat at hx hy
        obtain ⟨p1, p2, b1, b2, rfl, hob, hx1, hx2⟩ := hx
        obtain ⟨q1, q2, c1, c2, rfl, hoc, hy1, hy2⟩ := hy
        obtain ⟨rfl, rfl⟩ := List.append_eq_nil_iff.1 hob.symm
        obtain ⟨rfl, rfl⟩ := List.append_eq_nil_iff.1 hoc.symm
        simp only [beqV] at hf
        split at hf
        case h_2 => simp at hf
        rename_i fA fC hfA hfC
        simp only [Option.some.injEq] at hf
        subst hf
        have hT : TyR P g.type A := ⟨⟨64, h3⟩⟩
        have l1 := Flat.len P A hx1
        have l2 := Flat.len P A hy1
        have r1 := run_partT hT w (v1 := v1) (v3 := p2) l1
        have r2 := run_partT hT w (v1 := u1) (v3 := q2) l2
        rw [hv, List.append_assoc, ← h2] at r1
        rw [hu, List.append_assoc, ← h2] at r2
        have r3 := ih1 d g.type A fA x.1 y.1 p1 q1 h4 (by omega) hfA hx1 hy1
        have hne : g.name ≠ "_" := by intro e; rw [e] at h1; simp at h1
        simp only [Op.eqFields, if_pos hne, Sem.run_bind, r1, r2, r3, Result.andThen_ok, Sem.run_ite, Sem.run_pure]
        by_cases hb : fA x.1 y.1 = true
        · rw [hb]
          simp only [Bool.not_true, Bool.false_eq_true, if_false, Bool.true_and]
          have := ih2 d fs C (off + cellsN A) fC x.2 y.2 (v1 ++ p1) (u1 ++ q1) p2 q2 h5 (by omega) hfC hx2 hy2 (by simp [hv, l1]) (by simp [hu, l2])
          rw [List.append_assoc, List.append_assoc] at this
          exact this
        · have hb' : fA x.1 y.1 = false := by simpa using hb
          rw [hb']; simp

def eqStr (P : Program) (t : TypeId) (T : Ty) : Bool := isAggT T && eqTy P 64 t T && !P.eqGuardType P.depth t

theorem run_eqStr {t : TypeId} {T : Ty} {x y : Operand} {f : den T → den T → Bool} {p q : den T} {vs us : List Value} (h : eqStr P t T = true) (hf : beqV T = some f) (hx : Flat P T w G B .no p vs []) (hy : Flat P T w G B .no q us []) (neg : Bool) :
    (do eqGuard (if neg then .neq else .eql) t x y (asVal T vs) (asVal T us); binOp (if neg then .neq else .eql) t (asVal T vs) (asVal T us) : Sem Value).run P w = .ok (.bool (if neg then !f p q else f p q)) w := by
  simp only [eqStr, Bool.and_eq_true, Bool.not_eq_true'] at h
  obtain ⟨⟨h1, h2⟩, h3⟩ := h
  have he := (eq_ok (P := P) (w := w) (G := G) (B := B) 64).1 10000 t T f p q vs us h2 (by decide) hf hx hy
  have e1 : asVal T vs = .agg vs.toArray := by unfold asVal; rw [if_pos h1]
  have e2 : asVal T us = .agg us.toArray := by unfold asVal; rw [if_pos h1]
  rw [e1, e2] at he ⊢
  cases neg with
  | true => simp only [if_true, Sem.run_bind, run_eqGuard_agg w .neq t x y _ _ h3, Result.andThen_ok, run_neq_struct, he]
  | false => simp only [Bool.false_eq_true, if_false, Sem.run_bind, run_eqGuard_agg w .eql t x y _ _ h3, Result.andThen_ok, run_eql_struct, he]
end

section
variable {P : Program} {B : Nat} {G0 : Nat → Nat → Prop} {W0 : World} {n : Nat} {env : Env} {a : Act} {w : World} {ob : Nat → OB} {cl : Cal}
variable {R : Type} {K : Kont R} {r : R} {next : Act → World → Prop} {Q : Exit → Act → World → Prop} {o : Oper} {i : AI}

theorem st_eqS {t yt : TypeId} {T : Ty} {neg : Bool} {x y : Operand} {x' y' : Od} (hC : Conc P B G0 W0 n env a.tmps w ob) (hK : KOk P B G0 W0 n a K r next) (hd : ∀ k, o.dst = some k → k < n) (hdst : i.dst = o.dst)
    (ho : o.op = .binOp (if neg then .neq else .eql) t x y yt) (hi : i.op = .eqT neg T x' y') (ht : eqStr P t T = true) (hx : okOd x x' = true) (hy : okOd y y' = true) (h : step cl i env K = some r) : o.wp P a w next Q := by
  unfold step at h; rw [hi] at h; simp only [hdst, Option.bind_eq_some_iff] at h
  obtain ⟨s, hs, u, hu, s', hs', u', hu', f, hf, h⟩ := h
  have := cast?_some hs'; subst this
  have := cast?_some hu'; subst this
  obtain ⟨vs, e1, f1⟩ := imm_rep hC hx hs
  obtain ⟨us, e2, f2⟩ := imm_rep hC hy hu
  have hr := run_eqStr (x := x) (y := y) ht hf f1 f2 neg
  refine wp_value (v := .bool (if neg then !f s' u' else f s' u')) (w' := w) ?_ (fin0 hC hK hd (Grows.refl w) (v_bool _ _ _) h)
  have e : execOp a.eval o = (do pure (.value (← (do eqGuard (if neg then .neq else .eql) t x y (a.eval x) (a.eval y); binOp (if neg then .neq else .eql) t (a.eval x) (a.eval y)))) : Sem Next) := by
    unfold execOp; rw [ho]
  rw [e, e1, e2, Sem.run_bind, hr]
  rfl
end
end Go.Fw
