/- What follows a code may be put behind its answer. -/
import Derived.Test.YtggppceiapjadaaFwP
import Derived.Test.YtggppceiapjadaaFwBind
set_option linter.unusedVariables false
set_option linter.unusedSimpArgs false
namespace Go.Fw
open Go Go.RowKit

section
variable {cl : Cal} {N : Nat}

theorem step_bindK (i : AI) (env : Env) {R R' : Type} (K : Kont R) (h : R → Option R') : (step cl i env K).bind h = step cl i env (fun env => (K env).bind h) := by
  rw [step_bind cl i env K, step_bind cl i env (fun env => (K env).bind h), Option.bind_assoc]

theorem brB_bind {R R' : Type} (b : Bool) (x y : Option R) (h : R → Option R') : (brB b x y).bind h = brB b (x.bind h) (y.bind h) := by cases b <;> rfl

theorem guardX_bind (g : Option (Nat × Bool)) (env : Env) {R R' : Type} (y n : Kont R) (h : R → Option R') : (guardX g env y n).bind h = guardX g env (fun env => (y env).bind h) (fun env => (n env).bind h) := by
  cases g with
  | none => rfl
  | some q =>
    obtain ⟨s, pol⟩ := q
    simp only [guardX]
    split
    · cases pol <;> exact brB_bind _ _ _ _
    · rfl
    · rfl

theorem ops_bind {R R' : Type} (K : Kont R) (h : R → Option R') : ∀ (l : List AI) (env : Env), (ops cl l env K).bind h = ops cl l env (fun env => (K env).bind h)
  | [], env => rfl
  | i :: r, env => by
    simp only [ops]
    rw [guardX_bind]
    congr 1
    · funext env
      rw [step_bindK]
      congr 1
      funext env
      exact ops_bind K h r env
    · funext env
      exact ops_bind K h r _

theorem draws_bind {R R' : Type} (K : Kont R) (h : R → Option R') : ∀ (l : List DI) (env : Env), (draws cl l env K).bind h = draws cl l env (fun env => (K env).bind h)
  | [], env => rfl
  | i :: r, env => by
    have yes : ∀ env', ((wrR cl i.ai.dst i.ai.op).runK (hid i.hide (look env)) fun δ => match okW i env δ with
        | true => draws cl r (δ ++ env') K
        | false => none).bind h = (wrR cl i.ai.dst i.ai.op).runK (hid i.hide (look env)) fun δ => match okW i env δ with
        | true => draws cl r (δ ++ env') (fun env => (K env).bind h)
        | false => none := by
      intro env'
      rw [Rd.eqn, Rd.eqn, Option.bind_assoc]
      congr 1
      funext δ
      split
      · exact draws_bind K h r _
      · rfl
    have nope : ∀ env', (match okW i env (one i.ai.dst .und) with
        | true => draws cl r (one i.ai.dst .und ++ env') K
        | false => none).bind h = match okW i env (one i.ai.dst .und) with
        | true => draws cl r (one i.ai.dst .und ++ env') (fun env => (K env).bind h)
        | false => none := by
      intro env'
      split
      · exact draws_bind K h r _
      · rfl
    simp only [draws]
    split
    · rw [step_bindK]
      congr 1
      funext env
      exact draws_bind K h r env
    · split
      · exact yes env
      · rename_i s pol _
        split
        · rw [brB_bind]
          cases pol
          · simp only [Bool.false_eq_true, if_false]; congr 1
            · exact nope _
            · exact yes _
          · simp only [if_true]; congr 1
            · exact yes _
            · exact nope _
        · exact nope env
        · rfl

theorem iter_bind {R R' : Type} (live : List Nat) (body : {R : Type} → Env → KE R → Option R) (hb : ∀ {R R' : Type} (env : Env) (K : KE R) (h : R → Option R'), (body env K).bind h = body env (fun e env => (K e env).bind h)) (K : KE R) (h : R → Option R') :
    ∀ (m : Nat) (env : Env), (iter live (fun env K => body env K) K m env).bind h = iter live (fun env K => body env K) (fun e env => (K e env).bind h) m env
  | 0, env => rfl
  | m + 1, env => by
    simp only [iter]
    rw [hb]
    congr 1
    funext e env
    cases e with
    | normal => exact iter_bind live body hb K h m _
    | exit => rfl
    | ret => rfl

theorem exec_bind : ∀ (c : AC) {R R' : Type} (env : Env) (K : KE R) (h : R → Option R'), (exec cl N c env K).bind h = exec cl N c env (fun e env => (K e env).bind h)
  | .skip, _, _, _, _, _ => rfl
  | .ret, _, _, _, _, _ => rfl
  | .exit _, _, _, _, _, _ => rfl
  | .reg live l, _, _, env, K, h => ops_bind _ _ _ _
  | .draw live l, _, _, env, K, h => draws_bind _ _ _ _
  | .seq a b, _, _, env, K, h => by
    simp only [exec]
    rw [exec_bind a]
    congr 1
    funext e env
    cases e with
    | normal => exact exec_bind b env K h
    | exit => rfl
    | ret => rfl
  | .cond c x y, _, _, env, K, h => by
    simp only [exec]
    rw [Option.bind_assoc]
    congr 1
    funext q
    rw [brB_bind, exec_bind x, exec_bind y]
  | .block id b, _, _, env, K, h => by
    simp only [exec]
    rw [exec_bind b]
    congr 1
    funext e env
    cases e with
    | normal => rfl
    | ret => rfl
    | exit j =>
      simp only [blockK]
      cases Nat.decEq j id <;> rfl
  | .loop live b, _, _, env, K, h => iter_bind live (fun env K => exec cl N b env K) (fun env K h => exec_bind b env K h) K h N _
  | .out live b, _, _, env, K, h => by
    simp only [exec]
    exact exec_bind b env _ h

/-- a slice that a function hands back as the caller's own -/
def decO (T : Ty) : E → Option (List (den T))
  | .own _ _ T' _ xs => cast? (.sl T) ⟨.sl T', xs⟩
  | _ => none

/-- a function, out of what its code does whatever follows -/
theorem fn_of {fd : FD} {env : Env} {B : Type} {ent : B → List E} {dr : List E → Option B} (hd : ∀ b, dr (ent b) = some b) (g : {R : Type} → (B → Option R) → Option R)
    (hg : ∀ {R : Type} (k : List E → Option R), exec cl N fd.body env (fun e env => (retK fd e env).bind k) = g (fun b => k (ent b))) :
    exec cl N fd.body env (retK fd) = (g some).bind fun b => some (ent b) := by
  have h1 : exec cl N fd.body env (retK fd) = g (fun b => some (ent b)) := by
    rw [← hg (k := some)]
    congr 1
    funext e env
    cases retK fd e env <;> rfl
  have h2 : g some = exec cl N fd.body env (fun e env => (retK fd e env).bind dr) := by
    rw [hg (k := dr)]
    congr 1
    funext b
    exact (hd b).symm
  have h3 : (fun (e : Ex) (env : Env) => ((retK fd e env).bind dr).bind fun b => some (ent b)) = fun e env => (retK fd e env).bind fun es => (dr es).bind fun b => some (ent b) := by
    funext e env
    rw [Option.bind_assoc]
  rw [h1, h2, exec_bind, h3, hg]
  congr 1
  funext b
  rw [hd]; rfl

end
end Go.Fw
