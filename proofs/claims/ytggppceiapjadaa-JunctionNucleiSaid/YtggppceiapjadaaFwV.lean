/- Soundness: an operation whose order is open does what 'step' does. -/
import Derived.Test.YtggppceiapjadaaFwC
set_option linter.unusedVariables false
set_option linter.unusedSimpArgs false
namespace Go.Fw
open Go Go.RowKit

theorem Rd.run_bind {α β : Type} (a : Rd α) (f : α → Rd β) (L : Nat → E) : (a.bind f).run L = (a.run L).bind fun x => (f x).run L := rfl
theorem Rd.run_ok {α : Type} (x : α) (L : Nat → E) : (Rd.ok x).run L = some x := rfl
theorem Rd.run_no {α : Type} (L : Nat → E) : (Rd.no : Rd α).run L = none := rfl
theorem Rd.run_of {α : Type} (x : Option α) (L : Nat → E) : (Rd.of x).run L = x := rfl
theorem Rd.run_get (k : Nat) (L : Nat → E) : (Rd.get k).run L = Rd.notDead (L k) := rfl
theorem Rd.run_if {α : Type} {p : Prop} [Decidable p] (a b : Rd α) (L : Nat → E) : (if p then a else b).run L = if p then a.run L else b.run L := by split <;> rfl
theorem Rd.run_ite {α : Type} {p : Prop} [Decidable p] (a b : Rd α) (L : Nat → E) : (Rd.ite p a b).run L = if p then a.run L else b.run L := rfl
theorem Rd.run_br {α : Type} (q : Bool) (a b : Rd α) (L : Nat → E) : (Rd.br q a b).run L = brB q (a.run L) (b.run L) := rfl
theorem Rd.run_call (cl : Cal) (f : FuncId) (es : List E) (L : Nat → E) : (Rd.call cl f es).run L = cl f es := rfl

theorem notDead_some {e f : E} : Rd.notDead e = some f ↔ e = f ∧ e ≠ .dead := by
  cases e <;> simp [Rd.notDead]
theorem notDead_bind {β : Type} {e : E} {f : E → Option β} {y : β} : (Rd.notDead e).bind f = some y → f e = some y := by
  cases e <;> simp [Rd.notDead]

section
variable {cl : Cal} {env : Env} {R : Type}

theorem int_run (x : Od) : (intR x).run (look env) = intOf? (ent env x) := by
  unfold intR; rw [Rd.run_bind, ent_run]; cases ent env x <;> rfl
theorem bool_run (x : Od) : (boolR x).run (look env) = boolOf? (ent env x) := by
  unfold boolR; rw [Rd.run_bind, ent_run]; cases ent env x <;> rfl
theorem str_run (x : Od) : (strR x).run (look env) = strOf? (ent env x) := by
  unfold strR; rw [Rd.run_bind, ent_run]; cases ent env x <;> rfl
theorem val_run (x : Od) : (valR x).run (look env) = valOf? (ent env x) := by
  unfold valR; rw [Rd.run_bind, ent_run]; cases ent env x <;> rfl
theorem intOf_some {e : E} {q : IntKind × Int} (h : intOf? e = some q) : e = .v (.int q.1) q.2 := by
  unfold intOf? at h
  split at h
  · cases h; rfl
  · simp at h
theorem optInt_run (x : Option Od) : (optIntR x).run (look env) = optInt env x := by
  cases x with
  | none => rfl
  | some x => unfold optIntR optInt; rw [Rd.run_bind, int_run]; rfl
theorem lie_run {x : Od} {e : E} (h : (lieR x).run (look env) = some e) : ent env x = e ∧ e.lie = true := by
  unfold lieR at h
  rw [Rd.run_bind, ent_run] at h
  have h := notDead_bind h
  simp only [Rd.run_if, Rd.run_ok, Rd.run_no] at h
  split at h
  · rename_i hl; cases h; exact ⟨rfl, hl⟩
  · simp at h
theorem cp_run {x : Od} {e : E} (h : (cpR x).run (look env) = some e) : copyE x (ent env x) = e ∧ ∀ es, ent env x ≠ .tup es := by
  unfold cpR at h
  rw [Rd.run_bind, ent_run] at h
  have h := notDead_bind h
  cases he : ent env x <;> rw [he] at h <;> simp only [cpE] at h <;> first | (exfalso; simp [Rd.run_no] at h; done) | skip
  all_goals first
    | (simp only [Rd.run_ok, Option.some.injEq] at h; subst h; exact ⟨rfl, by simp⟩)
    | (cases x <;> simp only [Rd.run_ok, Rd.run_no, Option.some.injEq] at h <;> first | (subst h; exact ⟨rfl, by simp⟩) | (exfalso; simp at h; done))
theorem valOf_some {e : E} {y : TV} (h : valOf? e = some y) : e = .v y.1 y.2 := by
  cases e <;> simp [valOf?] at h
  subst h; rfl
theorem pub_val {x : Od} {y : TV} (h : valOf? (ent env x) = some y) : pub env x = some (env, y) := by
  have := valOf_some h
  simp only [pub, this, imm, Option.bind_some, homeOf]

theorem argList_run : ∀ (l : List Od), (argListR cl l).run (look env) = argList cl env l
  | [] => rfl
  | a :: r => by
    unfold argListR argList
    rw [Rd.run_bind, Rd.run_bind, ent_run]
    have e2 : ∀ x : E, (((argListR cl r).bind fun y => Rd.ok (x :: y)).run (look env)) = (argList cl env r).bind fun y => some (x :: y) := by
      intro x; rw [Rd.run_bind, argList_run r]; rfl
    simp only [e2]
    congr 1
    cases he : ent env a <;> simp only [Rd.notDead, Option.bind_some, Option.bind_none, argR1]
    case dead => rfl
    case loc T o x => rw [Rd.run_if]; rfl
    case clo f A C caps => exact clo_run cl env f A C caps
    all_goals exact arg_run env _

theorem homeless_run : ∀ (l : List Od), (homelessR l).run (look env) = some () → freezeAll env l = env
  | [], _ => rfl
  | a :: r, h => by
    unfold homelessR at h
    rw [Rd.run_bind, ent_run] at h
    have h := notDead_bind h
    first | rw [Rd.run_ite] at h | rw [Rd.run_if] at h
    split at h
    · rename_i hn
      unfold freezeAll
      rw [Option.isNone_iff_eq_none] at hn
      rw [hn]
      exact homeless_run r h
    · simp [Rd.run_no] at h

theorem res_run {args : List Od} {res : List E} {e : E} (h : (resR args res).run (look env) = some e) : e = resE res ∧ (if res.all E.plain then env else freezeAll env args) = env := by
  unfold resR at h
  first | rw [Rd.run_ite] at h | rw [Rd.run_if] at h
  split at h
  · rename_i hp; cases h; exact ⟨rfl, if_pos hp⟩
  · rename_i hp
    rw [Rd.run_bind] at h
    obtain ⟨_, hy, h⟩ := Option.bind_eq_some_iff.1 h
    cases h
    exact ⟨rfl, by rw [if_neg hp]; exact homeless_run args hy⟩

theorem caps_run : ∀ (l : List Od) (cs : List E), (capsR l).run (look env) = some cs → (l.all fun a => (ent env a).cap) = true ∧ cs = l.map fun a => copyE a (ent env a)
  | [], cs, h => by simp only [capsR, Rd.run_ok, Option.some.injEq] at h; subst h; exact ⟨rfl, rfl⟩
  | a :: r, cs, h => by
    unfold capsR at h
    rw [Rd.run_bind, ent_run] at h
    have h := notDead_bind h
    first | rw [Rd.run_ite] at h | rw [Rd.run_if] at h
    split at h
    · rename_i hc
      rw [Rd.run_bind] at h
      obtain ⟨y, hy, h⟩ := Option.bind_eq_some_iff.1 h
      obtain ⟨h1, rfl⟩ := caps_run r y hy
      simp only [Rd.run_ok, Option.some.injEq] at h
      subst h
      exact ⟨by simp only [List.all_cons, hc, h1, Bool.and_true], rfl⟩
    · simp [Rd.run_no] at h

theorem build_run : ∀ (T : Ty) (x : den T) (l : List (Path × Od)) (y : den T), (buildR T x l).run (look env) = some y → buildV T x env l = some (env, y)
  | T, x, [], y, h => by simp only [buildR, Rd.run_ok, Option.some.injEq] at h; subst h; simp [buildV]
  | T, x, (p, a) :: r, y, h => by
    unfold buildR at h
    rw [Rd.run_bind, val_run] at h
    obtain ⟨q, hq, h⟩ := Option.bind_eq_some_iff.1 h
    rw [Rd.run_bind, Rd.run_of] at h
    obtain ⟨z, hz, h⟩ := Option.bind_eq_some_iff.1 h
    unfold buildV
    rw [pub_val hq]
    simp only [Option.bind_some, hz]
    exact build_run T z r y h

theorem buildL_run (T : Ty) : ∀ (l : List Od) (y : List (den T)), (buildLR T l).run (look env) = some y → buildL T env l = some (env, y)
  | [], y, h => by simp only [buildLR, Rd.run_ok, Option.some.injEq] at h; subst h; simp [buildL]
  | a :: r, y, h => by
    unfold buildLR at h
    rw [Rd.run_bind, val_run] at h
    obtain ⟨q, hq, h⟩ := Option.bind_eq_some_iff.1 h
    rw [Rd.run_bind, Rd.run_of] at h
    obtain ⟨z, hz, h⟩ := Option.bind_eq_some_iff.1 h
    rw [Rd.run_bind] at h
    obtain ⟨u, hu, h⟩ := Option.bind_eq_some_iff.1 h
    simp only [Rd.run_ok, Option.some.injEq] at h
    subst h
    unfold buildL
    rw [pub_val hq]
    simp only [Option.bind_some, hz]
    rw [buildL_run T r u hu]
    rfl

theorem lie_copy {x : Od} {e : E} (h : e.lie = true) : copyE x e = e := by
  cases e <;> first | rfl | (exfalso; simp [E.lie] at h; done)


theorem loadE_step {T : Ty} {a : Od} {d : Option Nat} {g : Option (Nat × Bool)} {s : Nat} {p : Path} {e : E} {K : Kont R} (h0 : locPlace env a = some (s, p)) (h : (loadR T s p (look env s)).run (look env) = some e) : step cl ⟨d, .load T a, g⟩ env K = K (putO env d e) := by
  have h1 : step cl ⟨d, .load T a, g⟩ env K = (match locPlace env a with
      | some (s, p) => match look env s with
        | .loc T0 o x => match annAt o p with
          | .own .. => match getP T0 p x with
            | some ⟨.sl T', _⟩ => if T = .sl T' then K (putO env d (.ref s p)) else none
            | _ => none
          | b => if b.whole then (getP T0 p x).bind fun z => (cast? T z).bind fun y =>
              K (putO (if b.pure then env else freeze env s) d (.v T y)) else none
        | _ => none
      | none => none) := by
    unfold locPlace at h0
    cases he : ent env a <;> rw [he] at h0 <;> first | (exfalso; simp at h0; done) | (simp only [step, he]; rfl)
  rw [h1, h0]
  simp only
  cases hl : look env s <;> rw [hl] at h <;> simp only [loadR, Rd.run_no] at h <;> first | (exfalso; simp at h; done) | skip
  rename_i T0 o x
  simp only
  cases hb : annAt o p <;> rw [hb] at h <;> simp only at h ⊢
  case own wr e' o' =>
    split at h
    · rename_i T' xs hg
      rw [Rd.run_if] at h
      split at h
      · rename_i h3; cases h; rw [hg]; simp only; rw [if_pos h3]
      · simp [Rd.run_no] at h
    · simp [Rd.run_no] at h
  all_goals
    rw [Rd.run_if] at h
    split at h
    · rename_i hw
      simp only [Bool.and_eq_true] at hw
      rw [Rd.run_bind, Rd.run_of] at h
      obtain ⟨y, hy, h⟩ := Option.bind_eq_some_iff.1 h
      obtain ⟨z, hz, hy⟩ := Option.bind_eq_some_iff.1 hy
      cases h
      simp only [hw.1, hw.2, if_true, hz, hy, Option.bind_some]
    · simp [Rd.run_no] at h

section
variable {i : AI} {e : E} {K : Kont R}

theorem moveE_lie {d : Option Nat} {x : Od} (h1 : ent env x = e) (h2 : e.lie = true) : moveE env d x = putO env d e := by
  unfold moveE
  rw [h1]
  have h3 := lie_copy (x := x) h2
  cases e <;> simp_all [E.lie]

theorem assign_lie {d : Nat} {x : Od} (h1 : ent env x = e) (h2 : e.lie = true) : assign env d x = put env d e := by
  unfold assign
  rw [h1]
  have h3 := lie_copy (x := x) h2
  cases e <;> simp_all [E.lie]

theorem valE_step (h : (valE cl i.dst i.op).run (look env) = some e) : step cl i env K = K (putO env i.dst e) := by
  obtain ⟨d, op, g⟩ := i
  cases op <;> simp only [valE] at h ⊢
  case mv x =>
    obtain ⟨h1, h2⟩ := cp_run h
    have : moveE env d x = putO env d e := by
      unfold moveE
      split
      · rename_i es he; exact absurd he (h2 es)
      · rw [h1]
    simp only [step, this]
  case asg x =>
    first | rw [Rd.run_ite] at h | rw [Rd.run_if] at h
    split at h
    · obtain ⟨h1, h2⟩ := lie_run h
      cases d with
      | none => simp at *
      | some d => simp only [step, assign_lie h1 h2]; rfl
    · simp [Rd.run_no] at h
  case pick c a b =>
    rw [Rd.run_bind, bool_run] at h
    obtain ⟨q, hq, h⟩ := Option.bind_eq_some_iff.1 h
    simp only [step, hq, Option.bind_some]
    rw [Rd.run_br] at h
    cases q <;> (simp only [brB] at h ⊢; obtain ⟨h1, h2⟩ := cp_run h; rw [h1])
  case alloc T o => cases h; rfl
  case box T x =>
    rw [Rd.run_bind, val_run] at h
    obtain ⟨q, hq, h⟩ := Option.bind_eq_some_iff.1 h
    rw [Rd.run_bind, Rd.run_of] at h
    obtain ⟨y, hy, h⟩ := Option.bind_eq_some_iff.1 h
    cases h
    simp only [step, pub_val hq, Option.bind_some, hy]
  case build T parts =>
    rw [Rd.run_bind] at h
    obtain ⟨y, hy, h⟩ := Option.bind_eq_some_iff.1 h
    cases h
    simp only [step, build_run _ _ _ _ hy, Option.bind_some]
  case buildN T o parts =>
    rw [Rd.run_bind] at h
    obtain ⟨y, hy, h⟩ := Option.bind_eq_some_iff.1 h
    cases h
    simp only [step, build_run _ _ _ _ hy, Option.bind_some]
  case buildSlice ed T parts =>
    rw [Rd.run_bind] at h
    obtain ⟨y, hy, h⟩ := Option.bind_eq_some_iff.1 h
    cases h
    simp only [step, buildL_run _ _ _ hy, Option.bind_some]
  case load T a =>
    rw [Rd.run_bind, ent_run] at h
    have h := notDead_bind h
    split at h
    · rename_i T' x he
      rw [Rd.run_bind, Rd.run_of] at h
      obtain ⟨y, hy, h⟩ := Option.bind_eq_some_iff.1 h
      cases h
      simp only [step, he, hy, Option.bind_some]
    · rename_i s p j q he
      rw [Rd.run_bind, held_run] at h
      obtain ⟨hh, hhe, h⟩ := Option.bind_eq_some_iff.1 h
      simp only [step, he, hhe, Option.bind_some]
      simp only [loadH, Rd.run_ite] at h
      split at h
      · rename_i h1
        rw [Rd.run_if] at h
        split at h
        · rename_i h2
          rw [Rd.run_bind, Rd.run_of] at h
          obtain ⟨y, hy, h⟩ := Option.bind_eq_some_iff.1 h
          obtain ⟨z, hz, hy⟩ := Option.bind_eq_some_iff.1 hy
          cases h
          simp only [h1, h2, hz, hy, Option.bind_some, if_true]
        · simp [Rd.run_no] at h
      · simp [Rd.run_no] at h
    · rename_i s p he
      rw [Rd.run_bind, Rd.run_get] at h
      exact loadE_step (by simp only [locPlace, he]) (notDead_bind h)
    · rename_i T0 o x he
      split at h
      · rename_i k _
        have hl : look env k = .loc T0 o x := he
        rw [he, ← hl] at h
        exact loadE_step (by simp only [locPlace, he, Od.slot, Option.map_some]) h
      · simp [Rd.run_no] at h
    · simp [Rd.run_no] at h
  case bin op x y =>
    rw [Rd.run_bind, ent_run] at h
    have h := notDead_bind h
    rw [Rd.run_bind, ent_run] at h
    have h := notDead_bind h
    unfold binR at h
    split at h
    · rename_i k m k' n hx hy
      rw [Rd.run_if] at h
      split at h
      · rename_i hk
        simp only [step, hx, hy, if_pos hk]
        cases op
        case quo =>
          simp only [Rd.run_ite] at h ⊢
          split at h
          · simp [Rd.run_no] at h
          · rename_i h0; cases h; rw [if_neg h0]
        case rem =>
          simp only [Rd.run_ite] at h ⊢
          split at h
          · simp [Rd.run_no] at h
          · rename_i h0; cases h; rw [if_neg h0]
        all_goals
          simp only at h ⊢
          split at h
          · rename_i b hb; cases h; first | rfl | (rw [hb])
          · rename_i hb
            split at h
            · rename_i r hr
              cases h
              first | (rw [hb]; simp only [hr, Option.bind_some]; done) | (simp only [hr, Option.bind_some]; done)
            · simp [Rd.run_no] at h
      · simp [Rd.run_no] at h
    · rename_i s t hx hy
      simp only [step, hx, hy]
      cases op <;> simp only at h ⊢ <;> first | (simp [Rd.run_no] at h; done) | (cases h; rfl) | skip
      rw [Rd.run_ite] at h
      split at h
      · rename_i h0; cases h; rw [if_pos h0]
      · simp [Rd.run_no] at h
    · simp [Rd.run_no] at h
  case eqT neg T x y =>
    rw [Rd.run_bind, ent_run] at h
    have h := notDead_bind h
    rw [Rd.run_bind, ent_run] at h
    have h := notDead_bind h
    rw [Rd.run_bind, imm_run] at h
    obtain ⟨s, hs, h⟩ := Option.bind_eq_some_iff.1 h
    rw [Rd.run_bind, imm_run] at h
    obtain ⟨t, ht, h⟩ := Option.bind_eq_some_iff.1 h
    rw [Rd.run_bind, Rd.run_of] at h
    obtain ⟨s', hs', h⟩ := Option.bind_eq_some_iff.1 h
    rw [Rd.run_bind, Rd.run_of] at h
    obtain ⟨t', ht', h⟩ := Option.bind_eq_some_iff.1 h
    rw [Rd.run_bind, Rd.run_of] at h
    obtain ⟨f, hf, h⟩ := Option.bind_eq_some_iff.1 h
    cases h
    simp only [step, hs, ht, hs', ht', hf, Option.bind_some]
  case un op x =>
    rw [Rd.run_bind, ent_run] at h
    have h := notDead_bind h
    rw [Rd.run_of] at h
    unfold unOE at h
    split at h
    · rename_i hx _; cases h; simp only [step, hx]
    · rename_i hx _; cases h; simp only [step, hx]
    · simp at h
  case convI k x =>
    rw [Rd.run_bind, int_run] at h
    obtain ⟨q, hq, h⟩ := Option.bind_eq_some_iff.1 h
    cases h
    simp only [step, hq, Option.bind_some]
  case fieldAddr S p a =>
    rw [Rd.run_bind, ent_run] at h
    have h := notDead_bind h
    split at h
    · rename_i T x he
      rw [Rd.run_bind, Rd.run_of] at h
      obtain ⟨x', hx', h⟩ := Option.bind_eq_some_iff.1 h
      rw [Rd.run_bind, Rd.run_of] at h
      obtain ⟨y, hy, h⟩ := Option.bind_eq_some_iff.1 h
      cases h
      simp only [step, he, hx', hy, Option.bind_some]
    · rename_i s q he
      rw [Rd.run_bind, Rd.run_get] at h
      have h := notDead_bind h
      rw [Rd.run_of] at h
      unfold fldE at h
      split at h
      · rename_i T0 o x hl
        split at h
        · rename_i h1; cases h; simp only [step, he, hl, if_pos h1]
        · simp at h
      · simp at h
    · rename_i s q j r he
      rw [Rd.run_bind, held_run] at h
      obtain ⟨hh, hhe, h⟩ := Option.bind_eq_some_iff.1 h
      first | rw [Rd.run_ite] at h | rw [Rd.run_if] at h
      split at h
      · rename_i h1; cases h; simp only [step, he, hhe, Option.bind_some, if_pos h1]
      · simp [Rd.run_no] at h
    · rename_i T0 o x he
      first | rw [Rd.run_ite] at h | rw [Rd.run_if] at h
      split at h
      · rename_i h1
        split at h
        · cases h; simp only [step, he, if_pos h1, Od.slot, Option.bind_some]
        · simp [Rd.run_no] at h
      · simp [Rd.run_no] at h
    · simp [Rd.run_no] at h
  case indexAddr T x ix =>
    rw [Rd.run_bind, int_run] at h
    obtain ⟨q, hq, h⟩ := Option.bind_eq_some_iff.1 h
    rw [Rd.run_bind, ent_run] at h
    have h := notDead_bind h
    split at h
    · rename_i T' xs he
      rw [Rd.run_bind, Rd.run_of] at h
      obtain ⟨y, hy, h⟩ := Option.bind_eq_some_iff.1 h
      first | rw [Rd.run_ite] at h | rw [Rd.run_if] at h
      split at h
      · rename_i h1; cases h; simp only [step, hq, he, hy, Option.bind_some, if_pos h1]
      · simp [Rd.run_no] at h
    · rename_i wr ed T' o xs he
      first | rw [Rd.run_ite] at h | rw [Rd.run_if] at h
      split at h
      · rename_i h0
        split at h
        · first | rw [Rd.run_ite] at h | rw [Rd.run_if] at h
          split at h
          · rename_i h1; cases h; simp only [step, hq, he, Option.bind_some, if_pos h1, if_pos h0, Od.slot]
          · simp [Rd.run_no] at h
        · simp [Rd.run_no] at h
      · simp [Rd.run_no] at h
    · rename_i s p he
      rw [Rd.run_bind, held_run] at h
      obtain ⟨hh, hhe, h⟩ := Option.bind_eq_some_iff.1 h
      first | rw [Rd.run_ite] at h | rw [Rd.run_if] at h
      split at h
      · rename_i h0
        first | rw [Rd.run_ite] at h | rw [Rd.run_if] at h
        split at h
        · rename_i h1; cases h; simp only [step, hq, he, hhe, Option.bind_some, if_pos h1, if_pos h0]
        · simp [Rd.run_no] at h
      · simp [Rd.run_no] at h
    · simp [Rd.run_no] at h
  case indexArr n T x ix =>
    rw [Rd.run_bind, int_run] at h
    obtain ⟨q, hq, h⟩ := Option.bind_eq_some_iff.1 h
    rw [Rd.run_bind, ent_run] at h
    have h := notDead_bind h
    split at h
    · rename_i T' xs he
      rw [Rd.run_bind, Rd.run_of] at h
      obtain ⟨y, hy, h⟩ := Option.bind_eq_some_iff.1 h
      first | rw [Rd.run_ite] at h | rw [Rd.run_if] at h
      split at h
      · rename_i h1; cases h; simp only [step, hq, he, hy, Option.bind_some, if_pos h1]
      · simp [Rd.run_no] at h
    · rename_i s p he
      rw [Rd.run_bind, Rd.run_get] at h
      have h := notDead_bind h
      unfold arrR at h
      split at h
      · rename_i T0 o x hl
        rw [Rd.run_if] at h
        split at h
        · rename_i h0
          rw [Rd.run_ite] at h
          split at h
          · rename_i h1; cases h; simp only [step, hq, he, Option.bind_some, locPlace, hl, if_pos h0, if_pos h1]
          · simp [Rd.run_no] at h
        · simp [Rd.run_no] at h
      · simp [Rd.run_no] at h
    · rename_i T0 o x he
      split at h
      · rename_i k _ _
        have hl : look env k = .loc T0 o x := he
        rw [he] at h
        simp only [arrR] at h
        rw [Rd.run_if] at h
        split at h
        · rename_i h0
          rw [Rd.run_ite] at h
          split at h
          · rename_i h1; cases h; simp only [step, hq, he, Option.bind_some, locPlace, Od.slot, Option.map_some, hl, if_pos h0, if_pos h1]
          · simp [Rd.run_no] at h
        · simp [Rd.run_no] at h
      · simp [Rd.run_no] at h
    · simp [Rd.run_no] at h
  case field S p x =>
    rw [Rd.run_bind, ent_run] at h
    have h := notDead_bind h
    rw [Rd.run_bind, imm_run] at h
    obtain ⟨s, hs, h⟩ := Option.bind_eq_some_iff.1 h
    rw [Rd.run_bind, Rd.run_of] at h
    obtain ⟨y, hy, h⟩ := Option.bind_eq_some_iff.1 h
    rw [Rd.run_bind, Rd.run_of] at h
    obtain ⟨z, hz, h⟩ := Option.bind_eq_some_iff.1 h
    cases h
    simp only [step, hs, hy, hz, Option.bind_some]
  case indexS x ix =>
    rw [Rd.run_bind, int_run] at h
    obtain ⟨q, hq, h⟩ := Option.bind_eq_some_iff.1 h
    rw [Rd.run_bind, str_run] at h
    obtain ⟨s, hs, h⟩ := Option.bind_eq_some_iff.1 h
    first | rw [Rd.run_ite] at h | rw [Rd.run_if] at h
    split at h
    · rename_i h1; cases h; simp only [step, hq, hs, Option.bind_some, if_pos h1]
    · simp [Rd.run_no] at h
  case indexA n T x ix =>
    rw [Rd.run_bind, int_run] at h
    obtain ⟨q, hq, h⟩ := Option.bind_eq_some_iff.1 h
    rw [Rd.run_bind, ent_run] at h
    have h := notDead_bind h
    split at h
    · rename_i T' xs he
      rw [Rd.run_bind, Rd.run_of] at h
      obtain ⟨y, hy, h⟩ := Option.bind_eq_some_iff.1 h
      first | rw [Rd.run_ite] at h | rw [Rd.run_if] at h
      split at h
      · rename_i h1; cases h; simp only [step, hq, he, hy, Option.bind_some, if_pos h1]
      · simp [Rd.run_no] at h
    · simp [Rd.run_no] at h
  case sliceS x lo hi =>
    rw [Rd.run_bind, optInt_run] at h
    obtain ⟨l, hl, h⟩ := Option.bind_eq_some_iff.1 h
    rw [Rd.run_bind, optInt_run] at h
    obtain ⟨u, hu, h⟩ := Option.bind_eq_some_iff.1 h
    rw [Rd.run_bind, str_run] at h
    obtain ⟨s, hs, h⟩ := Option.bind_eq_some_iff.1 h
    first | rw [Rd.run_ite] at h | rw [Rd.run_if] at h
    split at h
    · rename_i h1; cases h; simp only [step, hl, hu, hs, Option.bind_some, if_pos h1]
    · simp [Rd.run_no] at h
  case sliceL T x lo hi mx =>
    rw [Rd.run_bind, optInt_run] at h
    obtain ⟨l, hl, h⟩ := Option.bind_eq_some_iff.1 h
    rw [Rd.run_bind, optInt_run] at h
    obtain ⟨u, hu, h⟩ := Option.bind_eq_some_iff.1 h
    rw [Rd.run_bind, optInt_run] at h
    obtain ⟨m, hm, h⟩ := Option.bind_eq_some_iff.1 h
    rw [Rd.run_bind, val_run] at h
    obtain ⟨y, hy, h⟩ := Option.bind_eq_some_iff.1 h
    rw [Rd.run_bind, Rd.run_of] at h
    obtain ⟨xs, hxs, h⟩ := Option.bind_eq_some_iff.1 h
    first | rw [Rd.run_ite] at h | rw [Rd.run_if] at h
    split at h
    · rename_i h1; cases h; simp only [step, hl, hu, hm, pub_val hy, hxs, Option.bind_some, if_pos h1]
    · simp [Rd.run_no] at h
  case mkSlice ed T lim l c =>
    rw [Rd.run_bind, int_run] at h
    obtain ⟨m, hm, h⟩ := Option.bind_eq_some_iff.1 h
    rw [Rd.run_bind, int_run] at h
    obtain ⟨n, hn, h⟩ := Option.bind_eq_some_iff.1 h
    first | rw [Rd.run_ite] at h | rw [Rd.run_if] at h
    split at h
    · rename_i h1
      first | rw [Rd.run_ite] at h | rw [Rd.run_if] at h
      split at h
      · rename_i h2; cases h
        obtain ⟨m1, m2⟩ := m
        obtain ⟨n1, n2⟩ := n
        simp only at h1 h2
        obtain ⟨rfl, rfl⟩ := h1
        simp only [step, intOf_some hm, intOf_some hn, if_pos h2]
      · simp [Rd.run_no] at h
    · simp [Rd.run_no] at h
  case lenS x =>
    rw [Rd.run_bind, str_run] at h
    obtain ⟨s, hs, h⟩ := Option.bind_eq_some_iff.1 h
    cases h
    simp only [step, hs, Option.bind_some]
  case lenL x =>
    rw [Rd.run_bind, ent_run] at h
    have h := notDead_bind h
    rw [Rd.run_bind, imm_run] at h
    obtain ⟨s, hs, h⟩ := Option.bind_eq_some_iff.1 h
    simp only [step, hs, Option.bind_some]
    split at h
    · cases h; rfl
    · simp [Rd.run_no] at h
  case lenA m => cases h; rfl
  case mm mx x y =>
    rw [Rd.run_bind, int_run] at h
    obtain ⟨m, hm, h⟩ := Option.bind_eq_some_iff.1 h
    rw [Rd.run_bind, int_run] at h
    obtain ⟨n, hn, h⟩ := Option.bind_eq_some_iff.1 h
    first | rw [Rd.run_ite] at h | rw [Rd.run_if] at h
    split at h
    · rename_i h1
      cases h
      simp only [step, intOf_some hm, intOf_some hn, if_pos h1]
    · simp [Rd.run_no] at h
  case call f args =>
    rw [Rd.run_bind, argList_run] at h
    obtain ⟨es, hes, h⟩ := Option.bind_eq_some_iff.1 h
    rw [Rd.run_bind, Rd.run_call] at h
    obtain ⟨res, hres, h⟩ := Option.bind_eq_some_iff.1 h
    obtain ⟨rfl, h2⟩ := res_run h
    simp only [step, Cal.eqn, hes, hres, Option.bind_some, h2]
  case callv x args =>
    rw [Rd.run_bind, ent_run] at h
    have h := notDead_bind h
    split at h
    · rename_i A C g' he
      rw [Rd.run_bind, argList_run] at h
      obtain ⟨es, hes, h⟩ := Option.bind_eq_some_iff.1 h
      rw [Rd.run_bind, Rd.run_of] at h
      obtain ⟨a, ha, h⟩ := Option.bind_eq_some_iff.1 h
      rw [Rd.run_bind, Rd.run_of] at h
      obtain ⟨r, hr, h⟩ := Option.bind_eq_some_iff.1 h
      first | rw [Rd.run_ite] at h | rw [Rd.run_if] at h
      split at h
      · rename_i h1; cases h; simp only [step, he, hes, ha, hr, Option.bind_some, if_pos h1]
      · simp [Rd.run_no] at h
    · rename_i f A C caps he
      rw [Rd.run_bind, argList_run] at h
      obtain ⟨es, hes, h⟩ := Option.bind_eq_some_iff.1 h
      rw [Rd.run_bind, args_run] at h
      obtain ⟨cs, hcs, h⟩ := Option.bind_eq_some_iff.1 h
      rw [Rd.run_bind, Rd.run_call] at h
      obtain ⟨res, hres, h⟩ := Option.bind_eq_some_iff.1 h
      first | rw [Rd.run_ite] at h | rw [Rd.run_if] at h
      split at h
      · rename_i h1; cases h; simp only [step, Cal.eqn, he, hes, hcs, hres, Option.bind_some, if_pos h1]
      · simp [Rd.run_no] at h
    · simp [Rd.run_no] at h
  case extract k j =>
    rw [Rd.run_bind, Rd.run_get] at h
    have h := notDead_bind h
    rw [Rd.run_of] at h
    unfold extE at h
    split at h
    · rename_i es hk
      split at h
      · rename_i T x hj; cases h; simp only [step, hk, hj]
      · simp at h
    · simp at h
  case mkfn f A C caps =>
    rw [Rd.run_bind] at h
    obtain ⟨cs, hcs, h⟩ := Option.bind_eq_some_iff.1 h
    cases h
    obtain ⟨h1, rfl⟩ := caps_run _ _ hcs
    simp only [step, if_pos h1]
  all_goals simp [Rd.run_no] at h
end

end
end Go.Fw
