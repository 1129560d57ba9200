/- The abstract value machine and its soundness, part 5: a call of the machine that answers is a call of the program that answers so; no conditions. -/
import Derived.Test.YtnobiophckdjfaaFwB4
import Derived.Test.YtnobiophckdjfaaFwB1
import Derived.Orders
import Derived.Laws.Cover3
import Derived.Lib.Bytealg
import Derived.IntWalk
import Derived.OpenShut
import Derived.ChangeOld
import Derived.WideKeyArgs
set_option linter.unusedVariables false
set_option linter.unusedSimpArgs false
/- Soundness: regions whose order is open. -/
namespace Go.Fw
open Go Go.RowKit
abbrev Ch := List (Nat × E)
def Ch.ks (δ : Ch) : List Nat := δ.map (·.1)
theorem look_app_mem {δ : Ch} {env : Env} {k : Nat} (h : k ∈ Ch.ks δ) : look (δ ++ env) k = look δ k := by
 induction δ with
 | nil => simp [Ch.ks] at h
 | cons q δ ih =>
   obtain ⟨j, e⟩ := q
   rw [List.cons_append, look_cons, look_cons]
   split
   ·rfl
   ·rename_i hj
    apply ih
    simp only [Ch.ks, List.map_cons, List.mem_cons] at h
    rcases h with h | h
    ·exact absurd h.symm hj
    ·exact h
theorem look_app_not {δ : Ch} {env : Env} {k : Nat} (h : k ∉ Ch.ks δ) : look (δ ++ env) k = look env k := by
 induction δ with
 | nil => rfl
 | cons q δ ih =>
   obtain ⟨j, e⟩ := q
   simp only [Ch.ks, List.map_cons, List.mem_cons, not_or] at h
   rw [List.cons_append, look_cons, if_neg (fun e => h.1 e.symm)]
   exact ih h.2
def Inv (D : Nat → Ch) (env0 : Env) (S : Nat → Prop) (env : Env) : Prop :=
 ∀ k, (∃ m, S m ∧ k ∈ (D m).ks ∧ (∀ m', m < m' → S m' → k ∉ (D m').ks) ∧ look env k = look (D m) k) ∨ ((∀ m, S m → k ∉ (D m).ks) ∧ look env k = look env0 k)
theorem Inv.start {D : Nat → Ch} {env0 : Env} {S : Nat → Prop} (h : ∀ m, ¬ S m) : Inv D env0 S env0 := fun _ => .inr ⟨fun m hm => absurd hm (h m), rfl⟩
theorem Inv.add {D : Nat → Ch} {env0 env : Env} {S : Nat → Prop} {i : Nat} (h : Inv D env0 S env) (hi : ∀ k ∈ (D i).ks, ∀ m', i < m' → S m' → k ∉ (D m').ks) : Inv D env0 (fun m => S m ∨ m = i) (D i ++ env) := by
 intro k
 by_cases hk : k ∈ (D i).ks
 ·refine .inl ⟨i, .inr rfl, hk, fun m' hm hs => ?_, look_app_mem hk⟩
  rcases hs with hs | rfl
  ·exact hi k hk m' hm hs
  ·omega
 ·rw [look_app_not hk]
  rcases h k with ⟨m, h1, h2, h3, h4⟩ | ⟨h1, h2⟩
  ·refine .inl ⟨m, .inl h1, h2, fun m' hm hs => ?_, h4⟩
   rcases hs with hs | rfl
   ·exact h3 m' hm hs
   ·exact hk
  ·refine .inr ⟨fun m hm => ?_, h2⟩
   rcases hm with hm | rfl
   ·exact h1 m hm
   ·exact hk
theorem Inv.set {D : Nat → Ch} {env0 env : Env} {S S' : Nat → Prop} (h : Inv D env0 S env) (hs : ∀ m, S m ↔ S' m) : Inv D env0 S' env := by
 intro k
 rcases h k with ⟨m, h1, h2, h3, h4⟩ | ⟨h1, h2⟩
 ·exact .inl ⟨m, (hs m).1 h1, h2, fun m' hm hs' => h3 m' hm ((hs m').2 hs'), h4⟩
 ·exact .inr ⟨fun m hm => h1 m ((hs m).2 hm), h2⟩
theorem Inv.ext {D : Nat → Ch} {env0 e1 e2 : Env} {S : Nat → Prop} (h : Inv D env0 S e1) (he : ∀ k, look e2 k = look e1 k) : Inv D env0 S e2 := by
 intro k
 rcases h k with ⟨m, h1, h2, h3, h4⟩ | ⟨h1, h2⟩
 ·exact .inl ⟨m, h1, h2, h3, by rw [he]; exact h4⟩
 ·exact .inr ⟨h1, by rw [he]; exact h2⟩
theorem Inv.same {D : Nat → Ch} {env0 e1 e2 : Env} {S S' : Nat → Prop} {k : Nat} (h : Inv D env0 S e1) (h' : Inv D env0 S' e2) (hk : ∀ m, k ∈ (D m).ks → (S m ↔ S' m)) : look e1 k = look e2 k := by
 rcases h k with ⟨m, h1, h2, h3, h4⟩ | ⟨h1, h2⟩
 ·rcases h' k with ⟨m', h1', h2', h3', h4'⟩ | ⟨h1', _⟩
  ·have : m = m' := by
    rcases Nat.lt_trichotomy m m' with hl | hl | hl
    ·exact absurd h2' (h3 m' hl ((hk m' h2').2 h1'))
    ·exact hl
    ·exact absurd h2 (h3' m hl ((hk m h2).1 h1))
   subst this
   rw [h4, h4']
  ·exact absurd h2 (h1' m ((hk m h2).1 h1))
 ·rcases h' k with ⟨m', h1', h2', _, _⟩ | ⟨_, h2'⟩
  ·exact absurd h2' (h1 m' ((hk m' h2').2 h1'))
  ·rw [h2, h2']
section
variable {cl : Cal} {env : Env} {R : Type} {K : Kont R}
theorem free_putO {d : Option Nat} {e : E} (h : free env d = true) : putO env d e = one d e ++ env := by
 cases d with
 | none => rfl
 | some d =>
   simp only [free, Bool.not_eq_true'] at h
   simp only [putO, put, h, one, leadsOff]
   rfl
theorem kill_none {s : Nat} : ∀ {env : Env}, (∀ q ∈ env, leads s q.2 = false) → kill s env = env
 | [], _ => rfl
 | q :: env, h => by
   have h1 := kill_none (s := s) (env := env) (fun q' hq => h q' (List.mem_cons_of_mem _ hq))
   unfold kill at h1 ⊢
   rw [List.map_cons, h1, h q (List.mem_cons_self ..)]
   rfl
theorem app_pub {d : Option Nat} {k0 : Nat} {x : Od} {q : TV × List (Nat × E)} (h : (appR d k0 x).run (look env) = some q) :
  pub env x = some (q.2 ++ env, q.1) ∧ (∀ s, ∀ u ∈ q.2, leads s u.2 = false) ∧ look (q.2 ++ env) k0 = look env k0 ∧ ∀ d', d = some d' → look (q.2 ++ env) d' = look env d' := by
 unfold appR at h
 rw [Rd.run_bind, ent_run] at h
 replace h := notDead_bind h
 split at h
 ·rename_i T y he
  cases h
  refine ⟨by unfold pub; rw [he]; rfl, fun s u hu => by simp at hu, rfl, fun _ _ => rfl⟩
 ·rename_i wr ed T o xs he
  split at h
  ·rename_i k
   rw [Rd.run_if] at h
   split at h
   ·rename_i hc
    simp only [Bool.and_eq_true, Bool.not_eq_true', beq_eq_false_iff_ne] at hc
    obtain ⟨⟨h1, h2⟩, h3⟩ := hc
    cases h
    have hl : look env k = .own wr ed T o xs := he
    refine ⟨?_, fun s u hu => ?_, ?_, fun d' hd => ?_⟩
    ·unfold pub
     rw [he]
     simp only [imm, h3, if_true, Option.bind_some, homeOf, freeze, hl]
     rfl
    ·simp only [List.mem_singleton] at hu; subst hu; rfl
    ·show look ((k, _) :: env) k0 = _
     rw [look_cons, if_neg h1]
    ·subst hd
     simp only [apart, Bool.not_eq_true', beq_eq_false_iff_ne] at h2
     show look ((k, _) :: env) d' = _
     rw [look_cons, if_neg (Ne.symm h2)]
   ·simp [Rd.run_no] at h
  ·simp [Rd.run_no] at h
 ·simp [Rd.run_no] at h
def Frzn (d : Option Nat) (env : Env) (ch : List (Nat × E)) : Prop := ∀ q ∈ ch, (∃ wr ed T o, ∃ xs : List (den T), look env q.1 = .own wr ed T o xs) ∧ apart d q.1 = true
theorem look_frzn {d : Option Nat} {ch : List (Nat × E)} {k : Nat} (h : ∀ q ∈ ch, q.1 ≠ k) : look (ch ++ env) k = look env k := by
 induction ch with
 | nil => rfl
 | cons q ch ih =>
   rw [List.cons_append, look_cons, if_neg (h q (List.mem_cons_self ..))]
   exact ih fun q' hq => h q' (List.mem_cons_of_mem _ hq)
theorem pub_run {d : Option Nat} {ch : List (Nat × E)} {x : Od} {q : TV × List (Nat × E)} (hc : Frzn d env ch) (h : (pubR d ch x).run (look env) = some q) : pub (ch ++ env) x = some (q.2 ++ env, q.1) ∧ Frzn d env q.2 := by
 unfold pubR at h
 rw [Rd.run_bind, ent_run] at h
 replace h := notDead_bind h
 split at h
 ·rename_i T y he
  cases h
  have he2 : ent (ch ++ env) x = .v T y := by
   cases x with
   | t k =>
     have he : look env k = .v T y := he
     show look (ch ++ env) k = _
     rw [look_frzn (d := d) fun u hu e => ?_, he]
     obtain ⟨⟨wr, ed, T', o, xs, h1⟩, _⟩ := hc u hu
     rw [e, he] at h1; cases h1
   | c T' y' => exact he
   | nil e T' => exact he
   | fn f A C => exact he
  exact ⟨by unfold pub; rw [he2]; rfl, hc⟩
 ·rename_i wr ed T o xs he
  split at h
  ·rename_i k
   rw [Rd.run_if] at h
   split at h
   ·rename_i hk
    simp only [Bool.and_eq_true, List.all_eq_true, Bool.not_eq_true', beq_eq_false_iff_ne] at hk
    obtain ⟨⟨h1, h2⟩, h3⟩ := hk
    cases h
    have he : look env k = .own wr ed T o xs := he
    have hl : look (ch ++ env) k = .own wr ed T o xs := by rw [look_frzn (d := d) h1, he]
    have he2 : ent (ch ++ env) (.t k) = .own wr ed T o xs := hl
    refine ⟨?_, fun u hu => ?_⟩
    ·unfold pub
     rw [he2]
     simp only [imm, h3, if_true, Option.bind_some, homeOf, freeze, hl]
     rfl
    ·rcases List.mem_cons.1 hu with rfl | hu
     ·exact ⟨⟨wr, ed, T, o, xs, he⟩, h2⟩
     ·exact hc u hu
   ·simp [Rd.run_no] at h
  ·simp [Rd.run_no] at h
 ·simp [Rd.run_no] at h
theorem buildP_run {d : Option Nat} : ∀ (T : Ty) (x : den T) (ch : List (Nat × E)) (l : List (Path × Od)) (q : den T × List (Nat × E)), Frzn d env ch → (buildP d T x ch l).run (look env) = some q → buildV T x (ch ++ env) l = some (q.2 ++ env, q.1) ∧ Frzn d env q.2
 | T, x, ch, [], q, hc, h => by simp only [buildP, Rd.run_ok, Option.some.injEq] at h; subst h; exact ⟨by simp [buildV], hc⟩
 | T, x, ch, (p, a) :: r, q, hc, h => by
   unfold buildP at h
   rw [Rd.run_bind] at h
   obtain ⟨u, hu, h⟩ := Option.bind_eq_some_iff.1 h
   rw [Rd.run_bind, Rd.run_of] at h
   obtain ⟨z, hz, h⟩ := Option.bind_eq_some_iff.1 h
   obtain ⟨h1, h2⟩ := pub_run hc hu
   unfold buildV
   rw [h1]
   simp only [Option.bind_some, hz]
   exact buildP_run T z u.2 r q h2 h
theorem wrR_step {d : Option Nat} {op : AOp} {g : Option (Nat × Bool)} {δ : Ch} (h : (wrR cl d op).run (look env) = some δ) (hf : free env d = true) (hn : ∀ s, eatsOf op = some s → ∀ q ∈ env, leads s q.2 = false) : step cl ⟨d, op, g⟩ env K = K (δ ++ env) := by
 have pure : ((valE cl d op).bind fun e => Rd.ok (one d e)).run (look env) = some δ → step cl ⟨d, op, g⟩ env K = K (δ ++ env) := by
  intro h
  rw [Rd.run_bind] at h
  obtain ⟨e, he, h⟩ := Option.bind_eq_some_iff.1 h
  cases h
  rw [valE_step (i := ⟨d, op, g⟩) he, free_putO hf]
 cases op
 case store T a x =>
  simp only [wrR] at h
  rw [Rd.run_bind, val_run] at h
  obtain ⟨y, hy, h⟩ := Option.bind_eq_some_iff.1 h
  rw [Rd.run_bind, Rd.run_of] at h
  obtain ⟨z, hz, h⟩ := Option.bind_eq_some_iff.1 h
  rw [Rd.run_bind, ent_run] at h
  have h := notDead_bind h
  have hpub := pub_val hy
  have hx := valOf_some hy
  have himm : imm env (ent env x) = some y := by rw [hx]; rfl
  have loc : ∀ s p, locPlace env a = some (s, p) → (stoR T z s p (look env s)).run (look env) = some δ → step cl ⟨d, .store T a x, g⟩ env K = K (δ ++ env) := by
   intro s p h0 h
   have h1 : ∀ T0 o x0, look env s = .loc T0 o x0 → (scalarT T || (annAt o p).pure) = true → step cl ⟨d, .store T a x, g⟩ env K = (setP T0 p x0 ⟨T, z⟩).bind fun x1 => K ((s, .loc T0 o x1) :: env) := by
    intro T0 o x0 hl hsc
    unfold locPlace at h0
    by_cases hs1 : scalarT T = true
    case neg =>
     have hp : (annAt o p).pure = true := by simpa [hs1] using hsc
     cases he : ent env a <;> rw [he] at h0 <;> first | (exfalso; simp at h0; done) | skip
     ·simp only [step, he, locPlace, h0, hl, if_neg hs1, hx, hpub, Option.bind_some, hz, hp]
     ·simp only [Option.some.injEq, Prod.mk.injEq] at h0
      obtain ⟨rfl, rfl⟩ := h0
      simp only [step, he, locPlace, hl, if_neg hs1, hx, hpub, Option.bind_some, hz, hp]
    replace hsc := hs1
    cases he : ent env a <;> rw [he] at h0 <;> first | (exfalso; simp at h0; done) | skip
    ·simp only [step, he, locPlace, h0, hl, hsc, if_true, himm, Option.bind_some, hz]
    ·simp only [Option.some.injEq, Prod.mk.injEq] at h0
     obtain ⟨rfl, rfl⟩ := h0
     simp only [step, he, locPlace, hl, hsc, if_true, himm, Option.bind_some, hz]
   cases hl : look env s <;> rw [hl] at h <;> simp only [stoR, Rd.run_no] at h <;> first | (exfalso; simp at h; done) | skip
   rename_i T0 o x0
   rw [Rd.run_if] at h
   split at h
   ·rename_i hsc
    rw [Rd.run_bind, Rd.run_of] at h
    obtain ⟨x1, hx1, h⟩ := Option.bind_eq_some_iff.1 h
    cases h
    rw [h1 T0 o x0 hl hsc, hx1]
    rfl
   ·simp [Rd.run_no] at h
  split at h
  ·rename_i s j q he
   rw [Rd.run_bind, Rd.run_get] at h
   have h := notDead_bind h
   cases hl : look env s <;> rw [hl] at h <;> simp only [stoH, Rd.run_no] at h <;> first | (exfalso; simp at h; done) | skip
   rename_i wr ed T0 o xs
   cases wr
   ·simp [Rd.run_no] at h
   ·simp only [Rd.run_ite] at h
    split at h
    ·rename_i hj
     rw [Rd.run_bind, Rd.run_of] at h
     obtain ⟨u, hu, h⟩ := Option.bind_eq_some_iff.1 h
     rw [Rd.run_if] at h
     split at h
     ·rename_i ho
      cases h
      simp only [step, he, hl, hpub, Option.bind_some, hz, if_pos hj, hu, if_pos ho]
      rfl
     ·simp [Rd.run_no] at h
    ·simp [Rd.run_no] at h
  ·rename_i s p he
   rw [Rd.run_bind, Rd.run_get] at h
   exact loc s p (by simp only [locPlace, he]) (notDead_bind h)
  ·rename_i T0 o x0 he
   split at h
   ·rename_i k _ _ _
    have hl : look env k = .loc T0 o x0 := he
    rw [he, ← hl] at h
    exact loc k [] (by simp only [locPlace, he, Od.slot, Option.map_some]) h
   ·simp [Rd.run_no] at h
  ·simp [Rd.run_no] at h
 case sliceL T x lo hi mx =>
  simp only [wrR] at h
  rw [Rd.run_bind, ent_run] at h
  have h := notDead_bind h
  split at h
  ·rename_i s p he
   split at h
   ·rw [Rd.run_bind, Rd.run_get] at h
    have h := notDead_bind h
    split at h
    ·rename_i wr ed T' o xs hl
     rw [Rd.run_if] at h
     split at h
     ·rename_i ho
      rw [Rd.run_bind] at h
      obtain ⟨v, hv, h⟩ := Option.bind_eq_some_iff.1 h
      cases h
      unfold slcR at hv
      rw [Rd.run_bind, optInt_run] at hv
      obtain ⟨q1, hq1, hv⟩ := Option.bind_eq_some_iff.1 hv
      rw [Rd.run_bind, optInt_run] at hv
      obtain ⟨q2, hq2, hv⟩ := Option.bind_eq_some_iff.1 hv
      rw [Rd.run_bind, optInt_run] at hv
      obtain ⟨q3, hq3, hv⟩ := Option.bind_eq_some_iff.1 hv
      rw [Rd.run_bind, Rd.run_of] at hv
      obtain ⟨ys, hys, hv⟩ := Option.bind_eq_some_iff.1 hv
      rw [Rd.run_ite] at hv
      split at hv
      ·rename_i hb
       cases hv
       have hpub : pub env x = some (freeze env s, ⟨.sl T', xs⟩) := by simp [pub, he, imm, heldAt, hl, ho, homeOf]
       have hfr : freeze env s = (s, .own false ed T' o.frz xs) :: env := by simp [freeze, hl]
       have hf2 : free ((s, .own false ed T' o.frz xs) :: env) d = true := by
        cases d with
        | none => rfl
        | some d =>
          simp only [free] at hf ⊢
          rw [look_cons]
          by_cases hsd : s = d
          ·subst hsd; rw [hl] at hf; simp [E.home] at hf
          ·rw [if_neg hsd]; exact hf
       simp only [step, hq1, hq2, hq3, Option.bind_some, hpub, hys, if_pos hb, hfr, free_putO hf2, List.append_assoc, List.cons_append, List.nil_append]
      ·simp [Rd.run_no] at hv
     ·simp [Rd.run_no] at h
    ·simp [Rd.run_no] at h
   ·simp [Rd.run_no] at h
  ·exact pure h
 case cp x =>
  simp only [wrR] at h
  rw [Rd.run_bind, ent_run] at h
  replace h := notDead_bind h
  split at h
  ·rename_i T y he
   cases h
   have hpub : pub env x = some (env, ⟨T, y⟩) := by simp [pub, he, imm, homeOf]
   simp only [step, hpub, Option.bind_some, free_putO hf]
  ·rename_i wr ed T o xs he
   split at h
   ·rename_i k
    rw [Rd.run_if] at h
    split at h
    ·rename_i ho
     cases h
     have hl : look env k = .own wr ed T o xs := he
     have hpub : pub env (.t k) = some (freeze env k, ⟨.sl T, xs⟩) := by simp [pub, he, imm, ho, homeOf]
     have hfr : freeze env k = (k, .own false ed T o.frz xs) :: env := by simp [freeze, hl]
     have hf2 : free ((k, .own false ed T o.frz xs) :: env) d = true := by
      cases d with
      | none => rfl
      | some d =>
        simp only [free] at hf ⊢
        rw [look_cons]
        by_cases hsd : k = d
        ·subst hsd; rw [hl] at hf; simp [E.home] at hf
        ·rw [if_neg hsd]; exact hf
     simp only [step, Option.bind_some, hpub, hfr, free_putO hf2, List.append_assoc, List.cons_append, List.nil_append]
    ·simp [Rd.run_no] at h
   ·simp [Rd.run_no] at h
  ·simp [Rd.run_no] at h
 case mv x =>
  simp only [wrR] at h
  rw [Rd.run_bind, ent_run] at h
  replace h := notDead_bind h
  split at h
  ·rename_i es he
   split at h
   ·rename_i k d
    rw [Rd.run_if] at h
    split at h
    ·simp [Rd.run_no] at h
    ·rename_i hkd
     cases h
     have hh : (look env d).home = false := by simpa [free] using hf
     simp only [step, moveE, he, hkd, hh]
     rfl
   ·simp [Rd.run_no] at h
  ·exact pure h
 case build T parts =>
  simp only [wrR] at h
  rw [Rd.run_bind] at h
  obtain ⟨q, hq, h⟩ := Option.bind_eq_some_iff.1 h
  cases h
  obtain ⟨h1, h2⟩ := buildP_run T (zero T) [] parts q (fun u hu => by simp at hu) hq
  rw [List.nil_append] at h1
  have hf2 : free (q.2 ++ env) d = true := by
   cases hd : d with
   | none => rfl
   | some d' =>
     subst hd
     simp only [free] at hf ⊢
     rw [look_frzn (d := some d') fun u hu e => ?_]
     ·exact hf
     ·have := (h2 u hu).2
      simp only [apart, Bool.not_eq_true', beq_eq_false_iff_ne] at this
      exact this e.symm
  simp only [step, h1, Option.bind_some, free_putO hf2, List.append_assoc]
 case append e T lim s x =>
  simp only [wrR] at h
  split at h
  case h_2 => simp [Rd.run_no] at h
  rename_i k0
  rw [Rd.run_bind, Rd.run_get] at h
  have h := notDead_bind h
  split at h
  case h_2 => simp [Rd.run_no] at h
  rename_i wr e' T' o xs hk0
  rw [Rd.run_bind] at h
  obtain ⟨q, hq, h⟩ := Option.bind_eq_some_iff.1 h
  rw [Rd.run_bind, Rd.run_of] at h
  obtain ⟨ys, hys, h⟩ := Option.bind_eq_some_iff.1 h
  rw [Rd.run_bind, Rd.run_of] at h
  obtain ⟨xs', hxs, h⟩ := Option.bind_eq_some_iff.1 h
  rw [Rd.run_if] at h
  split at h
  case isFalse => simp [Rd.run_no] at h
  rename_i hc
  rw [Rd.run_ite] at h
  split at h
  case isFalse => simp [Rd.run_no] at h
  rename_i hle
  cases h
  obtain ⟨p1, p2, p3, p4⟩ := app_pub hq
  have hl : look (q.2 ++ env) k0 = .own wr e' T' o xs := p3.trans hk0
  have hkill : kill k0 (q.2 ++ env) = q.2 ++ env := kill_none fun u hu => by
   rcases List.mem_append.1 hu with hu | hu
   ·exact p2 k0 u hu
   ·exact hn k0 rfl u hu
  have h1 : placeOf (q.2 ++ env) k0 = some (k0, []) := by unfold placeOf; rw [hl]
  have h2 : heldAt (q.2 ++ env) k0 [] = some ⟨wr, e', T', o, xs⟩ := by unfold heldAt; rw [hl]
  have h3 : takeAt (q.2 ++ env) k0 [] = some ((k0, .dead) :: (q.2 ++ env)) := by unfold takeAt; rw [hl, hkill]
  have h4 : free ((k0, .dead) :: (q.2 ++ env)) d = true := by
   cases hd : d with
   | none => rfl
   | some d' =>
     subst hd
     simp only [Bool.and_eq_true, apart, Bool.not_eq_true', beq_eq_false_iff_ne] at hc
     simp only [free] at hf ⊢
     rw [look_cons, if_neg (Ne.symm hc.1.1), p4 d' rfl]; exact hf
  simp only [step, p1, Option.bind_some, hys, h1, h2, hxs, h3, hc, if_pos hle, free_putO h4, List.append_assoc, List.cons_append]
 case callF f args =>
  simp only [wrR] at h
  rw [Rd.run_bind, argList_run] at h
  obtain ⟨es, hes, h⟩ := Option.bind_eq_some_iff.1 h
  rw [Rd.run_bind, Rd.run_call] at h
  obtain ⟨res, hres, h⟩ := Option.bind_eq_some_iff.1 h
  rw [Rd.run_bind] at h
  obtain ⟨e, he, h⟩ := Option.bind_eq_some_iff.1 h
  obtain ⟨rfl, h2⟩ := res_run he
  cases h
  have h3 : fzD d (one d (resE res) ++ env) = fzD d (one d (resE res)) ++ env := by cases d <;> rfl
  simp only [step, Cal.eqn, hes, hres, Option.bind_some, h2, free_putO hf, h3]
 all_goals exact pure h
end
def inB (l : List Nat) (k : Nat) : Bool := l.any fun j => j == k
theorem inB_iff {l : List Nat} {k : Nat} : inB l k = true ↔ k ∈ l := by simp [inB]
def okEdge (ops : Array Oper) (l : List DI) (j : Nat) (i : DI) : Bool :=
 match ops[j]? with
 | some o => (o.after.toList.all fun e => !Region.binds .any e || decide (e.on < j)) &&
   i.pre.all fun p => decide (p < j) && o.after.toList.any fun e => Region.binds .any e && (e.on == p || (match l[e.on]? with | some u => inB u.pre p | none => false))
 | none => false
def okPair (i j : Nat) (a b : DI) : Bool := i == j || inB a.pre j || inB b.pre i || (!a.piv && !b.piv && b.wr.all fun k => inB a.hide k && !inB a.wr k)
def safeOf : List DI → List Nat
 | i :: _ => i.safe
 | [] => []
def okE (l : List DI) (i : DI) : Bool := i.safe == safeOf l && (i.piv || match eatsOf i.ai.op with | some k => inB i.safe k | none => true)
def okD (P : Program) (n : Nat) (ops : Array Oper) (l : List DI) : Bool :=
 P.follows .mixedOrders && okOps P n ops 0 (l.map (·.ai)) &&
 (l.zipIdx.all fun q => okEdge ops l q.2 q.1 && (match q.1.ai.dst with | some d => inB q.1.wr d | none => true) && (!q.1.piv || q.1.ai.guard.isNone) && okE l q.1) &&
 l.zipIdx.all fun q => l.zipIdx.all fun u => okPair q.2 u.2 q.1 u.1
theorem zipIdx_get {α : Type} {l : List α} {i : Nat} {x : α} (h : l[i]? = some x) : (x, i) ∈ l.zipIdx := by
 rw [List.mem_zipIdx_iff_getElem?]; exact h
theorem okOps_get {P : Program} {n : Nat} {ops : Array Oper} : ∀ (l : List AI) (j : Nat), okOps P n ops j l = true → j + l.length = ops.size ∧ ∀ (m : Nat) (i : AI), l[m]? = some i → ∃ o, ops[j + m]? = some o ∧ okGuard ops o.guard i.guard = true ∧ okAI P n o i = true
 | [], j, h => by simp only [okOps, beq_iff_eq] at h; exact ⟨by simpa using h, fun m i hm => by simp at hm⟩
 | i :: r, j, h => by
   simp only [okOps, Bool.and_eq_true] at h
   obtain ⟨h1, h2⟩ := h
   obtain ⟨h3, h4⟩ := okOps_get r (j + 1) h2
   refine ⟨by simp only [List.length_cons]; omega, fun m i' hm => ?_⟩
   cases m with
   | zero =>
     simp only [List.getElem?_cons_zero, Option.some.injEq] at hm
     subst hm
     split at h1
     ·rename_i o ho
      simp only [Bool.and_eq_true] at h1
      exact ⟨o, by simpa using ho, h1.1, h1.2⟩
     ·simp at h1
   | succ m =>
     simp only [List.getElem?_cons_succ] at hm
     obtain ⟨o, ho, h5⟩ := h4 m i' hm
     exact ⟨o, by rw [← ho]; congr 1; omega, h5⟩
theorem countP_lt {α : Type} {p q : α → Bool} : ∀ {l : List α}, (∀ x ∈ l, p x = true → q x = true) → (∃ x ∈ l, q x = true ∧ p x = false) → l.countP p < l.countP q
 | [], _, h => by obtain ⟨x, hx, _⟩ := h; simp at hx
 | y :: l, h1, h2 => by
   have hle : l.countP p ≤ l.countP q := List.countP_mono_left fun x hx => h1 x (List.mem_cons_of_mem _ hx)
   rw [List.countP_cons, List.countP_cons]
   by_cases hy : q y = true ∧ p y = false
   ·simp only [hy.1, hy.2, if_true, Bool.false_eq_true, if_false]; omega
   ·have h3 : ∃ x ∈ l, q x = true ∧ p x = false := by
     obtain ⟨x, hx, hq⟩ := h2
     rcases List.mem_cons.1 hx with rfl | hx
     ·exact absurd hq hy
     ·exact ⟨x, hx, hq⟩
    have := countP_lt (fun x hx => h1 x (List.mem_cons_of_mem _ hx)) h3
    have h4 : (if p y = true then 1 else 0) ≤ (if q y = true then 1 else 0) := by
     split
     ·rw [if_pos (h1 y (by simp) (by assumption))]; exact Nat.le_refl _
     ·split <;> omega
    omega
section
variable {P : Program} {B : Nat} {G0 : Nat → Nat → Prop} {W0 : World} {n : Nat} {cl : Cal}
variable {R : Type} {r : R} {Q : Exit → Act → World → Prop}
def Did (cl : Cal) (i : DI) (L : Nat → E) (δ : Ch) : Prop :=
 match i.ai.guard with
 | none => (wrR cl i.ai.dst i.ai.op).run (hid i.hide L) = some δ
 | some (s, pol) => (hid i.hide L s = .v .bool pol ∧ (wrR cl i.ai.dst i.ai.op).run (hid i.hide L) = some δ) ∨
   ((hid i.hide L s = .v .bool (!pol) ∨ hid i.hide L s = .und) ∧ δ = one i.ai.dst .und)
structure Text (cl : Cal) (l : List DI) (env0 : Env) (D : Nat → Ch) (T : Nat → Env) : Prop where
 start : T 0 = env0
 next : ∀ m k, look (T (m + 1)) k = look (D m ++ T m) k
 at' : ∀ (m : Nat) (i : DI), l[m]? = some i → i.piv = false → Did cl i (look (T m)) (D m) ∧ free (T m) i.ai.dst = true ∧ ∀ k ∈ (D m).ks, k ∈ i.wr
 piv : ∀ (m : Nat) (i : DI), l[m]? = some i → i.piv = true → step cl i.ai (T m) (some : Kont Env) = some (T (m + 1))
 out : ∀ m, l[m]? = none → D m = []
 safe : ∀ (m : Nat) (i : DI), l[m]? = some i → ∀ s ∈ i.safe, (∀ q ∈ T m, leads s q.2 = false) ∧ (∀ q ∈ D m, leads s q.2 = false) ∧ ∀ q ∈ T (m + 1), leads s q.2 = false
theorem look_app_ext {δ : Ch} {e1 e2 : Env} (h : ∀ k, look e1 k = look e2 k) (k : Nat) : look (δ ++ e1) k = look (δ ++ e2) k := by
 by_cases hk : k ∈ Ch.ks δ
 ·rw [look_app_mem hk, look_app_mem hk]
 ·rw [look_app_not hk, look_app_not hk, h]
theorem Text.cons {l : List DI} {i : DI} {env0 env' : Env} {δ : Ch} {D : Nat → Ch} {T : Nat → Env} (ht : Text cl l (δ ++ env') D T) (he : ∀ k, look env' k = look env0 k) (hp : i.piv = false) (hd : Did cl i (look env0) δ) (hw : okW i env0 δ = true) (hnl : ∀ s ∈ i.safe, ∀ q ∈ env', leads s q.2 = false) :
  Text cl (i :: l) env0 (fun m => match m with | 0 => δ | m + 1 => D m) (fun m => match m with | 0 => env0 | m + 1 => T m) := by
 simp only [okW, okS, Bool.and_eq_true, List.all_eq_true, Bool.not_eq_true'] at hw
 obtain ⟨hw, hsf⟩ := hw
 refine ⟨rfl, fun m k => ?_, fun m i' hm hpi => ?_, fun m i' hm hpi => ?_, fun m hm => ?_, fun m i' hm s hs => ?_⟩
 ·cases m with
  | zero => simp only [ht.start]; exact look_app_ext he k
  | succ m => exact ht.next m k
 ·cases m with
  | zero =>
    simp only [List.getElem?_cons_zero, Option.some.injEq] at hm
    subst hm
    refine ⟨hd, hw.1, fun k hk => ?_⟩
    obtain ⟨q, hq, rfl⟩ := List.mem_map.1 hk
    exact inB_iff.1 (hw.2 q hq)
  | succ m => exact ht.at' m i' (by simpa using hm) hpi
 ·cases m with
  | zero =>
    simp only [List.getElem?_cons_zero, Option.some.injEq] at hm
    subst hm
    rw [hp] at hpi; cases hpi
  | succ m => exact ht.piv m i' (by simpa using hm) hpi
 ·cases m with
  | zero => simp at hm
  | succ m => exact ht.out m (by simpa using hm)
 ·cases m with
  | zero =>
    simp only [List.getElem?_cons_zero, Option.some.injEq] at hm
    subst hm
    refine ⟨fun q hq => hsf s hs q (List.mem_append_right _ hq), fun q hq => hsf s hs q (List.mem_append_left _ hq), fun q hq => ?_⟩
    simp only [ht.start] at hq
    rcases List.mem_append.1 hq with hq | hq
    ·exact hsf s hs q (List.mem_append_left _ hq)
    ·exact hnl s hs q hq
  | succ m => exact ht.safe m i' (by simpa using hm) s hs
def allOf (env' env : Env) : Ch := env' ++ env.map fun q => (q.1, look env' q.1)
theorem look_allOf (env' env : Env) (k : Nat) : look (allOf env' env ++ env) k = look env' k := by
 unfold allOf
 by_cases h1 : k ∈ Ch.ks env'
 ·rw [List.append_assoc, look_app_mem h1]
 ·rw [List.append_assoc, look_app_not h1]
  have hd : look env' k = .dead := by
   have := look_app_not (env := []) h1
   rw [List.append_nil] at this
   exact this
  have key : ∀ (e2 : Env), look (e2.map (fun q => (q.1, look env' q.1)) ++ env) k = if k ∈ Ch.ks e2 then look env' k else look env k := by
   intro e2
   induction e2 with
   | nil => simp [Ch.ks]
   | cons q e2 ih =>
     rw [List.map_cons, List.cons_append, look_cons]
     by_cases hq : q.1 = k
     ·rw [if_pos hq, hq]; simp [Ch.ks, hq]
     ·have hk : k ∈ Ch.ks (q :: e2) ↔ k ∈ Ch.ks e2 := by simp [Ch.ks, Ne.symm hq]
      rw [if_neg hq, ih]
      by_cases h3 : k ∈ Ch.ks e2
      ·rw [if_pos h3, if_pos (hk.2 h3)]
      ·rw [if_neg h3, if_neg (fun h => h3 (hk.1 h))]
  rw [key]
  split
  ·rfl
  ·rename_i h2
   have := look_app_not (env := []) h2
   rw [List.append_nil] at this
   rw [hd, this]; rfl
theorem look_noleads {s : Nat} : ∀ {env : Env}, (∀ q ∈ env, leads s q.2 = false) → ∀ k, leads s (look env k) = false
 | [], _, k => rfl
 | q :: env, h, k => by
   rw [look_cons]
   split
   ·exact h q (List.mem_cons_self ..)
   ·exact look_noleads (fun q' hq => h q' (List.mem_cons_of_mem _ hq)) k
theorem Text.consP {l : List DI} {i : DI} {env0 env' : Env} {D : Nat → Ch} {T : Nat → Env} (ht : Text cl l env' D T) (hp : i.piv = true) (hs : step cl i.ai env0 (some : Kont Env) = some env') (hw0 : okS i env0 = true) (hw1 : okS i env' = true) :
  Text cl (i :: l) env0 (fun m => match m with | 0 => allOf env' env0 | m + 1 => D m) (fun m => match m with | 0 => env0 | m + 1 => T m) := by
 simp only [okS, List.all_eq_true, Bool.not_eq_true'] at hw0 hw1
 refine ⟨rfl, fun m k => ?_, fun m i' hm hpi => ?_, fun m i' hm hpi => ?_, fun m hm => ?_, fun m i' hm s hs => ?_⟩
 ·cases m with
  | zero => simp only [ht.start]; exact (look_allOf env' env0 k).symm
  | succ m => exact ht.next m k
 ·cases m with
  | zero =>
    simp only [List.getElem?_cons_zero, Option.some.injEq] at hm
    subst hm
    rw [hp] at hpi; cases hpi
  | succ m => exact ht.at' m i' (by simpa using hm) hpi
 ·cases m with
  | zero =>
    simp only [List.getElem?_cons_zero, Option.some.injEq] at hm
    subst hm
    simp only [ht.start]; exact hs
  | succ m => exact ht.piv m i' (by simpa using hm) hpi
 ·cases m with
  | zero => simp at hm
  | succ m => exact ht.out m (by simpa using hm)
 ·cases m with
  | zero =>
    simp only [List.getElem?_cons_zero, Option.some.injEq] at hm
    subst hm
    refine ⟨hw0 s hs, fun q hq => ?_, fun q hq => ?_⟩
    ·simp only [allOf] at hq
     rcases List.mem_append.1 hq with hq | hq
     ·exact hw1 s hs q hq
     ·obtain ⟨u, hu, rfl⟩ := List.mem_map.1 hq
      exact look_noleads (hw1 s hs) _
    ·simp only [ht.start] at hq
     exact hw1 s hs q hq
  | succ m => exact ht.safe m i' (by simpa using hm) s hs
theorem draws_text {K : Kont R} : ∀ (l : List DI) (env0 : Env), draws cl l env0 K = some r → ∃ D T, Text cl l env0 D T ∧ K (T l.length) = some r
 | [], env0, h => ⟨fun _ => [], fun _ => env0, ⟨rfl, fun _ _ => rfl, fun m i hm => by simp at hm, fun m i hm => by simp at hm, fun _ _ => rfl, fun m i hm => by simp at hm⟩, h⟩
 | i :: l, env0, h => by
   simp only [draws] at h
   cases hpv : i.piv with
   | true =>
     rw [hpv] at h
     simp only at h
     split at h
     case h_2 => simp at h
     rename_i hw0
     rw [step_bind] at h
     obtain ⟨env', h1, h2⟩ := Option.bind_eq_some_iff.1 h
     split at h2
     case h_2 => simp at h2
     rename_i hw1
     obtain ⟨D, T, ht, hk⟩ := draws_text l _ h2
     exact ⟨_, _, ht.consP hpv h1 hw0 hw1, hk⟩
   | false =>
   rw [hpv] at h
   simp only at h
   have yes : ∀ env', (∀ k, look env' k = look env0 k) → (∀ s, (∀ q ∈ env0, leads s q.2 = false) → ∀ q ∈ env', leads s q.2 = false) → (∀ δ, (wrR cl i.ai.dst i.ai.op).run (hid i.hide (look env0)) = some δ → Did cl i (look env0) δ) →
     ((wrR cl i.ai.dst i.ai.op).runK (hid i.hide (look env0)) fun δ => match okW i env0 δ with
      | true => draws cl l (δ ++ env') K
      | false => none) = some r → ∃ D T, Text cl (i :: l) env0 D T ∧ K (T (i :: l).length) = some r := by
    intro env' he hnl hd h
    rw [Rd.eqn] at h
    obtain ⟨δ, hδ, h⟩ := Option.bind_eq_some_iff.1 h
    split at h
    ·rename_i hc
     obtain ⟨D, T, ht, hk⟩ := draws_text l _ h
     have hc2 := hc
     simp only [okW, okS, Bool.and_eq_true, List.all_eq_true, Bool.not_eq_true'] at hc2
     exact ⟨_, _, ht.cons he hpv (hd δ hδ) hc (fun s hs => hnl s fun q hq => hc2.2 s hs q (List.mem_append_right _ hq)), hk⟩
    ·simp at h
   have nope : ∀ env', (∀ k, look env' k = look env0 k) → (∀ s, (∀ q ∈ env0, leads s q.2 = false) → ∀ q ∈ env', leads s q.2 = false) → Did cl i (look env0) (one i.ai.dst .und) →
     (match okW i env0 (one i.ai.dst .und) with
      | true => draws cl l (one i.ai.dst .und ++ env') K
      | false => none) = some r → ∃ D T, Text cl (i :: l) env0 D T ∧ K (T (i :: l).length) = some r := by
    intro env' he hnl hd h
    split at h
    ·rename_i hc
     obtain ⟨D, T, ht, hk⟩ := draws_text l _ h
     have hc2 := hc
     simp only [okW, okS, Bool.and_eq_true, List.all_eq_true, Bool.not_eq_true'] at hc2
     exact ⟨_, _, ht.cons he hpv hd hc (fun s hs => hnl s fun q hq => hc2.2 s hs q (List.mem_append_right _ hq)), hk⟩
    ·simp at h
   cases hg : i.ai.guard with
   | none =>
     rw [hg] at h
     exact yes env0 (fun _ => rfl) (fun _ h => h) (fun δ hδ => by simp only [Did, hg]; exact hδ) h
   | some q =>
     obtain ⟨s, pol⟩ := q
     rw [hg] at h
     simp only at h
     split at h
     ·rename_i b hs
      have hls : look env0 s = .v .bool b := by
       unfold hid at hs
       split at hs
       ·cases hs
       ·exact hs
      have he : ∀ k, look ((s, .v .bool b) :: env0) k = look env0 k := by
       intro k
       rw [look_cons]
       split
       ·rename_i e; subst e; exact hls.symm
       ·rfl
      have hee : ∀ u, (∀ q ∈ env0, leads u q.2 = false) → ∀ q ∈ (s, .v .bool b) :: env0, leads u q.2 = false := by
       intro u hu q hq
       rcases List.mem_cons.1 hq with rfl | hq
       ·rfl
       ·exact hu q hq
      have y2 : b = pol → ∀ δ, (wrR cl i.ai.dst i.ai.op).run (hid i.hide (look env0)) = some δ → Did cl i (look env0) δ := by
       intro e δ hδ; simp only [Did, hg]; exact .inl ⟨by rw [hs, e], hδ⟩
      have n2 : b = !pol → Did cl i (look env0) (one i.ai.dst .und) := by
       intro e; simp only [Did, hg]; exact .inr ⟨.inl (by rw [hs, e]), trivial⟩
      cases b with
      | true =>
        simp only [brB] at h
        cases pol with
        | true => exact yes _ he hee (y2 rfl) h
        | false => exact nope _ he hee (n2 rfl) h
      | false =>
        simp only [brB] at h
        cases pol with
        | true => exact nope _ he hee (n2 rfl) h
        | false => exact yes _ he hee (y2 rfl) h
     ·rename_i hs
      exact nope env0 (fun _ => rfl) (fun _ h => h) (by simp only [Did, hg]; exact .inr ⟨.inr hs, trivial⟩) h
     ·simp at h
theorem Text.inv {l : List DI} {env0 : Env} {D : Nat → Ch} {T : Nat → Env} (h : Text cl l env0 D T) : ∀ m, Inv D env0 (fun j => j < m) (T m)
 | 0 => by rw [h.start]; exact Inv.start fun m => by omega
 | m + 1 => by
   refine Inv.ext ?_ (h.next m)
   refine (Inv.add (i := m) (h.inv m) (fun k _ m' h1 h2 => by omega)).set fun j => ?_
   constructor
   ·rintro (h | rfl) <;> omega
   ·intro h; by_cases hj : j = m
    ·exact .inr hj
    ·exact .inl (by omega)
theorem hid_sub {l : List Nat} {L L' : Nat → E} (h : ∀ k, k ∉ l → L k = .dead ∨ L' k = L k) : Sub (hid l L) L' := by
 intro k
 unfold hid
 split
 ·exact .inl rfl
 ·rename_i hk
  exact h k (fun hm => by rw [← inB_iff] at hm; simp only [inB] at hm; rw [hm] at hk; cases hk)
theorem any_sound (hgood : Good P cl) {ops : Array Oper} {l : List DI} (hok : okD P n ops l = true) {env0 : Env} {D : Nat → Ch} {T : Nat → Env} (ht : Text cl l env0 D T) :
  ∀ (fuel : Nat) (listed : Array Bool) (env : Env) (a : Act) (w : World) (ob : Nat → OB), listed.size = ops.size → (List.range ops.size).countP (fun i => !listed.getD i true) ≤ fuel →
    (∀ (i : Nat) (di : DI), l[i]? = some di → listed.getD i false = true → ∀ p ∈ di.pre, listed.getD p false = true) →
    Inv D env0 (fun m => listed.getD m false = true) env → (∀ s ∈ safeOf l, ∀ q ∈ env, leads s q.2 = false) → Conc P B G0 W0 n env a.tmps w ob →
    (∀ env' tm' w' ob', Conc P B G0 W0 n env' tm' w' ob' → (∀ k, look env' k = look (T l.length) k) → Q .normal { a with tmps := tm' } w') →
    wpAny P .any ops Q fuel listed a w := by
 simp only [okD, Bool.and_eq_true, List.all_eq_true] at hok
 obtain ⟨⟨⟨_, h1⟩, h2⟩, h3⟩ := hok
 obtain ⟨hlen, hget⟩ := okOps_get _ _ h1
 simp only [Nat.zero_add, List.length_map] at hlen hget
 have hedge : ∀ (i : Nat) (di : DI), l[i]? = some di → ∃ o, ops[i]? = some o ∧ okGuard ops o.guard di.ai.guard = true ∧ okAI P n o di.ai = true ∧ (∀ e ∈ o.after, Region.binds .any e = true → e.on < i) ∧
   (∀ p ∈ di.pre, p < i ∧ ∃ e ∈ o.after, Region.binds .any e = true ∧ (e.on = p ∨ ∃ u, l[e.on]? = some u ∧ p ∈ u.pre)) ∧ (∀ d, di.ai.dst = some d → d ∈ di.wr) ∧ (di.piv = true → di.ai.guard = none) ∧ di.safe = safeOf l ∧ (di.piv = false → ∀ k, eatsOf di.ai.op = some k → k ∈ safeOf l) := by
  intro i di hi
  obtain ⟨o, ho, hg, ha⟩ := hget i di.ai (by rw [List.getElem?_map, hi]; rfl)
  have := h2 _ (zipIdx_get hi)
  simp only [Bool.and_eq_true] at this
  obtain ⟨⟨⟨he, hd⟩, hpg⟩, hse⟩ := this
  simp only [okE, Bool.and_eq_true, beq_iff_eq] at hse
  simp only [okEdge, ho, Bool.and_eq_true, List.all_eq_true, Bool.or_eq_true, Bool.not_eq_true', decide_eq_true_eq, List.any_eq_true, Array.mem_toList_iff] at he
  refine ⟨o, ho, hg, ha, fun e hm hb => ?_, fun p hp => ⟨(he.2 p hp).1, ?_⟩, fun d hd' => ?_, fun hp => by rw [hp] at hpg; simpa using hpg, hse.1, fun hp k hk => by
   have h5 := hse.2
   rw [hp, hk] at h5
   rw [← hse.1]; exact inB_iff.1 (by simpa using h5)⟩
  ·rcases he.1 e hm with h | h
   ·rw [h] at hb; cases hb
   ·exact h
  ·obtain ⟨e, hm, hb, hc⟩ := (he.2 p hp).2
   refine ⟨e, hm, hb, ?_⟩
   rcases hc with hc | hc
   ·exact .inl (by simpa using hc)
   ·right
    split at hc
    ·rename_i u hu; exact ⟨u, hu, inB_iff.1 hc⟩
    ·simp at hc
  ·rw [hd'] at hd; exact inB_iff.1 hd
 have hpair : ∀ (i j : Nat) (di dj : DI), l[i]? = some di → l[j]? = some dj → i ≠ j → j ∉ di.pre → i ∉ dj.pre → di.piv = false ∧ dj.piv = false ∧ ∀ k ∈ dj.wr, k ∈ di.hide ∧ k ∉ di.wr := by
  intro i j di dj hi hj hne hp1 hp2
  have := h3 _ (zipIdx_get hi) _ (zipIdx_get hj)
  simp only [okPair, Bool.or_eq_true, beq_iff_eq, List.all_eq_true, Bool.and_eq_true, Bool.not_eq_true', inB_iff] at this
  rcases this with ((h | h) | h) | h
  ·exact absurd h hne
  ·exact absurd h hp1
  ·exact absurd h hp2
  ·refine ⟨h.1.1, h.1.2, fun k hk => ⟨(h.2 k hk).1, fun hw => ?_⟩⟩
   have := (h.2 k hk).2
   rw [← inB_iff, this] at hw; cases hw
 intro fuel
 induction fuel with
 | zero =>
   intro listed env a w ob hsz hcount hcl hinv hnl hC hK
   have hno : ∀ j, j < ops.size → listed.getD j true = true := by
    intro j hj
    have := List.countP_eq_zero.1 (Nat.le_zero.1 hcount) j (List.mem_range.2 hj)
    simpa using this
   refine ⟨?_, hK env a.tmps w ob hC fun k => hinv.same (ht.inv l.length) fun m hm => ?_⟩
   ·cases hr : Region.ready .any ops listed with
    | nil => rfl
    | cons j js =>
      have hj : j ∈ Region.ready .any ops listed := by rw [hr]; simp
      obtain ⟨h4, o, ho, _⟩ := mem_ready.1 hj
      rw [hno j (Array.getElem?_eq_some_iff.1 ho).1] at h4; cases h4
   ·have hlt : m < l.length := by
     rcases Nat.lt_or_ge m l.length with h | h
     ·exact h
     ·rw [ht.out m (List.getElem?_eq_none h)] at hm; simp [Ch.ks] at hm
    refine ⟨fun _ => hlt, fun _ => ?_⟩
    have := hno m (by omega)
    have hms : m < listed.size := by omega
    simpa [hms] using this
 | succ fuel ih =>
   intro listed env a w ob hsz hcount hcl hinv hnl hC hK
   refine ⟨fun hr => ?_, fun i hi => ?_⟩
   ·have hall : ∀ N j, j < N → j < ops.size → listed.getD j true = true := by
     intro N
     induction N with
     | zero => intro j hj; omega
     | succ N ihN =>
       intro j hj hjs
       by_cases hl : listed.getD j true = true
       ·exact hl
       ·exfalso
        obtain ⟨o, ho, _, _, he, _, _, _, _, _⟩ := hedge j (l[j]'(by omega)) (List.getElem?_eq_getElem (by omega))
        have : j ∈ Region.ready .any ops listed := mem_ready.2 ⟨by simpa using hl, o, ho, fun e hm hb => by
         have h5 := he e hm hb
         have h6 := ihN e.on (by omega) (by omega)
         have : e.on < listed.size := by omega
         simpa [this] using h6⟩
        rw [hr] at this; simp at this
    refine hK env a.tmps w ob hC fun k => hinv.same (ht.inv l.length) fun m hm => ?_
    have hlt : m < l.length := by
     rcases Nat.lt_or_ge m l.length with h | h
     ·exact h
     ·rw [ht.out m (List.getElem?_eq_none h)] at hm; simp [Ch.ks] at hm
    refine ⟨fun _ => hlt, fun _ => ?_⟩
    have := hall (m + 1) m (by omega) (by omega)
    have hms : m < listed.size := by omega
    simpa [hms] using this
   ·obtain ⟨hun, o, ho, hrd⟩ := mem_ready.1 hi
    have hlt : i < ops.size := (Array.getElem?_eq_some_iff.1 ho).1
    obtain ⟨di, hdi⟩ : ∃ di, l[i]? = some di := ⟨_, List.getElem?_eq_getElem (by omega)⟩
    obtain ⟨o', ho', hg, hai, he, hpre, hdw, hpg, hsf, het⟩ := hedge i di hdi
    rw [ho] at ho'; cases ho'
    have hunf : listed.getD i false = false := by
     have hms : i < listed.size := by omega
     simpa [hms] using hun
    have hpl : ∀ p ∈ di.pre, listed.getD p false = true := by
     intro p hp
     obtain ⟨_, e, hm, hb, hc⟩ := hpre p hp
     have hon := hrd e hm hb
     rcases hc with rfl | ⟨u, hu, hc⟩
     ·exact hon
     ·exact hcl e.on u hu hon p hc
    have wrof : ∀ m k, k ∈ (D m).ks → ∃ dm, l[m]? = some dm ∧ (dm.piv = false → k ∈ dm.wr) := by
     intro m k hk
     cases hm : l[m]? with
     | none => rw [ht.out m hm] at hk; simp [Ch.ks] at hk
     | some dm => exact ⟨dm, rfl, fun hp => (ht.at' m dm hm hp).2.2 k hk⟩
    have agree : ∀ k, (di.piv = true ∨ k ∉ di.hide ∨ k ∈ di.wr) → look env k = look (T i) k := by
     intro k hk
     refine hinv.same (ht.inv i) fun m hm => ?_
     obtain ⟨dm, hdm, hw⟩ := wrof m k hm
     by_cases hmi : m = i
     ·subst hmi; rw [hunf]; simp
     ·by_cases hp1 : m ∈ di.pre
      ·exact ⟨fun _ => (hpre m hp1).1, fun _ => hpl m hp1⟩
      ·by_cases hp2 : i ∈ dm.pre
       ·obtain ⟨_, _, _, _, _, hpm, _, _, _, _⟩ := hedge m dm hdm
        have := (hpm i hp2).1
        refine ⟨fun hs => ?_, fun hl => by omega⟩
        have := hcl m dm hdm hs i hp2
        rw [hunf] at this; cases this
       ·obtain ⟨hv1, hv2, this⟩ := hpair i m di dm hdi hdm (Ne.symm hmi) hp1 hp2
        have this := this k (hw hv2)
        rcases hk with hk | hk | hk
        ·rw [hv1] at hk; cases hk
        ·exact absurd this.1 hk
        ·exact absurd hk this.2
    -- behind it
    have behind : ∀ (env' : Env) (tm' : Array Value) (w' : World) (ob' : Nat → OB), Conc P B G0 W0 n env' tm' w' ob' → (∀ k, look env' k = look (D i ++ env) k) → (∀ s ∈ safeOf l, ∀ q ∈ env', leads s q.2 = false) → wpAny P .any ops Q fuel (listed.setIfInBounds i true) { a with tmps := tm' } w' := by
     intro env' tm' w' ob' hC' hl' hn'
     have hset : ∀ m, (listed.setIfInBounds i true).getD m false = true ↔ (listed.getD m false = true ∨ m = i) := by
      intro m
      by_cases hm : m = i
      ·subst hm
       have hms : m < listed.size := by omega
       simp [hms]
      ·rw [getD_set_ne false (Ne.symm hm)]
       simp [hm]
     refine ih _ env' { a with tmps := tm' } w' ob' (by simpa using hsz) ?_ ?_ ?_ hn' hC' (fun e2 t2 w2 o2 h4 h5 => hK e2 t2 w2 o2 h4 h5)
     ·have := countP_lt (p := fun j => !(listed.setIfInBounds i true).getD j true) (q := fun j => !listed.getD j true) (l := List.range ops.size) (fun x hx hp => by
       by_cases hxi : x = i
       ·subst hxi
        have hms : x < listed.size := by omega
        simp [hms] at hp
       ·rw [getD_set_ne true (Ne.symm hxi)] at hp; exact hp) ⟨i, List.mem_range.2 hlt, by simpa using hun, by
        have hms : i < listed.size := by omega
        simp [hms]⟩
      omega
     ·intro m dm hm hs p hp
      rw [hset] at hs ⊢
      rcases hs with hs | rfl
      ·exact .inl (hcl m dm hm hs p hp)
      ·rw [hdi] at hm; cases hm
       exact .inl (hpl p hp)
     ·have hadd := Inv.add (i := i) hinv (fun k hk m' hm' hs hk' => by
       obtain ⟨dm, hdm, hw'⟩ := wrof m' k hk'
       by_cases hp2 : i ∈ dm.pre
       ·have := hcl m' dm hdm hs i hp2
        rw [hunf] at this; cases this
       ·have hp1 : m' ∉ di.pre := fun hp => by have := (hpre m' hp).1; omega
        obtain ⟨hv1, hv2, hv3⟩ := hpair i m' di dm hdi hdm (by omega) hp1 hp2
        exact (hv3 k (hw' hv2)).2 ((ht.at' i di hdi hv1).2.2 k hk))
      intro k
      rcases (hadd.set fun m => (hset m).symm) k with h | h
      ·left
       obtain ⟨m, g1, g2, g3, g4⟩ := h
       exact ⟨m, g1, g2, g3, by rw [hl' k]; exact g4⟩
      ·exact .inr ⟨h.1, by rw [hl' k]; exact h.2⟩
    have hd : ∀ k, o.dst = some k → k < n := by
     simp only [okAI, Bool.and_eq_true, decide_eq_true_eq] at hai
     intro k hk
     have := hai.1.2
     rw [hk] at this; simpa using this
    cases hpv : di.piv with
    | true =>
      have hwant : Region.wanted o (yielded ops a.tmps) = true := by
       have hig := hpg hpv
       cases hog : o.guard with
       | none => simp [Region.wanted, hog]
       | some q => rw [hog, hig] at hg; simp [okGuard] at hg
      obtain ⟨ob1, hC1⟩ := Conc.ext hC (env' := T i) fun k => (agree k (.inl hpv)).symm
      unfold wpOp
      simp only [ho]
      rw [if_pos hwant]
      refine .inl (st_ok (R := Env) (r := T (i + 1)) hgood hC1 (fun env' tm' w' ob' hC' hk => ?_) hai (ht.piv i di hdi hpv))
      cases hk
      exact behind _ tm' w' ob' hC' (fun k => (ht.next i k).trans (look_app_ext (fun k => (agree k (.inl hpv)).symm) k)) (fun s hs => (ht.safe i di hdi s (by rw [hsf]; exact hs)).2.2)
    | false =>
    obtain ⟨hd1, hd2, hd3⟩ := ht.at' i di hdi hpv
    have hsub : Sub (hid di.hide (look (T i))) (look env) := hid_sub fun k hk => .inr (agree k (.inr (.inl hk)))
    have hfree : free env di.ai.dst = true := by
     cases hdd : di.ai.dst with
     | none => rfl
     | some d =>
       rw [hdd] at hd2
       simp only [free] at hd2 ⊢
       rw [agree d (.inr (.inr (hdw d hdd)))]; exact hd2
    have hn2 : ∀ s ∈ safeOf l, ∀ q ∈ D i ++ env, leads s q.2 = false := by
     intro s hs q hq
     rcases List.mem_append.1 hq with hq | hq
     ·exact (ht.safe i di hdi s (by rw [hsf]; exact hs)).2.1 q hq
     ·exact hnl s hs q hq
    have hdst : di.ai.dst = o.dst := by simp only [okAI, Bool.and_eq_true, decide_eq_true_eq] at hai; exact hai.1.1
    have yes : (wrR cl di.ai.dst di.ai.op).run (hid di.hide (look (T i))) = some (D i) → o.wp P a w (wpAny P .any ops Q fuel (listed.setIfInBounds i true)) Q := by
     intro hw
     have hw2 := (wrR cl di.ai.dst di.ai.op).mono _ _ _ hsub hw
     have hst : step cl di.ai env (some : Kont Env) = some (D i ++ env) := wrR_step (g := di.ai.guard) hw2 hfree (fun s hs => hnl s (het hpv s hs))
     exact st_ok (R := Env) (r := D i ++ env) hgood hC (fun env' tm' w' ob' hC' hk => by
      cases hk; exact behind _ tm' w' ob' hC' (fun _ => rfl) hn2) hai hst
    have nope : D i = one di.ai.dst .und → wpAny P .any ops Q fuel (listed.setIfInBounds i true) (a.put o.dst undef) w := by
     intro hD
     obtain ⟨ob', hC'⟩ := Conc.putO (e := .und) (v := undef) hC hd (Grows.refl w) ⟨rfl, rfl⟩ a rfl
     have := behind _ _ w ob' hC' (fun k => by rw [← hdst, free_putO hfree, hD]) (by rw [← hdst, free_putO hfree, ← hD]; exact hn2)
     have e : ({ a with tmps := (a.put o.dst undef).tmps } : Act) = a.put o.dst undef := by cases o.dst <;> rfl
     rw [e] at this; exact this
    unfold wpOp
    simp only [ho]
    cases hog : o.guard with
    | none =>
      cases hig : di.ai.guard with
      | some q => rw [hog, hig] at hg; simp [okGuard] at hg
      | none =>
        simp only [Did, hig] at hd1
        have hw : Region.wanted o (yielded ops a.tmps) = true := by simp [Region.wanted, hog]
        rw [if_pos hw]
        exact .inl (yes hd1)
    | some q =>
      obtain ⟨gj, gb⟩ := q
      cases hig : di.ai.guard with
      | none => rw [hog, hig] at hg; simp [okGuard] at hg
      | some q' =>
        obtain ⟨s, pol⟩ := q'
        rw [hog, hig] at hg
        simp only [okGuard, Bool.and_eq_true, beq_iff_eq] at hg
        obtain ⟨rfl, hg⟩ := hg
        split at hg
        case h_2 => simp at hg
        rename_i og hgj
        simp only [decide_eq_true_eq] at hg
        simp only [Did, hig] at hd1
        have lk : ∀ e, hid di.hide (look (T i)) s = e → e ≠ .dead → look env s = e := by
         intro e he hne
         rcases hsub s with h | h
         ·rw [h] at he; exact absurd he.symm hne
         ·rw [h, he]
        have wan : ∀ b, look env s = .v .bool b → Region.wanted o (yielded ops a.tmps) = (b == gb) := by
         intro b hs2
         have hy := kept hC hgj hg hs2
         simp only [Region.wanted, hog, hy]
         cases b <;> cases gb <;> rfl
        rcases hd1 with ⟨hs, hd1⟩ | ⟨hs | hs, hd1⟩
        ·rw [wan _ (lk _ hs (by simp))]
         simp only [beq_self_eq_true, if_true]
         exact .inl (yes hd1)
        ·rw [wan _ (lk _ hs (by simp))]
         have : ((!gb) == gb) = false := by cases gb <;> rfl
         rw [this]
         simp only [Bool.false_eq_true, if_false]
         exact nope hd1
        ·have hy := kept_und hC hgj hg (lk _ hs (by simp))
         rw [if_neg (by simp [Region.wanted, hog, hy])]
         exact nope hd1
theorem draws_sound (hgood : Good P cl) {ops : Array Oper} {l : List DI} (hok : okD P n ops l = true) {env : Env} {a : Act} {w : World} {ob : Nat → OB} {K : Kont R} (hC : Conc P B G0 W0 n env a.tmps w ob) (h : draws cl l env K = some r)
  (hK : ∀ env' tm' w' ob', Conc P B G0 W0 n env' tm' w' ob' → K env' = some r → Q .normal { a with tmps := tm' } w') {id : Nat} : (Code.region id ops true).wp P Q a w := by
 have hm : P.follows .mixedOrders = true := by simp only [okD, Bool.and_eq_true] at hok; exact hok.1.1.1
 obtain ⟨D, T, ht, hk⟩ := draws_text l env h
 refine wp_region_any hm ?_
 obtain ⟨ob2, hC2⟩ : ∃ ob2, Conc P B G0 W0 n env a.tmps { w with drawn := w.drawn + 1 } ob2 :=
  Conc.putO (d := none) (e := .und) (v := undef) (w' := { w with drawn := w.drawn + 1 }) hC (fun k hk => by cases hk) ⟨rfl, rfl, rfl, Nat.le_refl _, fun _ _ => rfl⟩ ⟨rfl, rfl⟩ a rfl
 refine any_sound hgood hok ht _ _ env a _ ob2 (by simp) ?_ ?_ (Inv.start fun m => ?_) ?_ hC2 (fun env' tm' w' ob' hC' hl' => ?_)
 ·exact Nat.le_trans List.countP_le_length (by simp)
 ·intro i di _ hs
  simp only [Array.getD_eq_getD_getElem?] at hs
  by_cases hi : i < ops.size <;> simp [hi] at hs
 ·intro hs
  simp only [Array.getD_eq_getD_getElem?] at hs
  by_cases hi : m < ops.size <;> simp [hi] at hs
 ·cases l with
  | nil => intro s hs; simp [safeOf] at hs
  | cons i l => intro s hs; have := (ht.safe 0 i rfl s hs).1; rwa [ht.start] at this
 ·obtain ⟨ob3, hC3⟩ := Conc.ext hC' (env' := T l.length) (fun k => (hl' k).symm)
  exact hK _ tm' w' ob3 hC3 hk
end
end Go.Fw
/- Soundness, part 23: code; what a function hands back. -/
namespace Go.Fw
open Go Go.RowKit
def okC (P : Program) (n : Nat) (c : Code) : AC → Bool
 | .out _ x => okC P n c x
 | .skip => (match c with | .skip => true | _ => false)
 | .reg _ l => (match c with | .region _ ops false => okOps P n ops 0 l | _ => false)
 | .draw _ l => (match c with | .region _ ops true => okD P n ops l | _ => false)
 | .seq x' y' => (match c with | .seq x y => okC P n x x' && okC P n y y' | _ => false)
 | .cond d x' y' => (match c with | .cond e x y => okOd e d && okC P n x x' && okC P n y y' | _ => false)
 | .block id' x' => (match c with | .block id x => id == id' && okC P n x x' | _ => false)
 | .loop _ x' => (match c with | .loop x => okC P n x x' | _ => false)
 | .exit id' => (match c with | .exit id => id == id' | _ => false)
 | .ret => (match c with | .ret => true | _ => false)
def exOf : Ex → Exit
 | .normal => .normal
 | .exit id => .exit id
 | .ret => .ret
section
variable {P : Program} {B : Nat} {G0 : Nat → Nat → Prop} {W0 : World} {n : Nat} {cl : Cal}
variable {R : Type} {r : R}
def KEOk (P : Program) (B : Nat) (G0 : Nat → Nat → Prop) (W0 : World) (n : Nat) (a : Act) (K : KE R) (r : R) (Q : Exit → Act → World → Prop) : Prop :=
 ∀ e env' tm' w' ob', Conc P B G0 W0 n env' tm' w' ob' → K e env' = some r → Q (exOf e) { a with tmps := tm' } w'
theorem exec_sound (hgood : Good P cl) (N : Nat) : ∀ (ac : AC) (c : Code) (env : Env) (a : Act) (w : World) (ob : Nat → OB) (K : KE R) (Q : Exit → Act → World → Prop), okC P n c ac = true → Conc P B G0 W0 n env a.tmps w ob →
  exec cl N ac env K = some r → KEOk P B G0 W0 n a K r Q → c.wp P Q a w := by
 intro ac
 induction ac with
 | skip =>
   intro c env a w ob K Q hok hC h hK
   cases c <;> simp only [okC, Bool.false_eq_true] at hok
   exact wp_skip (hK .normal env a.tmps w ob hC h)
 | ret =>
   intro c env a w ob K Q hok hC h hK
   cases c <;> simp only [okC, Bool.false_eq_true] at hok
   exact wp_ret (hK .ret env a.tmps w ob hC h)
 | exit id =>
   intro c env a w ob K Q hok hC h hK
   cases c <;> simp only [okC, Bool.false_eq_true, beq_iff_eq] at hok
   subst hok
   exact wp_exit (hK (.exit _) env a.tmps w ob hC h)
 | reg live l =>
   intro c env a w ob K Q hok hC h hK
   have hc : ∃ id ops, c = .region id ops false ∧ okOps P n ops 0 l = true := by
    unfold okC at hok
    split at hok
    ·exact ⟨_, _, rfl, hok⟩
    ·simp at hok
   obtain ⟨id, ops, rfl, hok⟩ := hc
   simp only [exec] at h
   obtain ⟨ob', hC'⟩ := Conc.keep hC live
   have := ops_sound (Q := Q) hgood l 0 _ a w ob' hok hC' h (fun env' tm' w' ob' hC' hk => hK .normal env' tm' w' ob' hC' hk)
   rw [Nat.sub_zero] at this
   refine wp_region ?_
   rw [List.range_eq_range']
   exact this
 | draw live l =>
   intro c env a w ob K Q hok hC h hK
   have hc : ∃ id ops, c = .region id ops true ∧ okD P n ops l = true := by
    unfold okC at hok
    split at hok
    ·exact ⟨_, _, rfl, hok⟩
    ·simp at hok
   obtain ⟨id, ops, rfl, hok⟩ := hc
   simp only [exec] at h
   obtain ⟨ob', hC'⟩ := Conc.keep hC live
   exact draws_sound hgood hok hC' h (fun env' tm' w' ob' hC' hk => hK .normal env' tm' w' ob' hC' hk)
 | out live x ih =>
   intro c env a w ob K Q hok hC h hK
   simp only [exec] at h
   simp only [okC] at hok
   refine ih c env a w ob _ Q hok hC h (fun e env' tm' w' ob' hC' hk => ?_)
   obtain ⟨ob2, hC2⟩ := Conc.keep hC' live
   exact hK e _ tm' w' ob2 hC2 hk
 | seq x y ihx ihy =>
   intro c env a w ob K Q hok hC h hK
   cases c <;> simp only [okC, Bool.false_eq_true] at hok
   simp only [Bool.and_eq_true] at hok
   simp only [exec] at h
   refine wp_seq (ihx _ env a w ob _ _ hok.1 hC h (fun e env' tm' w' ob' hC' hk => ?_))
   cases e with
   | normal =>
     simp only [seqK] at hk
     exact ihy _ env' { a with tmps := tm' } w' ob' K Q hok.2 hC' hk hK
   | exit id => exact hK (.exit id) env' tm' w' ob' hC' hk
   | ret => exact hK .ret env' tm' w' ob' hC' hk
 | cond c' x y ihx ihy =>
   intro c env a w ob K Q hok hC h hK
   cases c <;> simp only [okC, Bool.false_eq_true] at hok
   simp only [Bool.and_eq_true] at hok
   simp only [exec, Option.bind_eq_some_iff] at h
   obtain ⟨b, hb, h⟩ := h
   have hv := bool_rep hC hok.1.1 hb
   cases b with
   | true => exact wp_cond_true hv (ihx _ env a w ob K Q hok.1.2 hC h hK)
   | false => exact wp_cond_false hv (ihy _ env a w ob K Q hok.2 hC h hK)
 | block id x ih =>
   intro c env a w ob K Q hok hC h hK
   cases c <;> simp only [okC, Bool.false_eq_true] at hok
   simp only [Bool.and_eq_true, beq_iff_eq] at hok
   obtain ⟨rfl, hok⟩ := hok
   simp only [exec] at h
   refine wp_block (ih _ env a w ob _ _ hok hC h (fun e env' tm' w' ob' hC' hk => ?_))
   cases e with
   | normal => exact hK .normal env' tm' w' ob' hC' hk
   | ret => exact hK .ret env' tm' w' ob' hC' hk
   | exit j =>
     simp only [blockK] at hk
     simp only [exOf, Exit.inBlock]
     split at hk
     ·rename_i hj _; subst hj; rw [if_pos rfl]; exact hK .normal env' tm' w' ob' hC' hk
     ·rename_i hj _; rw [if_neg hj]; exact hK (.exit j) env' tm' w' ob' hC' hk
 | loop live x ih =>
   intro c env a w ob K Q hok hC h hK
   cases c <;> simp only [okC, Bool.false_eq_true] at hok
   rename_i c
   simp only [exec] at h
   obtain ⟨ob', hC'⟩ := Conc.keep hC live
   refine loop_rounds (fun m a' w' => ∃ env ob tm, a' = { a with tmps := tm } ∧ Conc P B G0 W0 n env tm w' ob ∧ iter live (fun env K => exec cl N x env K) K m env = some r) ?_ ?_ N a w ⟨_, ob', a.tmps, rfl, hC', h⟩
   ·rintro a' w' ⟨env, ob, tm, _, _, h⟩
    simp [iter] at h
   ·rintro m a' w' ⟨env, ob, tm, rfl, hC, h⟩
    simp only [iter] at h
    refine ih _ env { a with tmps := tm } w' ob _ _ hok hC h (fun e env' tm' w2 ob' hC' hk => ?_)
    cases e with
    | normal =>
      obtain ⟨ob2, hC2⟩ := Conc.keep hC' live
      exact ⟨_, ob2, tm', rfl, hC2, hk⟩
    | exit id => exact hK (.exit id) env' tm' w2 ob' hC' hk
    | ret => exact hK .ret env' tm' w2 ob' hC' hk
inductive Each {α β : Type} (R : α → β → Prop) : List α → List β → Prop
 | nil : Each R [] []
 | cons {x : α} {y : β} {xs : List α} {ys : List β} : R x y → Each R xs ys → Each R (x :: xs) (y :: ys)
theorem run_mapM {α β : Type} {f : α → Sem β} {w : World} {as : Array α} {vs : List β} (h : Each (fun x v => (f x).run P w = .ok v w) as.toList vs) : (as.mapM f).run P w = .ok vs.toArray w := by
 rw [Array.mapM_eq_mapM_toList]
 have key : ∀ {l : List α} {vs : List β}, Each (fun x v => (f x).run P w = .ok v w) l vs → (l.mapM f).run P w = .ok vs w := by
  intro l vs h
  induction h with
  | nil => rw [List.mapM_nil]; rfl
  | cons h _ ih =>
    rw [List.mapM_cons]
    simp only [Sem.run_bind, h, Result.andThen_ok, ih]
    rfl
 have := key h
 rw [← bind_pure_comp]
 simp only [Sem.run_bind, this, Result.andThen_ok]
 rfl
def okRes (P : Program) : List ResultVar → List RV → Bool
 | [], [] => true
 | .tmp t :: rs, .t k :: vs => t == k && okRes P rs vs
 | .cell t ty :: rs, .cell k T :: vs => t == k && tyB P ty T && okRes P rs vs
 | .tmp t :: rs, .p k :: vs => t == k && okRes P rs vs
 | _, _ => false
theorem pure_whole' : ∀ {o : Ann}, o.pure = true → o.whole = true
 | .no, _ => rfl
 | .pair a b, h => by
   simp only [Ann.pure, Bool.and_eq_true] at h
   simp only [Ann.whole, Bool.and_eq_true]
   exact ⟨pure_whole' h.1, pure_whole' h.2⟩
 | .hole, h => by simp [Ann.pure] at h
 | .own .., h => by simp [Ann.pure] at h
def runVar (tmps : Array Value) : ResultVar → Sem Value
 | .tmp t => pure (tmps.getD t undef)
 | .cell a t => do loadVar t (← asAddr (tmps.getD a undef))
theorem distinct_append : ∀ (l m : List Nat), distinct (l ++ m) = true → distinct l = true ∧ distinct m = true ∧ ∀ x ∈ l, x ∉ m
 | [], m, h => ⟨rfl, h, by simp⟩
 | x :: l, m, h => by
   simp only [List.cons_append, distinct, Bool.and_eq_true, Bool.not_eq_true', List.any_append, Bool.or_eq_false_iff] at h
   obtain ⟨⟨h1, h2⟩, h3⟩ := h
   obtain ⟨h4, h5, h6⟩ := distinct_append l m h3
   refine ⟨by simp only [distinct, Bool.and_eq_true, Bool.not_eq_true']; exact ⟨h1, h4⟩, h5, fun y hy => ?_⟩
   rcases List.mem_cons.1 hy with rfl | hy
   ·intro hm
    have := List.any_eq_false.1 h2 _ hm
    simp at this
   ·exact h6 y hy
theorem run_load_loc {t : TypeId} {T : Ty} (hT : TyR P t T) {env : Env} {tm : Array Value} {w : World} {ob : Nat → OB} {k : Nat} (hC : Conc P B G0 W0 n env tm w ob) {o : Ann} {x : den T} (hk : look env k = .loc T o x) :
  ∃ vs c b, (runVar tm (.cell k t)).run P w = .ok (asVal T vs) w ∧ Flat P T w (Gd B G0 ob) B o x vs c ∧ ob k = (b, 0) :: c := by
 have hr := hC.rep k
 rw [hk] at hr
 obtain ⟨b, cur, e, ob', h1, h2, h3, h4, h5⟩ := hr
 refine ⟨cur.toList, ob', b, ?_, h4, h5⟩
 have := run_loadT hT w (b := b) (off := 0) (Flat.len P T h4) (fun j u hj => by
  rw [Nat.zero_add, cell_of_row w b _ cur e (0, 0) h3, ← Array.getElem?_toList]; exact hj)
 simp [runVar, h1, asAddr, this]
theorem retL_sound {env : Env} {tm : Array Value} {w : World} {ob : Nat → OB} (hC : Conc P B G0 W0 n env tm w ob) : ∀ (rvs : List ResultVar) (res : List RV) (es : List E) (ks : List Nat), okRes P rvs res = true → retL env res = some (es, ks) →
  ∃ (vs : List Value) (rob : OB), Each (fun x v => (runVar tm x).run P w = .ok v w) rvs vs ∧ (∀ q ∈ rob, ∃ k ∈ ks, q ∈ ob k) ∧ (distinct ks = true → (blocks rob).Nodup) ∧
    (∀ G' : Nat → Nat → Prop, (∀ b i, b < w.heap.size → Gd B G0 ob b i → G' b i) → (∀ k ∈ ks, ∀ g ∈ blocks (ob k), B ≤ g → g ∉ blocks rob → ∀ i, G' g i) → distinct ks = true → TupRep (ERep1 P w G' B #[] []) es vs rob)
 | [], [], es, ks, _, h => by
   simp only [retL, Option.some.injEq, Prod.mk.injEq] at h
   obtain ⟨rfl, rfl⟩ := h
   exact ⟨[], [], .nil, by simp, fun _ => by simp, fun _ _ _ _ => ⟨rfl, rfl⟩⟩
 | [], _ :: _, _, _, h, _ => by simp [okRes] at h
 | .tmp _ :: _, [], _, _, h, _ => by simp [okRes] at h
 | .cell _ _ :: _, [], _, _, h, _ => by simp [okRes] at h
 | rv :: rvs, re :: res, es, ks, hok, h => by
   simp only [retL, Option.bind_eq_some_iff, Option.some.injEq, Prod.mk.injEq] at h
   obtain ⟨⟨e1, ks1⟩, h1, ⟨es2, ks2⟩, h2, h3, h4⟩ := h
   simp only at h3 h4
   subst h3; subst h4
   have hok2 : okRes P rvs res = true := by
    cases rv <;> cases re <;> simp only [okRes, Bool.and_eq_true, Bool.false_eq_true] at hok
    all_goals exact hok.2
   obtain ⟨vs2, rob2, i1, i2, i3, i4⟩ := retL_sound hC rvs res es2 ks2 hok2 h2
   -- the first
   have first : ∃ v b, (runVar tm rv).run P w = .ok v w ∧ (∀ q ∈ b, ∃ k ∈ ks1, q ∈ ob k) ∧ (blocks b).Nodup ∧
     (∀ G' : Nat → Nat → Prop, (∀ b i, b < w.heap.size → Gd B G0 ob b i → G' b i) → (∀ k ∈ ks1, ∀ g ∈ blocks (ob k), B ≤ g → g ∉ blocks b → ∀ i, G' g i) → ERep1 P w G' B #[] [] e1 v b) := by
    match rv, re, hok, h1 with
    | .tmp t, .t k, hok, h1 =>
      simp only [okRes, Bool.and_eq_true, beq_iff_eq] at hok
      obtain ⟨rfl, _⟩ := hok
      have hrun : (runVar tm (.tmp t)).run P w = .ok (tm.getD t undef) w := rfl
      have hr := hC.rep t
      simp only [retE] at h1
      split at h1
      ·rename_i T x hl
       simp only [Option.some.injEq, Prod.mk.injEq] at h1
       obtain ⟨rfl, rfl⟩ := h1
       rw [hl] at hr
       obtain ⟨_, vs, k1, k2⟩ := hr
       refine ⟨_, [], hrun, by simp, by simp, fun G' hG _ => ⟨rfl, vs, Flat.mono P T (fun b i hb h => ⟨hG b i hb h, rfl⟩) (Later.refl _ _) (by simp) k1, k2⟩⟩
      ·rename_i wr ed T o xs hl
       split at h1
       ·rename_i hp
        simp only [Option.some.injEq, Prod.mk.injEq] at h1
        obtain ⟨rfl, rfl⟩ := h1
        rw [hl] at hr
        refine ⟨_, ob t, hrun, fun q hq => ⟨t, by simp, hq⟩, hC.nodup t, fun G' hG _ => ?_⟩
        exact Flat.mono P (.sl T) (o := .own wr ed o) (fun b i hb h => ⟨hG b i hb h, rfl⟩) (Later.refl _ _) (fun _ _ => rfl) hr
       ·simp at h1
      ·rename_i s p hl
       simp only [Option.bind_eq_some_iff] at h1
       obtain ⟨hh, hhe, h1⟩ := h1
       split at h1
       ·rename_i hp
        simp only [Option.some.injEq, Prod.mk.injEq] at h1
        obtain ⟨rfl, rfl⟩ := h1
        rw [hl] at hr
        obtain ⟨_, hhd, _⟩ := hr
        obtain ⟨cells, b2, k1, k2, k3⟩ := held_row (a := ⟨tm, []⟩) hC hhe hhd
        obtain ⟨rfl, _⟩ := Elems.pure P (o' := .no) hp rfl k2
        refine ⟨_, obOf (tm.getD t undef) (if hh.wr = true then 0 else hh.xs.length * cellsN hh.T), hrun, fun q hq => ⟨s, by simp, k3 q (by simpa using hq)⟩, obOf_nodup _ _, fun G' hG _ => ?_⟩
        have : Flat P (.sl hh.T) w (Gd B G0 ob) B (.own hh.wr hh.e hh.o) hh.xs [tm.getD t undef] (obOf (tm.getD t undef) (if hh.wr = true then 0 else hh.xs.length * cellsN hh.T)) := by
         unfold Flat
         exact ⟨_, cells, [], rfl, k1, k2, by simp⟩
        exact Flat.mono P (.sl hh.T) (o := .own hh.wr hh.e hh.o) (fun b i hb h => ⟨hG b i hb h, rfl⟩) (Later.refl _ _) (fun _ _ => rfl) this
       ·simp at h1
      ·simp at h1
    | .cell t ty, .cell k T, hok, h1 =>
      simp only [okRes, Bool.and_eq_true, beq_iff_eq] at hok
      obtain ⟨⟨rfl, hT⟩, _⟩ := hok
      simp only [retE] at h1
      split at h1
      ·rename_i T' o x hl
       split at h1
       ·rename_i hw
        simp only [Option.bind_eq_some_iff, Option.some.injEq, Prod.mk.injEq] at h1
        obtain ⟨y, hy, rfl, rfl⟩ := h1
        have := cast?_some hy; cases this
        obtain ⟨vs, c, b, k1, k2, k3⟩ := run_load_loc (tyB_ok hT) hC hl
        refine ⟨_, [], k1, by simp, by simp, fun G' hG hcell => ⟨rfl, vs, ?_, rfl⟩⟩
        by_cases hp : o.pure = true
        ·obtain ⟨_, k4⟩ := Flat.pure P T hp (o' := .no) rfl k2
         exact Flat.mono P T (fun b i hb h => ⟨hG b i hb h, rfl⟩) (Later.refl _ _) (by simp) k4
        ·obtain ⟨c2, k4, k5⟩ := Flat.frz P T k2
         refine Flat.shared P T hw (fun b' lim i hb' _ hB => ?_) hG k4
         refine hcell t (by simp [hp]) b' ?_ hB (by simp) i
         rw [k3]; simp only [blocks_cons, List.mem_cons]
         right
         rw [← k5.1]; exact mem_blocks.2 ⟨_, hb'⟩
       ·simp at h1
      ·simp at h1
    | .tmp t, .p k, hok, h1 =>
      simp only [okRes, Bool.and_eq_true, beq_iff_eq] at hok
      obtain ⟨rfl, _⟩ := hok
      have hrun : (runVar tm (.tmp t)).run P w = .ok (tm.getD t undef) w := rfl
      have hr := hC.rep t
      simp only [retE] at h1
      split at h1
      ·rename_i T x hl
       simp only [Option.some.injEq, Prod.mk.injEq] at h1
       obtain ⟨rfl, rfl⟩ := h1
       rw [hl] at hr
       obtain ⟨_, vs, k1, k2⟩ := hr
       refine ⟨_, [], hrun, by simp, by simp, fun G' hG _ => ⟨rfl, vs, Flat.mono P T (fun b i hb h => ⟨hG b i hb h, rfl⟩) (Later.refl _ _) (by simp) k1, k2⟩⟩
      ·rename_i wr ed T o xs hl
       split at h1
       ·rename_i hp
        simp only [Option.some.injEq, Prod.mk.injEq] at h1
        obtain ⟨rfl, rfl⟩ := h1
        rw [hl] at hr
        have hr' : Flat P (.sl T) w (Gd B G0 ob) B (.own wr ed o) xs [tm.getD t undef] (ob t) := hr
        refine ⟨_, [], hrun, by simp, by simp, fun G' hG hcell => ⟨rfl, [tm.getD t undef], ?_, rfl⟩⟩
        obtain ⟨c2, k4, k5⟩ := Flat.frz P (.sl T) hr'
        refine Flat.shared P (.sl T) (o := .own wr ed o) (show o.whole = true from pure_whole' hp) (fun b' lim i hb' _ hB => ?_) hG k4
        exact hcell t (by simp) b' (by rw [← k5.1]; exact mem_blocks.2 ⟨_, hb'⟩) hB (by simp) i
       ·simp at h1
      ·rename_i s p hl
       simp only [Option.bind_eq_some_iff] at h1
       obtain ⟨hh, hhe, h1⟩ := h1
       split at h1
       ·rename_i hp
        simp only [Option.some.injEq, Prod.mk.injEq] at h1
        obtain ⟨rfl, rfl⟩ := h1
        rw [hl] at hr
        obtain ⟨_, hhd, _⟩ := hr
        obtain ⟨cells, b2, k1, k2, k3⟩ := held_row (a := ⟨tm, []⟩) hC hhe hhd
        have this : Flat P (.sl hh.T) w (Gd B G0 ob) B (.own hh.wr hh.e hh.o) hh.xs [tm.getD t undef] (obOf (tm.getD t undef) (if hh.wr = true then 0 else hh.xs.length * cellsN hh.T) ++ b2) := by
         unfold Flat
         exact ⟨_, cells, b2, rfl, k1, k2, rfl⟩
        refine ⟨_, [], hrun, by simp, by simp, fun G' hG hcell => ⟨rfl, [tm.getD t undef], ?_, rfl⟩⟩
        obtain ⟨c2, k4, k5⟩ := Flat.frz P (.sl hh.T) this
        refine Flat.shared P (.sl hh.T) (o := .own hh.wr hh.e hh.o) (show hh.o.whole = true from pure_whole' hp) (fun b' lim i hb' _ hB => ?_) hG k4
        have hb2 : b' ∈ blocks (obOf (tm.getD t undef) (if hh.wr = true then 0 else hh.xs.length * cellsN hh.T) ++ b2) := by rw [← k5.1]; exact mem_blocks.2 ⟨_, hb'⟩
        obtain ⟨l, hl'⟩ := mem_blocks.1 hb2
        exact hcell s (by simp) b' (mem_blocks.2 ⟨_, k3 _ hl'⟩) hB (by simp) i
       ·simp at h1
      ·simp at h1
    | .cell _ _, .p _, hok, _ => simp [okRes] at hok
    | .tmp _, .cell _ _, hok, _ => simp [okRes] at hok
    | .cell _ _, .t _, hok, _ => simp [okRes] at hok
   obtain ⟨v, b, j1, j2, j3, j4⟩ := first
   refine ⟨v :: vs2, b ++ rob2, .cons j1 i1, fun q hq => ?_, fun hd => ?_, fun G' hG hc hd => ?_⟩
   ·rcases List.mem_append.1 hq with hq | hq
    ·obtain ⟨k, m1, m2⟩ := j2 q hq; exact ⟨k, List.mem_append_left _ m1, m2⟩
    ·obtain ⟨k, m1, m2⟩ := i2 q hq; exact ⟨k, List.mem_append_right _ m1, m2⟩
   ·obtain ⟨d1, d2, d3⟩ := distinct_append _ _ hd
    rw [blocks_append, List.nodup_append]
    refine ⟨j3, i3 d2, fun x hx y hy hxy => ?_⟩
    subst hxy
    obtain ⟨l1, hx⟩ := mem_blocks.1 hx
    obtain ⟨l2, hy⟩ := mem_blocks.1 hy
    obtain ⟨k, m1, m2⟩ := j2 _ hx
    obtain ⟨k', m3, m4⟩ := i2 _ hy
    have := hC.dist k k' x (mem_blocks.2 ⟨_, m2⟩) (mem_blocks.2 ⟨_, m4⟩)
    subst this
    exact d3 k m1 m3
   ·obtain ⟨d1, d2, d3⟩ := distinct_append _ _ hd
    refine ⟨v, vs2, b, rob2, rfl, rfl, j4 G' hG (fun k hk g hg hB hgb i => hc k (List.mem_append_left _ hk) g hg hB ?_ i), i4 G' hG (fun k hk g hg hB hgb i => hc k (List.mem_append_right _ hk) g hg hB ?_ i) d2⟩
    ·rw [blocks_append, List.mem_append]
     rintro (hx | hx)
     ·exact hgb hx
     ·obtain ⟨l, hx⟩ := mem_blocks.1 hx
      obtain ⟨k', m3, m4⟩ := i2 _ hx
      have := hC.dist k k' g hg (mem_blocks.2 ⟨_, m4⟩)
      subst this
      exact d3 k hk m3
    ·rw [blocks_append, List.mem_append]
     rintro (hx | hx)
     ·obtain ⟨l, hx⟩ := mem_blocks.1 hx
      obtain ⟨k', m3, m4⟩ := j2 _ hx
      have := hC.dist k' k g (mem_blocks.2 ⟨_, m4⟩) hg
      subst this
      exact d3 k' m3 hk
     ·exact hgb hx
end
end Go.Fw
/- Soundness, part 24: functions, calls of any depth. -/
namespace Go.Fw
open Go Go.RowKit
def okF (P : Program) (f : FuncId) (fd : FD) : Bool :=
 match P.funcs[f]? with
 | some fn => !(fn.name == "runtime.NumGoroutine") && (match fn.body with | some c => okC P fn.ntmps c fd.body | none => false) && decide (fd.nargs ≤ fn.ntmps) && okRes P fn.results.toList fd.res
 | none => false
theorem look_params : ∀ (as : List E) (j k : Nat), look (params j as) k = if j ≤ k then (as[k - j]?).getD .dead else .dead
 | [], j, k => by simp [params, look]
 | e :: as, j, k => by
   rw [params, look_cons, look_params as (j + 1) k]
   by_cases h : j = k
   ·subst h; simp
   ·rw [if_neg h]
    by_cases h2 : j ≤ k
    ·rw [if_pos h2, if_pos (by omega), show k - j = (k - (j + 1)) + 1 by omega]; simp
    ·rw [if_neg h2, if_neg (by omega)]
section
variable {P : Program}
theorem ArgsRep.get {w : World} {G : Nat → Nat → Prop} {as : List E} {vals : List Value} (h : ArgsRep P w G as vals) : as.length = vals.length ∧ ∀ (k : Nat) (e : E), as[k]? = some e → ∃ v, vals[k]? = some v ∧ ARep P w G e v := by
 induction h with
 | nil => exact ⟨rfl, fun k e h => by simp at h⟩
 | @cons e v es vs h1 _ ih =>
   refine ⟨by simp [ih.1], fun k e' h => ?_⟩
   cases k with
   | zero => simp only [List.getElem?_cons_zero, Option.some.injEq] at h; subst h; exact ⟨v, by simp, h1⟩
   | succ k => simp only [List.getElem?_cons_succ] at h ⊢; exact ih.2 k e' h
theorem start_conc {w : World} {G : Nat → Nat → Prop} {as : List E} {vals : List Value} (h : ArgsRep P w G as vals) {m : Nat} (hm : as.length ≤ m) :
  Conc P w.heap.size G w m (params 0 as) (vals.toArray ++ Array.replicate (m - vals.toArray.size) undef) w (fun _ => []) where
 rep k := by
  rw [look_params, if_pos (Nat.zero_le k), Nat.sub_zero]
  cases hk : as[k]? with
  | none => exact rfl
  | some e =>
    obtain ⟨v, hv, hr⟩ := h.get.2 k e hk
    have hlt : k < vals.length := (List.getElem?_eq_some_iff.1 hv).1
    have ht : (vals.toArray ++ Array.replicate (m - vals.toArray.size) undef).getD k undef = v := by
     rw [Array.getD_eq_getD_getElem?, Array.getElem?_append_left (by simpa using hlt)]
     simp [hv]
    rw [ht]
    have hG : ∀ b i, b < w.heap.size → G b i → Gd w.heap.size G (fun _ => []) b i := fun b i hb hg => .inl ⟨hb, hg⟩
    simp only [Option.getD_some]
    cases e <;> first | exact (hr : False).elim | skip
    ·exact rfl
    ·obtain ⟨vs, h1, h2⟩ := hr
     exact ⟨rfl, vs, Flat.mono P _ (fun b i hb hg => ⟨hG b i hb hg, rfl⟩) (Later.refl _ _) (by simp) h1, h2⟩
    ·obtain ⟨b, off, vs, h1, h2, h3⟩ := hr
     exact ⟨rfl, b, off, vs, h1, Flat.mono P _ (fun b i hb hg => ⟨hG b i hb hg, rfl⟩) (Later.refl _ _) (by simp) h2, fun j u hj => ⟨h3 j u hj, .inl (World.block_lt_of_cell? w _ (h3 j u hj))⟩⟩
 dist := by simp
 nodup := by simp
 low := by simp
 below := Below.refl _ _
 base := Nat.le_refl _
 size := by have := h.get.1; simp; omega
theorem run_results {fn : Func} {tm : Array Value} {w : World} {vs : List Value} (h : Each (fun x v => (runVar tm x).run P w = .ok v w) fn.results.toList vs) : (results fn tm).run P w = .ok (if h : vs.toArray.size = 1 then vs.toArray[0] else .tuple vs.toArray) w := by
 have e : results fn tm = (do let vs ← fn.results.mapM (runVar tm); pure (if h : vs.size = 1 then vs[0] else .tuple vs)) := by
  unfold results
  congr 2
 have := run_mapM h
 rw [e]
 simp only [Sem.run_bind, this, Result.andThen_ok]
 rfl
theorem fn_tail {fn : Func} {fd : FD} (h4 : okRes P fn.results.toList fd.res = true) {w w' : World} {G : Nat → Nat → Prop} {m : Nat} {env' : Env} {tm' : Array Value} {ob' : Nat → OB} {res : List E} (hC : Conc P w.heap.size G w m env' tm' w' ob')
  (hk : (retL env' fd.res).bind (fun q => match distinct q.2 && q.1.all E.back with | true => some q.1 | false => none) = some res) : ∃ v, (results fn tm').run P w' = .ok v w' ∧ ∃ v_1 rob, Ending.returned v = .returned v_1 ∧ Below w.heap.size w w' ∧ ResRep P w w' G res v_1 rob := by
 simp only [Option.bind_eq_some_iff] at hk
 obtain ⟨⟨es, ks⟩, hr, hk⟩ := hk
 split at hk
 case h_2 => simp at hk
 rename_i hdb
 simp only [Option.some.injEq] at hk; subst hk
 simp only [Bool.and_eq_true] at hdb
 obtain ⟨vs, rob, i1, i2, i3, i4⟩ := retL_sound hC fn.results.toList fd.res es ks h4 hr
 refine ⟨_, run_results i1, _, rob, rfl, hC.below, ?_⟩
 have hT := i4 (Gr w.heap.size G rob) (fun b i _ hg => ?_) (fun k _ g _ hB hg i => .inr ⟨hB, fun lim hl => absurd (mem_blocks.2 ⟨lim, hl⟩) hg⟩) hdb.1
 ·refine ⟨?_, hdb.2, i3 hdb.1, fun b hb => ?_⟩
  ·match es, hdb.2, hT with
   | [e], hb, hT =>
     obtain ⟨v, r, b1, b2, rfl, rfl, k1, ⟨rfl, rfl⟩⟩ := hT
     simp only [List.all_cons, List.all_nil, Bool.and_true] at hb
     have : (if h : ([v] : List Value).toArray.size = 1 then ([v] : List Value).toArray[0] else .tuple ([v] : List Value).toArray) = v := by simp
     rw [List.append_nil] at k1
     rw [this, List.append_nil]
     cases e with
     | v T x => exact k1
     | own wr ed T o xs => exact k1
     | _ => simp [E.back] at hb
   | [], hb, hT =>
     obtain ⟨rfl, rfl⟩ := hT
     exact ⟨by simp, #[], rfl, rfl, rfl⟩
   | e1 :: e2 :: es, hb, hT =>
     have hb' : ∀ e ∈ (e1 :: e2 :: es), ∀ s, leads s e = false := by
      intro e he s
      have := List.all_eq_true.1 hb e he
      cases e <;> first | rfl | (exfalso; simp [E.back] at this; done)
     have hl : vs.length ≠ 1 := by
      obtain ⟨v, r, b1, b2, rfl, _, _, k⟩ := hT
      obtain ⟨v', r', _, _, rfl, _, _, _⟩ := k
      simp
     have : (if h : vs.toArray.size = 1 then vs.toArray[0] else .tuple vs.toArray) = .tuple vs.toArray := by
      rw [dif_neg (by simpa using hl)]
     rw [this]
     exact ⟨hb', vs.toArray, rfl, by simpa using hT⟩
  ·obtain ⟨l, hb⟩ := mem_blocks.1 hb
   obtain ⟨k, _, hq⟩ := i2 _ hb
   exact hC.low k b (mem_blocks.2 ⟨_, hq⟩)
 ·rcases hg with hg | ⟨hg1, hg2⟩
  ·exact .inl hg
  ·refine .inr ⟨hg1, fun lim hl => ?_⟩
   obtain ⟨k, _, hq⟩ := i2 _ hl
   exact hg2 k lim hq
theorem fn_sound {cl : Cal} (hgood : Good P cl) (N : Nat) {f : FuncId} {fd : FD} (hok : okF P f fd = true) {as res : List E} (hlen : as.length = fd.nargs) (h : exec cl N fd.body (params 0 as) (retK fd) = some res) (w : World) (G : Nat → Nat → Prop) (vals : List Value) (hA : ArgsRep P w G as vals) :
  Callable P f ∧ Calls P f vals.toArray w fun e w' => ∃ v rob, e = .returned v ∧ Below w.heap.size w w' ∧ ResRep P w w' G res v rob := by
 unfold okF at hok
 split at hok
 case h_2 => simp at hok
 rename_i fn hfn
 simp only [Bool.and_eq_true, Bool.not_eq_true', decide_eq_true_eq] at hok
 obtain ⟨⟨⟨h1, h2⟩, h3⟩, h4⟩ := hok
 split at h2
 case h_2 => simp at h2
 rename_i c hc
 refine ⟨⟨fn, hfn, h1, by rw [hc]; rfl⟩, calls_of_wp hfn hc ?_⟩
 refine exec_sound hgood N fd.body c _ _ w _ _ _ h2 (start_conc hA (by omega)) h (fun e env' tm' w' ob' hC hk => ?_)
 have key : (retL env' fd.res).bind (fun q => match distinct q.2 && q.1.all E.back with | true => some q.1 | false => none) = some res → ∃ v, (results fn tm').run P w' = .ok v w' ∧ ∃ v_1 rob, Ending.returned v = .returned v_1 ∧ Below w.heap.size w w' ∧ ResRep P w w' G res v_1 rob := by
  intro hk; exact fn_tail h4 hC hk
 cases e with
 | exit id => simp [retK] at hk
 | normal => exact ⟨rfl, key hk⟩
 | ret => exact ⟨rfl, key hk⟩
theorem acall_good {tb : Table} {pr : Prims} (N : Nat) (htb : ∀ f fd, pr f = none → tb f = some fd → okF P f fd = true) (hpr : Good P (.of fun f as => (pr f).bind fun p => p as)) : ∀ D, Good P (acall tb pr N D)
 | 0 => ⟨fun f as res h => by simp [acall, Cal.of] at h, fun f e T xs res h => by simp [acall, Cal.of] at h⟩
 | D + 1 => ⟨fun f as res h w G vals hA => by
   simp only [acall, Cal.of] at h
   split at h
   ·rename_i p hp
    exact hpr.call f as res (by simp only [Cal.of, hp, Option.bind_some]; exact h) w G vals hA
   ·rename_i hp
    split at h
    ·simp at h
    ·split at h
     ·rename_i fd hfd
      split at h
      ·rename_i hl _
       exact fn_sound (acall_good N htb hpr D) N (htb f fd hp hfd) hl h w G vals hA
      ·simp at h
     ·simp at h, fun f e T xs res h => by
   simp only [acall, Cal.of] at h
   split at h
   ·rename_i p hp
    exact hpr.wr f e T xs res (by simp only [Cal.of, hp, Option.bind_some]; exact h)
   ·simp [headUnd] at h⟩
theorem recC_good {n : FuncId} {fd : FD} {N : Nat} {base : Cal} (hb : Good P base) (hok : okF P n fd = true) : ∀ m, Good P (recC n fd N base m)
 | 0 => hb
 | m + 1 => ⟨fun f as res h w G vals hA => by
   simp only [recC, Cal.of] at h
   split at h
   ·rename_i hf _
    subst hf
    split at h
    ·simp at h
    ·split at h
     ·rename_i hl _
      exact fn_sound (recC_good hb hok m) N hok hl h w G vals hA
     ·simp at h
   ·exact hb.call f as res h w G vals hA, fun f e T xs res h => by
   simp only [recC, Cal.of] at h
   split at h
   ·simp [headUnd] at h
   ·exact hb.wr f e T xs res h⟩
end
end Go.Fw
/- The glue: a call that the machine says is true. -/
namespace Go.Fw
open Go Go.RowKit
def isTrue : Option (List E) → Bool
 | some [.v .bool true] => true
 | _ => false
theorem isTrue_some {x : Option (List E)} (h : isTrue x = true) : x = some [.v .bool true] := by
 unfold isTrue at h
 split at h
 ·rfl
 ·simp at h
theorem call_true {P : Program} {cl : Cal} {f : FuncId} {es : List E} {vals : List Value} {w : World} {G : Nat → Nat → Prop} (hg : Good P cl) (h : isTrue (cl f es) = true) (hA : ArgsRep P w G es vals) :
  Calls P f vals.toArray w (fun e w' => e = .returned (.bool true) ∧ Below w.heap.size w w') := by
 refine Calls.mono (hg.call f es _ (isTrue_some h) w G vals hA).2 ?_
 rintro e w' ⟨v, rob, rfl, hb, hres⟩
 obtain ⟨rs, rfl, h1⟩ := hres.scal rfl
 have h2 := h1 w' (fun _ _ => True) 0
 unfold Flat at h2
 obtain ⟨rfl, _⟩ := h2
 exact ⟨rfl, hb⟩
theorem wf_inR {k : IntKind} {m : Int} (h : (Lit.int k m).wf = true) : inR k m := by
 unfold inR; simpa only [Lit.wf, Bool.and_eq_true, decide_eq_true_eq] using h
theorem arg_int {P : Program} {w : World} {G : Nat → Nat → Prop} {k : IntKind} {m : Int} (h : inR k m) : ARep P w G (.v (.int k) m) (.int k m) := ⟨[.int k m], by unfold Flat; exact ⟨rfl, h, rfl⟩, rfl⟩
theorem arg_bool {P : Program} {w : World} {G : Nat → Nat → Prop} (b : Bool) : ARep P w G (.v .bool b) (.bool b) := ⟨[.bool b], by unfold Flat; exact ⟨rfl, rfl⟩, rfl⟩
end Go.Fw
/- slices.Clone, at any type of elements: its contract, proved from its body (which asks whether a slice is nil: the machine's values do not say). -/
namespace Go.Fw
open Go Go.RowKit
def cl0 : Cal := .of fun _ _ => none
theorem cl0_good {P : Program} : Good P cl0 := ⟨fun f es res h => by simp [cl0, Cal.of] at h, fun f e T xs res h => by simp [cl0, Cal.of] at h⟩
def cloA (e : TypeId) (T : Ty) : AC := .reg [0] [{ dst := some 2, op := .asg (.nil e T) }]
def cloIf (e : TypeId) (T : Ty) : AC := .cond (.t 4) (.seq (.reg [] [{ dst := some 2, op := .asg (.nil e T) }]) .ret) .skip
def cloR' (e : TypeId) (T : Ty) (lim : Nat) : AC := .seq (.reg [0] [{ dst := some 5, op := .buildSlice e T [] }, { dst := some 6, op := .mv (.t 0) }, { dst := some 7, op := .append e T lim (.t 5) (.t 6) }, { dst := some 2, op := .asg (.t 7) }]) .ret
def cloFD : FD := { nargs := 1, body := .skip, res := [.t 2] }
def cloK (e : TypeId) (T : Ty) (lim : Nat) : KE (List E) := seqK (fun env => exec cl0 0 (cloR' e T lim) env (retK cloFD)) (retK cloFD)
def cloE (e : TypeId) (T : Ty) (b : Bool) (xs : List (den T)) : Env := [(4, .v .bool b), (3, .v (.sl T) xs), (0, .v (.sl T) xs), (2, .own true e T .no [])]
def cloneOk (P : Program) (f : FuncId) (e : TypeId) (T : Ty) (lim : Nat) : Bool :=
 match P.funcs[f]? with
 | some fn => !(fn.name == "runtime.NumGoroutine") && decide (5 ≤ fn.ntmps) && okRes P fn.results.toList [.t 2] && (match fn.body with
   | some (.seq c0 (.seq (.seq (.region _ ops false) cif) cr)) => okC P fn.ntmps c0 (cloA e T) && okC P fn.ntmps cif (cloIf e T) && okC P fn.ntmps cr (cloR' e T lim) &&
     (match ops.toList with
      | [o1, o2] => okAI P fn.ntmps o1 { dst := some 3, op := .mv (.t 0) } && o1.guard.isNone && o2.guard.isNone && decide (o2.dst = some 4) &&
       (match o2.op with | .binOp .eql t (.tmp 3) (.const (.slice none 0 0)) _ => slB P t e | _ => false)
      | _ => false)
   | _ => false)
 | none => false
theorem clone_good {P : Program} {f : FuncId} {e : TypeId} {T : Ty} {lim : Nat} (hok : cloneOk P f e T lim = true)
  (e1 : exec cl0 0 (cloIf e T) (cloE e T true []) (cloK e T lim) = some [.own true e T .no []])
  (e2 : ∀ xs : List (den T), exec cl0 0 (cloIf e T) (cloE e T false xs) (cloK e T lim) = if ([] : List (den T)).length + xs.length ≤ lim then some [.own true e T .no xs] else none)
  (xs : List (den T)) (hx : xs.length ≤ lim) (w : World) (G : Nat → Nat → Prop) (vals : List Value) (hA : ArgsRep P w G [.v (.sl T) xs] vals) :
  Callable P f ∧ Calls P f vals.toArray w fun en w' => ∃ v rob, en = .returned v ∧ Below w.heap.size w w' ∧ ResRep P w w' G [.own true e T .no xs] v rob := by
 unfold cloneOk at hok
 split at hok
 case h_2 => simp at hok
 rename_i fn hfn
 simp only [Bool.and_eq_true, Bool.not_eq_true', decide_eq_true_eq] at hok
 obtain ⟨⟨⟨h1, h2⟩, h3⟩, h4⟩ := hok
 split at h4
 case h_2 => simp at h4
 rename_i c0 id1 ops cif cr hc
 simp only [Bool.and_eq_true] at h4
 obtain ⟨⟨⟨k0, k1⟩, k2⟩, k3⟩ := h4
 split at k3
 case h_2 => simp at k3
 rename_i o1 o2 hops
 simp only [Bool.and_eq_true, Option.isNone_iff_eq_none, decide_eq_true_eq] at k3
 obtain ⟨⟨⟨⟨j1, j2⟩, j3⟩, j4⟩, j5⟩ := k3
 split at j5
 case h_2 => simp at j5
 rename_i t yt hop
 have hu := slB_ok j5
 have hops2 : ops = #[o1, o2] := arr2 hops
 subst hops2
 refine ⟨⟨fn, hfn, h1, by rw [hc]; rfl⟩, calls_of_wp hfn hc ?_⟩
 have hC0 := start_conc hA (m := fn.ntmps) (by simp; omega)
 refine wp_seq (exec_sound (R := Env) (r := [(2, .own true e T .no []), (0, .v (.sl T) xs)]) cl0_good 0 (cloA e T) c0 _ _ w _ (fun ex env => match ex with | .normal => some env | _ => none) _ k0 hC0 rfl (fun ex env' tm' w' ob' hC hk => ?_))
 cases ex <;> simp only [Option.some.injEq] at hk <;> first | (exfalso; simp at hk; done) | skip
 subst hk
 refine wp_seq (wp_seq (wp_region ?_))
 show wpOps P #[o1, o2] _ [0, 1] _ w'
 have w1 : Region.wanted o1 (yielded #[o1, o2] tm') = true := by simp [Region.wanted, j2]
 simp only [wpOps]
 show (if Region.wanted o1 (yielded #[o1, o2] tm') = true then _ else _)
 rw [if_pos w1]
 refine .inl (st_ok (R := Env) (r := [(3, .v (.sl T) xs), (2, .own true e T .no []), (0, .v (.sl T) xs)]) (K := some) cl0_good hC (fun env2 tm2 w2 ob2 hC2 hk2 => ?_) j1 rfl)
 simp only [Option.some.injEq] at hk2
 subst hk2
 show (if Region.wanted o2 (yielded #[o1, o2] tm2) = true then _ else _)
 rw [if_pos (by simp [Region.wanted, j3])]
 have hr := hC2.rep 3
 obtain ⟨_, vs, f1, f2⟩ := hr
 unfold Flat at f1
 obtain ⟨_, A, cp, rfl, hle, hmx, hcells⟩ := f1
 have hv : tm2.getD 3 undef = .slice A xs.length cp := f2
 -- what the comparison says
 have fin : ∀ b, b = A.isNone → exec cl0 0 (cloIf e T) (cloE e T b xs) (cloK e T lim) = some [.own true e T .no xs] := by
  intro b hb
  cases b with
  | true =>
    have hx0 : xs = [] := by
     rcases hcells with h | ⟨b, off, cells, hA', _⟩
     ·exact h
     ·rw [hA'] at hb; simp at hb
    subst hx0; exact e1
  | false => rw [e2 xs, if_pos (by simpa using hx)]
 have hrun : (execOp ({ tmps := tm2, defers := [] } : Act).eval o2).run P w2 = .ok (.value (.bool A.isNone)) w2 := by
  have ev : ({ tmps := tm2, defers := [] } : Act).eval (.tmp 3) = .slice A xs.length cp := by
   rw [← hv]; rfl
  have e0 : execOp ({ tmps := tm2, defers := [] } : Act).eval o2 = (do pure (.value (← (do eqGuard .eql t (.tmp 3) (.const (.slice none 0 0)) (({ tmps := tm2, defers := [] } : Act).eval (.tmp 3)) (.slice none 0 0); binOp .eql t (({ tmps := tm2, defers := [] } : Act).eval (.tmp 3)) (.slice none 0 0)))) : Sem Next) := by
   unfold execOp; rw [hop]; rfl
  rw [e0, ev]
  have b0 : binOp .eql t (.slice A xs.length cp) (.slice none 0 0) = (do pure (.bool (← Op.equal t (.slice A xs.length cp) (.slice none 0 0))) : Sem Value) := rfl
  have g0 : (eqGuard .eql t (.tmp 3) (.const (.slice none 0 0)) (.slice A xs.length cp) (.slice none 0 0)).run P w2 = .ok () w2 := rfl
  simp only [Sem.run_bind, g0, Result.andThen_ok, b0, run_equal_slice_nil w2 t e A xs.length cp hu, Sem.run_pure]
 refine .inl (wp_value hrun ?_)
 have h4n : ∀ k, o2.dst = some k → k < fn.ntmps := by intro k hk; rw [j4] at hk; have := Option.some.inj hk; exact this ▸ h2
 obtain ⟨ob3, hC3⟩ := Conc.putO (e := .v .bool A.isNone) hC2 h4n (Grows.refl w2) (v_bool _ _ _) ({ tmps := tm2, defers := [] } : Act) rfl
 have hC4 : ∃ ob4, Conc P w.heap.size G w fn.ntmps (cloE e T A.isNone xs) (({ tmps := tm2, defers := [] } : Act).put o2.dst (.bool A.isNone)).tmps w2 ob4 := by
  refine Conc.ext hC3 (fun k => ?_)
  rw [j4]
  have hp : putO [(3, .v (.sl T) xs), (2, .own true e T .no []), (0, .v (.sl T) xs)] (some 4) (.v .bool A.isNone) = [(4, .v .bool A.isNone), (3, .v (.sl T) xs), (2, .own true e T .no []), (0, .v (.sl T) xs)] := rfl
  rw [hp]
  simp only [cloE, look_cons]
  by_cases q4 : 4 = k
  ·subst q4; rfl
  ·by_cases q3 : 3 = k
   ·subst q3; rfl
   ·by_cases q2 : 2 = k
    ·subst q2; rfl
    ·by_cases q0 : 0 = k
     ·subst q0; rfl
     ·simp only [if_neg q4, if_neg q3, if_neg q2, if_neg q0]
 obtain ⟨ob4, hC4⟩ := hC4
 refine exec_sound cl0_good 0 (cloIf e T) cif _ (({ tmps := tm2, defers := [] } : Act).put o2.dst (.bool A.isNone)) w2 ob4 (cloK e T lim) _ k1 hC4 (fin _ rfl) (fun ex env5 tm5 w5 ob5 hC5 hk5 => ?_)
 have done : ∀ (ex : Ex) (env6 : Env) (tm6 : Array Value) (w6 : World) (ob6 : Nat → OB), Conc P w.heap.size G w fn.ntmps env6 tm6 w6 ob6 → retK cloFD ex env6 = some [.own true e T .no xs] → bodyPost P fn (fun en w' => ∃ v rob, en = .returned v ∧ Below w.heap.size w w' ∧ ResRep P w w' G [.own true e T .no xs] v rob) (exOf ex) { ({ tmps := tm2, defers := [] } : Act).put o2.dst (.bool A.isNone) with tmps := tm6 } w6 := by
  intro ex env6 tm6 w6 ob6 hC6 hk6
  have key := fn_tail (fn := fn) (fd := cloFD) h3 hC6 (res := [.own true e T .no xs])
  cases ex with
  | exit id => simp [retK] at hk6
  | normal => exact ⟨by rw [j4]; rfl, key hk6⟩
  | ret => exact ⟨by rw [j4]; rfl, key hk6⟩
 cases ex with
 | normal =>
   simp only [cloK, seqK] at hk5
   refine exec_sound cl0_good 0 (cloR' e T lim) cr _ { ({ tmps := tm2, defers := [] } : Act).put o2.dst (.bool A.isNone) with tmps := tm5 } w5 ob5 _ _ k2 hC5 hk5 (fun ex6 env6 tm6 w6 ob6 hC6 hk6 => ?_)
   exact done ex6 env6 tm6 w6 ob6 hC6 hk6
 | exit id =>
   simp only [cloK, seqK] at hk5
   simp [retK] at hk5
 | ret =>
   simp only [cloK, seqK] at hk5
   exact done .ret env5 tm5 w5 ob5 hC5 hk5
end Go.Fw
/- What follows a code may be put behind its answer. -/
namespace Go.Fw
open Go Go.RowKit
section
variable {cl : Cal} {N : Nat}
theorem step_bindK (i : AI) (env : Env) {R R' : Type} (K : Kont R) (h : R → Option R') : (step cl i env K).bind h = step cl i env (fun env => (K env).bind h) := by
 rw [step_bind cl i env K, step_bind cl i env (fun env => (K env).bind h), Option.bind_assoc]
theorem brB_bind {R R' : Type} (b : Bool) (x y : Option R) (h : R → Option R') : (brB b x y).bind h = brB b (x.bind h) (y.bind h) := by cases b <;> rfl
theorem guardX_bind (g : Option (Nat × Bool)) (env : Env) {R R' : Type} (y n : Kont R) (h : R → Option R') : (guardX g env y n).bind h = guardX g env (fun env => (y env).bind h) (fun env => (n env).bind h) := by
 cases g with
 | none => rfl
 | some q =>
   obtain ⟨s, pol⟩ := q
   simp only [guardX]
   split
   ·cases pol <;> exact brB_bind _ _ _ _
   ·rfl
   ·rfl
theorem ops_bind {R R' : Type} (K : Kont R) (h : R → Option R') : ∀ (l : List AI) (env : Env), (ops cl l env K).bind h = ops cl l env (fun env => (K env).bind h)
 | [], env => rfl
 | i :: r, env => by
   simp only [ops]
   rw [guardX_bind]
   congr 1
   ·funext env
    rw [step_bindK]
    congr 1
    funext env
    exact ops_bind K h r env
   ·funext env
    exact ops_bind K h r _
theorem draws_bind {R R' : Type} (K : Kont R) (h : R → Option R') : ∀ (l : List DI) (env : Env), (draws cl l env K).bind h = draws cl l env (fun env => (K env).bind h)
 | [], env => rfl
 | i :: r, env => by
   have yes : ∀ env', ((wrR cl i.ai.dst i.ai.op).runK (hid i.hide (look env)) fun δ => match okW i env δ with
     | true => draws cl r (δ ++ env') K
     | false => none).bind h = (wrR cl i.ai.dst i.ai.op).runK (hid i.hide (look env)) fun δ => match okW i env δ with
     | true => draws cl r (δ ++ env') (fun env => (K env).bind h)
     | false => none := by
    intro env'
    rw [Rd.eqn, Rd.eqn, Option.bind_assoc]
    congr 1
    funext δ
    split
    ·exact draws_bind K h r _
    ·rfl
   have nope : ∀ env', (match okW i env (one i.ai.dst .und) with
     | true => draws cl r (one i.ai.dst .und ++ env') K
     | false => none).bind h = match okW i env (one i.ai.dst .und) with
     | true => draws cl r (one i.ai.dst .und ++ env') (fun env => (K env).bind h)
     | false => none := by
    intro env'
    split
    ·exact draws_bind K h r _
    ·rfl
   simp only [draws]
   split
   ·split
    ·rw [step_bindK]
     congr 1
     funext env
     split
     ·exact draws_bind K h r env
     ·rfl
    ·rfl
   ·split
    ·exact yes env
    ·rename_i s pol _
     split
     ·rw [brB_bind]
      cases pol
      ·simp only [Bool.false_eq_true, if_false]; congr 1
       ·exact nope _
       ·exact yes _
      ·simp only [if_true]; congr 1
       ·exact yes _
       ·exact nope _
     ·exact nope env
     ·rfl
theorem iter_bind {R R' : Type} (live : List Nat) (body : {R : Type} → Env → KE R → Option R) (hb : ∀ {R R' : Type} (env : Env) (K : KE R) (h : R → Option R'), (body env K).bind h = body env (fun e env => (K e env).bind h)) (K : KE R) (h : R → Option R') :
  ∀ (m : Nat) (env : Env), (iter live (fun env K => body env K) K m env).bind h = iter live (fun env K => body env K) (fun e env => (K e env).bind h) m env
 | 0, env => rfl
 | m + 1, env => by
   simp only [iter]
   rw [hb]
   congr 1
   funext e env
   cases e with
   | normal => exact iter_bind live body hb K h m _
   | exit => rfl
   | ret => rfl
theorem exec_bind : ∀ (c : AC) {R R' : Type} (env : Env) (K : KE R) (h : R → Option R'), (exec cl N c env K).bind h = exec cl N c env (fun e env => (K e env).bind h)
 | .skip, _, _, _, _, _ => rfl
 | .ret, _, _, _, _, _ => rfl
 | .exit _, _, _, _, _, _ => rfl
 | .reg live l, _, _, env, K, h => ops_bind _ _ _ _
 | .draw live l, _, _, env, K, h => draws_bind _ _ _ _
 | .seq a b, _, _, env, K, h => by
   simp only [exec]
   rw [exec_bind a]
   congr 1
   funext e env
   cases e with
   | normal => exact exec_bind b env K h
   | exit => rfl
   | ret => rfl
 | .cond c x y, _, _, env, K, h => by
   simp only [exec]
   rw [Option.bind_assoc]
   congr 1
   funext q
   rw [brB_bind, exec_bind x, exec_bind y]
 | .block id b, _, _, env, K, h => by
   simp only [exec]
   rw [exec_bind b]
   congr 1
   funext e env
   cases e with
   | normal => rfl
   | ret => rfl
   | exit j =>
     simp only [blockK]
     cases Nat.decEq j id <;> rfl
 | .loop live b, _, _, env, K, h => iter_bind live (fun env K => exec cl N b env K) (fun env K h => exec_bind b env K h) K h N _
 | .out live b, _, _, env, K, h => by
   simp only [exec]
   exact exec_bind b env _ h
def decO (T : Ty) : E → Option (List (den T))
 | .own _ _ T' _ xs => cast? (.sl T) ⟨.sl T', xs⟩
 | _ => none
theorem fn_of {fd : FD} {env : Env} {B : Type} {ent : B → List E} {dr : List E → Option B} (hd : ∀ b, dr (ent b) = some b) (g : {R : Type} → (B → Option R) → Option R)
  (hg : ∀ {R : Type} (k : List E → Option R), exec cl N fd.body env (fun e env => (retK fd e env).bind k) = g (fun b => k (ent b))) :
  exec cl N fd.body env (retK fd) = (g some).bind fun b => some (ent b) := by
 have h1 : exec cl N fd.body env (retK fd) = g (fun b => some (ent b)) := by
  rw [← hg (k := some)]
  congr 1
  funext e env
  cases retK fd e env <;> rfl
 have h2 : g some = exec cl N fd.body env (fun e env => (retK fd e env).bind dr) := by
  rw [hg (k := dr)]
  congr 1
  funext b
  exact (hd b).symm
 have h3 : (fun (e : Ex) (env : Env) => ((retK fd e env).bind dr).bind fun b => some (ent b)) = fun e env => (retK fd e env).bind fun es => (dr es).bind fun b => some (ent b) := by
  funext e env
  rw [Option.bind_assoc]
 rw [h1, h2, exec_bind, h3, hg]
 congr 1
 funext b
 rw [hd]; rfl
end
end Go.Fw
/- strings.IndexByte's kernel: what is known of it, as the machine's. -/
namespace Go.Fw
open Go Go.RowKit
theorem indexByte_bounds : ∀ (l : List UInt8) (c : UInt8), -1 ≤ Lib.indexByte l c ∧ Lib.indexByte l c ≤ (l.length : Int)
 | [], _ => by simp [Lib.indexByte]
 | b :: l, c => by
   have ih := indexByte_bounds l c
   simp only [Lib.indexByte]
   split
   ·simp
    omega
   ·split
    ·simp
     omega
    ·rename_i h
     simp only [beq_iff_eq] at h
     simp only [List.length_cons]
     omega
theorem idx_good {P : Program} {f : FuncId} (hcall : ∀ (s : ByteArray) (c : Int) (w : World), Calls P f #[.string s, .int .u8 c] w fun e w' => e = .returned (.int .i64 (Lib.indexByte s.data.toList c.toNat.toUInt8)) ∧ w' = w) (hc : Callable P f)
  (s : List UInt8) (c : Int) (w : World) (G : Nat → Nat → Prop) (vals : List Value) (hA : ArgsRep P w G [.v .str s, .v (.int .u8) c] vals) :
  Callable P f ∧ Calls P f vals.toArray w fun en w' => ∃ v rob, en = .returned v ∧ Below w.heap.size w w' ∧ ResRep P w w' G [.v (.int .i64) (Lib.indexByte s c.toNat.toUInt8)] v rob := by
 cases hA with
 | cons h1 hA =>
   cases hA with
   | cons h2 hA =>
     cases hA
     obtain ⟨v1, f1, rfl⟩ := h1
     obtain ⟨v2, f2, rfl⟩ := h2
     unfold Flat at f1 f2
     obtain ⟨rfl, hl, _⟩ := f1
     obtain ⟨rfl, hr, _⟩ := f2
     refine ⟨hc, (hcall ⟨⟨s⟩⟩ c w).mono fun en w' ⟨he, hw⟩ => ?_⟩
     subst hw
     refine ⟨_, [], he, Below.refl _ _, ⟨?_, rfl, by simp, by simp⟩⟩
     refine ⟨rfl, [.int .i64 (Lib.indexByte s c.toNat.toUInt8)], ?_, rfl⟩
     unfold Flat
     have hb := indexByte_bounds s c.toNat.toUInt8
     refine ⟨rfl, ?_, rfl⟩
     unfold maxLen at hl
     constructor
     ·show (-9223372036854775808 : Int) ≤ _; omega
     ·show _ ≤ (9223372036854775807 : Int); omega
end Go.Fw
/- Numbers to the base 10000, subsets, reduced quotients: plain facts. -/
namespace Go.Fw
set_option linter.unusedSimpArgs false
def toN : List Int → Nat
 | [] => 0
 | d :: r => d.toNat + 10000 * toN r
def nd (n : Nat) : List Int := if h : n = 0 then [] else ((n % 10000 : Nat) : Int) :: nd (n / 10000)
termination_by n
decreasing_by omega
theorem nd_zero : nd 0 = [] := by rw [nd]; rfl
theorem nd_pos {n : Nat} (h : n ≠ 0) : nd n = ((n % 10000 : Nat) : Int) :: nd (n / 10000) := by
 rw [nd, dif_neg h]
def Dig (l : List Int) : Prop := ∀ d ∈ l, 0 ≤ d ∧ d < 10000
theorem Dig.nil : Dig [] := fun _ h => by cases h
theorem Dig.cons {d : Int} {l : List Int} (h : 0 ≤ d ∧ d < 10000) (hl : Dig l) : Dig (d :: l) := by
 intro x hx
 rcases List.mem_cons.1 hx with rfl | hx
 ·exact h
 ·exact hl x hx
theorem Dig.head {d : Int} {l : List Int} (h : Dig (d :: l)) : 0 ≤ d ∧ d < 10000 := h d (List.mem_cons_self ..)
theorem Dig.tail {d : Int} {l : List Int} (h : Dig (d :: l)) : Dig l := fun x hx => h x (List.mem_cons_of_mem _ hx)
theorem Dig.app {a b : List Int} (ha : Dig a) (hb : Dig b) : Dig (a ++ b) := by
 intro x hx
 rcases List.mem_append.1 hx with h | h
 ·exact ha x h
 ·exact hb x h
theorem Dig.left {a b : List Int} (h : Dig (a ++ b)) : Dig a := fun x hx => h x (List.mem_append_left _ hx)
theorem Dig.right {a b : List Int} (h : Dig (a ++ b)) : Dig b := fun x hx => h x (List.mem_append_right _ hx)
theorem Dig.one {d : Int} (h : 0 ≤ d ∧ d < 10000) : Dig [d] := Dig.cons h Dig.nil
theorem Dig.zeros (n : Nat) : Dig (List.replicate n 0) := by
 intro x hx
 obtain ⟨_, rfl⟩ := List.mem_replicate.1 hx
 omega
theorem toN_app (a b : List Int) : toN (a ++ b) = toN a + 10000 ^ a.length * toN b := by
 induction a with
 | nil => simp [toN]
 | cons d a ih =>
   simp only [List.cons_append, toN, ih, List.length_cons, Nat.pow_succ]
   rw [Nat.mul_add, Nat.add_assoc, ← Nat.mul_assoc, Nat.mul_comm 10000 (10000 ^ a.length)]
theorem toN_zeros (n : Nat) : toN (List.replicate n 0) = 0 := by
 induction n with
 | zero => rfl
 | succ n ih => simp [List.replicate_succ, toN, ih]
theorem toN_lt {l : List Int} (h : Dig l) : toN l < 10000 ^ l.length := by
 induction l with
 | nil => simp [toN]
 | cons d l ih =>
   have := ih h.tail; have := h.head
   simp only [toN, List.length_cons, Nat.pow_succ]
   omega
theorem toN_nd (n : Nat) : toN (nd n) = n := by
 induction n using Nat.strongRecOn with
 | ind n ih =>
   by_cases h : n = 0
   ·subst h; rw [nd_zero]; rfl
   ·rw [nd_pos h]
    simp only [toN]
    rw [ih (n / 10000) (by omega)]
    omega
theorem dig_nd (n : Nat) : Dig (nd n) := by
 induction n using Nat.strongRecOn with
 | ind n ih =>
   by_cases h : n = 0
   ·subst h; rw [nd_zero]; exact Dig.nil
   ·rw [nd_pos h]
    exact Dig.cons (by omega) (ih _ (by omega))
theorem nd_inj {a b : Nat} (h : nd a = nd b) : a = b := by rw [← toN_nd a, h, toN_nd]
theorem nd_nil {n : Nat} : nd n = [] ↔ n = 0 := by
 constructor
 ·intro h; rw [← toN_nd n, h]; rfl
 ·rintro rfl; exact nd_zero
def Top (l : List Int) : Prop := ∀ ys d, l = ys ++ [d] → d ≠ 0
theorem nd_toN {l : List Int} (h : Dig l) (ht : Top l) : nd (toN l) = l := by
 induction l with
 | nil => exact nd_zero
 | cons d l ih =>
   have hd := h.head
   cases l with
   | nil =>
     have : d ≠ 0 := ht [] d rfl
     have hn : toN [d] ≠ 0 := by simp only [toN]; omega
     rw [nd_pos hn]
     simp only [toN]
     rw [show (d.toNat + 10000 * 0) / 10000 = 0 by omega, nd_zero]
     congr 1
     omega
   | cons e l =>
     have e1 := ih h.tail (fun ys x hx => ht (d :: ys) x (by rw [hx]; rfl))
     have hp : toN (e :: l) ≠ 0 := by
      intro h0; rw [h0, nd_zero] at e1; cases e1
     have hn : toN (d :: e :: l) ≠ 0 := by rw [toN]; omega
     rw [nd_pos hn, toN, show (d.toNat + 10000 * toN (e :: l)) / 10000 = toN (e :: l) by omega, e1]
     congr 1
     omega
theorem top_nd (n : Nat) : Top (nd n) := by
 induction n using Nat.strongRecOn with
 | ind n ih =>
   intro ys d he
   by_cases h : n = 0
   ·subst h; rw [nd_zero] at he; cases ys <;> cases he
   ·rw [nd_pos h] at he
    cases ys with
    | nil =>
      simp only [List.nil_append, List.cons.injEq] at he
      have := nd_nil.1 he.2
      omega
    | cons y ys =>
      simp only [List.cons_append, List.cons.injEq] at he
      exact ih _ (by omega) ys d he.2
theorem nd_snoc0 (ys : List Int) : toN (ys ++ [0]) = toN ys := by rw [toN_app]; simp [toN]
theorem nd_eq {l : List Int} {n : Nat} (h : Dig l) (ht : Top l) (hn : toN l = n) : l = nd n := by rw [← hn, nd_toN h ht]
theorem len_nd_le {n k : Nat} : (nd n).length ≤ k ↔ n < 10000 ^ k := by
 induction k generalizing n with
 | zero =>
   constructor
   ·intro h
    have h2 : (nd n) = [] := List.length_eq_zero_iff.1 (by omega)
    rw [nd_nil.1 h2]; simp
   ·intro h
    have : n = 0 := by simp at h; exact h
    rw [this, nd_zero]; simp
 | succ k ih =>
   by_cases h : n = 0
   ·subst h; rw [nd_zero]; simp; exact Nat.pow_pos (by decide)
   ·rw [nd_pos h, List.length_cons, Nat.pow_succ]
    have := ih (n := n / 10000)
    constructor
    ·intro h1
     have := this.1 (by omega)
     omega
    ·intro h1
     have := this.2 (by omega)
     omega
theorem len_nd_mono {a b : Nat} (h : a ≤ b) : (nd a).length ≤ (nd b).length := by
 rw [len_nd_le]
 have := (len_nd_le (n := b) (k := (nd b).length)).1 (Nat.le_refl _)
 omega
theorem nd_small {n : Nat} (h : n < 10000) (h0 : n ≠ 0) : nd n = [(n : Int)] := by
 rw [nd_pos h0, show n / 10000 = 0 by omega, nd_zero, Nat.mod_eq_of_lt h]
def cmpN (a b : Nat) : Int := if a < b then -1 else if b < a then 1 else 0
theorem cmpN_self (a : Nat) : cmpN a a = 0 := by simp [cmpN]
theorem cmpN_eq {a b : Nat} : cmpN a b = 0 ↔ a = b := by
 unfold cmpN
 split
 ·constructor
  ·intro h; cases h
  ·omega
 ·split
  ·constructor
   ·intro h; cases h
   ·omega
  ·constructor
   ·omega
   ·intro; rfl
theorem cmpN_gt {a b : Nat} : cmpN a b > 0 ↔ b < a := by
 unfold cmpN
 split
 ·omega
 ·split <;> omega
theorem cmpN_lt {a b : Nat} : cmpN a b < 0 ↔ a < b := by
 unfold cmpN
 split
 ·omega
 ·split <;> omega
def su (f : Nat → Nat) : Nat → Nat
 | 0 => 0
 | n + 1 => su f n + f n
theorem su_congr {f g : Nat → Nat} {n : Nat} (h : ∀ i, i < n → f i = g i) : su f n = su g n := by
 induction n with
 | zero => rfl
 | succ n ih => simp only [su]; rw [ih (fun i hi => h i (by omega)), h n (by omega)]
theorem su_add (f g : Nat → Nat) (n : Nat) : su (fun i => f i + g i) n = su f n + su g n := by
 induction n with
 | zero => rfl
 | succ n ih => simp only [su, ih]; omega
theorem su_mul (c : Nat) (f : Nat → Nat) (n : Nat) : su (fun i => c * f i) n = c * su f n := by
 induction n with
 | zero => rfl
 | succ n ih => simp only [su, ih, Nat.mul_add]
theorem su_head (f : Nat → Nat) (n : Nat) : su f (n + 1) = f 0 + su (fun i => f (i + 1)) n := by
 induction n with
 | zero => simp [su]
 | succ n ih =>
   rw [su, ih]; simp only [su]; omega
theorem su_le {f : Nat → Nat} {n i : Nat} (h : i < n) : f i ≤ su f n := by
 induction n with
 | zero => omega
 | succ n ih =>
   simp only [su]
   by_cases hi : i = n
   ·subst hi; omega
   ·have := ih (by omega); omega
theorem su_split (f : Nat → Nat) (a b : Nat) : su f (a + b) = su f a + su (fun i => f (a + i)) b := by
 induction b with
 | zero => simp [su]
 | succ b ih => rw [← Nat.add_assoc]; simp only [su, ih]; omega
theorem su_zero {f : Nat → Nat} {n : Nat} (h : ∀ i, i < n → f i = 0) : su f n = 0 := by
 induction n with
 | zero => rfl
 | succ n ih => simp only [su]; rw [ih (fun i hi => h i (by omega)), h n (by omega)]
def ch : Nat → Nat → Nat
 | _, 0 => 1
 | 0, _ + 1 => 0
 | n + 1, k + 1 => ch n k + ch n (k + 1)
theorem ch_0 (n : Nat) : ch n 0 = 1 := by cases n <;> rfl
theorem ch_gt {n k : Nat} (h : n < k) : ch n k = 0 := by
 induction n generalizing k with
 | zero => cases k with
   | zero => omega
   | succ k => rfl
 | succ n ih => cases k with
   | zero => omega
   | succ k => simp only [ch]; rw [ih (by omega), ih (by omega)]
theorem ch_self (n : Nat) : ch n n = 1 := by
 induction n with
 | zero => rfl
 | succ n ih => simp only [ch, ih, ch_gt (Nat.lt_succ_self n)]
theorem ch_pos {n k : Nat} (h : k ≤ n) : 0 < ch n k := by
 induction n generalizing k with
 | zero => rw [show k = 0 by omega]; decide
 | succ n ih => cases k with
   | zero => rw [ch_0]; decide
   | succ k => simp only [ch]; have := ih (k := k) (by omega); omega
theorem ch_1 (n : Nat) : ch n 1 = n := by
 induction n with
 | zero => rfl
 | succ n ih => simp only [ch, ch_0, ih]; omega
theorem ch_abs (n k : Nat) : (k + 1) * ch (n + 1) (k + 1) = (n + 1) * ch n k := by
 induction n generalizing k with
 | zero => cases k with
   | zero => rfl
   | succ k => simp [ch]
 | succ n ih =>
   cases k with
   | zero => rw [ch_0, ch_1]; omega
   | succ k =>
     have e1 := ih k; have e2 := ih (k + 1)
     rw [show ch (n + 1 + 1) (k + 1 + 1) = ch (n + 1) (k + 1) + ch (n + 1) (k + 1 + 1) from rfl, Nat.mul_add, e2]
     rw [show (k + 1 + 1) * ch (n + 1) (k + 1) = (k + 1) * ch (n + 1) (k + 1) + ch (n + 1) (k + 1) by rw [Nat.succ_mul], e1]
     rw [show ch (n + 1) (k + 1) = ch n k + ch n (k + 1) from rfl]
     rw [Nat.succ_mul (n + 1), Nat.mul_add]
     omega
theorem ch_step {n k : Nat} (h : k ≤ n) : (k + 1) * ch n (k + 1) = (n - k) * ch n k := by
 have e1 := ch_abs n k
 rw [show ch (n + 1) (k + 1) = ch n k + ch n (k + 1) from rfl, Nat.mul_add] at e1
 have e2 : (n + 1) * ch n k = (k + 1) * ch n k + (n - k) * ch n k := by rw [← Nat.add_mul]; congr 1; omega
 omega
theorem ch_symm {n k : Nat} (h : k ≤ n) : ch n (n - k) = ch n k := by
 induction n generalizing k with
 | zero => rw [show k = 0 by omega]
 | succ n ih =>
   cases k with
   | zero => rw [ch_0, Nat.sub_zero, ch_self]
   | succ k =>
     by_cases hk : k = n
     ·subst hk; rw [Nat.sub_self, ch_0, ch_self]
     ·have e1 := ih (k := k) (by omega); have e2 := ih (k := k + 1) (by omega)
      rw [show n + 1 - (k + 1) = (n - (k + 1)) + 1 by omega]
      simp only [ch]
      rw [e2, show n - (k + 1) + 1 = n - k by omega, e1]; omega
theorem bin_thm (a b n : Nat) : su (fun k => ch n k * (a ^ k * b ^ (n - k))) (n + 1) = (a + b) ^ n := by
 induction n with
 | zero => simp [su, ch]
 | succ n ih =>
   rw [Nat.pow_succ, ← ih, Nat.mul_comm, Nat.add_mul, ← su_mul, ← su_mul]
   rw [su_head]
   rw [show su (fun i => ch (n + 1) (i + 1) * (a ^ (i + 1) * b ^ (n + 1 - (i + 1)))) (n + 1) = su (fun i => a * (ch n i * (a ^ i * b ^ (n - i)))) (n + 1) + su (fun i => ch n (i + 1) * (a ^ (i + 1) * b ^ (n - i))) (n + 1) from ?_]
   ·rw [show su (fun i => ch n (i + 1) * (a ^ (i + 1) * b ^ (n - i))) (n + 1) = su (fun i => ch n (i + 1) * (a ^ (i + 1) * b ^ (n - i))) n from ?_]
    ·rw [show su (fun k => b * (ch n k * (a ^ k * b ^ (n - k)))) (n + 1) = b ^ (n + 1) + su (fun i => ch n (i + 1) * (a ^ (i + 1) * b ^ (n - i))) n from ?_]
     ·simp only [ch_0, Nat.pow_zero, Nat.one_mul, Nat.sub_zero]; omega
     ·rw [su_head]
      simp only [ch_0, Nat.pow_zero, Nat.one_mul, Nat.sub_zero]
      congr 1
      ·rw [Nat.pow_succ, Nat.mul_comm]
      ·apply su_congr
       intro i hi
       obtain ⟨m, hm⟩ : ∃ m, n - i = m + 1 := ⟨n - (i + 1), by omega⟩
       rw [show n - (i + 1) = m by omega, hm, Nat.pow_succ b]
       simp only [Nat.mul_left_comm, Nat.mul_comm, Nat.mul_assoc]
    ·rw [su]; simp only [ch_gt (Nat.lt_succ_self n), Nat.zero_mul, Nat.add_zero]
   ·rw [← su_add]
    apply su_congr
    intro i hi
    simp only [ch]
    rw [Nat.add_mul, show n + 1 - (i + 1) = n - i by omega]
    congr 1
    rw [Nat.pow_succ]
    simp only [Nat.mul_left_comm, Nat.mul_comm, Nat.mul_assoc]
theorem vander (m r d : Nat) : su (fun k => ch m k * ch r (d - k)) (d + 1) = ch (m + r) d := by
 induction m generalizing d with
 | zero =>
   rw [su_head, su_zero (fun i _ => by simp [ch])]
   simp [ch_0]
 | succ m ih =>
   cases d with
   | zero => simp [su, ch_0]
   | succ d =>
     rw [show m + 1 + r = (m + r) + 1 by omega]
     rw [show ch (m + r + 1) (d + 1) = ch (m + r) d + ch (m + r) (d + 1) from rfl, ← ih d, ← ih (d + 1)]
     rw [su_head]
     rw [su_head (fun k => ch m k * ch r (d + 1 - k))]
     rw [show su (fun i => ch (m + 1) (i + 1) * ch r (d + 1 - (i + 1))) (d + 1) = su (fun i => ch m i * ch r (d - i)) (d + 1) + su (fun i => ch m (i + 1) * ch r (d + 1 - (i + 1))) (d + 1) from ?_]
     ·simp only [ch_0]; omega
     ·rw [← su_add]
      apply su_congr
      intro i hi
      simp only [ch]
      rw [Nat.add_mul, show d + 1 - (i + 1) = d - i by omega]
def low (n d : Nat) : Nat × Nat := (n / Nat.gcd n d, d / Nat.gcd n d)
theorem low_eq {n d n' d' : Nat} (hd : 0 < d) (hd' : 0 < d') (h : n * d' = n' * d) : low n d = low n' d' := by
 have g1 : 0 < Nat.gcd n d := Nat.gcd_pos_of_pos_right _ hd
 have g2 : 0 < Nat.gcd n' d' := Nat.gcd_pos_of_pos_right _ hd'
 have c1 : Nat.Coprime (n / Nat.gcd n d) (d / Nat.gcd n d) := Nat.coprime_div_gcd_div_gcd g1
 have c2 : Nat.Coprime (n' / Nat.gcd n' d') (d' / Nat.gcd n' d') := Nat.coprime_div_gcd_div_gcd g2
 have a1 : n / Nat.gcd n d * Nat.gcd n d = n := Nat.div_mul_cancel (Nat.gcd_dvd_left ..)
 have a2 : d / Nat.gcd n d * Nat.gcd n d = d := Nat.div_mul_cancel (Nat.gcd_dvd_right ..)
 have a3 : n' / Nat.gcd n' d' * Nat.gcd n' d' = n' := Nat.div_mul_cancel (Nat.gcd_dvd_left ..)
 have a4 : d' / Nat.gcd n' d' * Nat.gcd n' d' = d' := Nat.div_mul_cancel (Nat.gcd_dvd_right ..)
 unfold low
 generalize Nat.gcd n d = g at *
 generalize Nat.gcd n' d' = g' at *
 generalize n / g = x at *; generalize d / g = y at *; generalize n' / g' = x' at *; generalize d' / g' = y' at *
 subst a1; subst a2; subst a3; subst a4
 have e : x * y' = x' * y := by
  have : (x * y') * (g * g') = (x' * y) * (g * g') := by
   rw [show (x * y') * (g * g') = x * g * (y' * g') by simp only [Nat.mul_left_comm, Nat.mul_comm, Nat.mul_assoc], h]
   simp only [Nat.mul_left_comm, Nat.mul_comm, Nat.mul_assoc]
  exact Nat.eq_of_mul_eq_mul_right (Nat.mul_pos g1 g2) this
 have d1 : x ∣ x' := c1.dvd_of_dvd_mul_right ⟨y', e.symm⟩
 have d2 : x' ∣ x := c2.dvd_of_dvd_mul_right ⟨y, e⟩
 have hx : x = x' := Nat.dvd_antisymm d1 d2
 subst hx
 have d3 : y ∣ y' := c1.symm.dvd_of_dvd_mul_left ⟨x, by rw [Nat.mul_comm y x]; exact e⟩
 have d4 : y' ∣ y := c2.symm.dvd_of_dvd_mul_left ⟨x, by rw [Nat.mul_comm y' x]; exact e.symm⟩
 rw [Nat.dvd_antisymm d3 d4]
theorem low_pos {n d : Nat} (hd : 0 < d) : 0 < (low n d).2 := Nat.div_pos (Nat.le_of_dvd hd (Nat.gcd_dvd_right ..)) (Nat.gcd_pos_of_pos_right _ hd)
theorem low_cop {n d : Nat} (hd : 0 < d) : Nat.gcd (low n d).1 (low n d).2 = 1 := Nat.coprime_div_gcd_div_gcd (Nat.gcd_pos_of_pos_right _ hd)
theorem low_cross {n d : Nat} (hd : 0 < d) : (low n d).1 * d = n * (low n d).2 := by
 have g1 : 0 < Nat.gcd n d := Nat.gcd_pos_of_pos_right _ hd
 have a1 : n / Nat.gcd n d * Nat.gcd n d = n := Nat.div_mul_cancel (Nat.gcd_dvd_left ..)
 have a2 : d / Nat.gcd n d * Nat.gcd n d = d := Nat.div_mul_cancel (Nat.gcd_dvd_right ..)
 unfold low
 simp only
 generalize Nat.gcd n d = g at *
 generalize n / g = x at *; generalize d / g = y at *
 subst a1; subst a2
 simp only [Nat.mul_left_comm, Nat.mul_comm, Nat.mul_assoc]
theorem low_self {n d : Nat} (h : Nat.gcd n d = 1) : low n d = (n, d) := by simp [low, h]
end Go.Fw
/- Plain facts for loops over lists by a number. -/
namespace Go.Fw
open Go
abbrev BIG : Nat := 4611686018427387904
theorem wrap_id {n : Int} (h : -9223372036854775808 ≤ n ∧ n ≤ 9223372036854775807) : IntKind.i64.wrap n = n := IntWalk.i64_in n h
section
variable {α : Type} (pre ys : List α) (y d : α)
theorem at_cons : (pre ++ y :: ys).getD (Int.toNat (pre.length : Int)) d = y := by simp
theorem lt_cons : (decide ((pre.length : Int) < ((pre ++ y :: ys).length : Int))) = true := by simp; omega
theorem lt_nil : (decide ((pre.length : Int) < ((pre ++ ([] : List α)).length : Int))) = false := by simp
theorem in_cons : (0 ≤ (pre.length : Int) ∧ (pre.length : Int) < ((pre ++ y :: ys).length : Int)) = True := by simp; omega
theorem app_cons : pre ++ y :: ys = (pre ++ [y]) ++ ys := by simp
theorem wrap_snoc (h : (pre ++ y :: ys).length ≤ BIG) : IntKind.i64.wrap ((pre.length : Int) + 1) = ((pre ++ [y]).length : Int) := by
 rw [wrap_id]
 ·simp
 ·simp only [List.length_append, List.length_cons, BIG] at h; omega
theorem len_snoc : ((pre ++ [y]).length : Int) = (pre.length : Int) + 1 := by simp
end
end Go.Fw
/- The glue, generic: what a reading of the arguments says in the machine's values. -/
namespace Go.Fw
open Go Go.RowKit
def InR : (T : Ty) → den T → Prop
 | .int k, n => inR k n
 | .str, s => s.length ≤ maxLen
 | .sl T, xs => xs.length ≤ maxLen ∧ ∀ x ∈ xs, InR T x
 | .pair A B, x => InR A x.1 ∧ InR B x.2
 | .arr n T, xs => xs.length = n ∧ ∀ x ∈ xs, InR T x
 | _, _ => True
def argT : Ty → Bool
 | .int _ | .bool | .str | .unit => true
 | .sl T => argT T && !(cellsN T == 0)
 | .pair A B => argT A && argT B
 | .arr _ T => argT T
 | _ => false
section
variable {H : Type} {enc : TypeId × Value → H} {P : Program} {w : World} {sp : Nat → Bool} {held : Bool} {B : Nat}
theorem cellsOf_ty {t : TypeId} {T : Ty} {n : Nat} (h : tyOk P n t T = true) : P.cellsOf t = cellsN T := by
 obtain ⟨i, hi, hs⟩ := TyR.size (P := P) (t := t) (T := T) ⟨⟨n, h⟩⟩
 simp [Program.cellsOf, hi, hs]
theorem picks {α : Type} {Q : Nat → α → Prop} : ∀ (n : Nat), (∀ i, i < n → ∃ q, Q i q) → ∃ L : List α, L.length = n ∧ ∀ i q, L[i]? = some q → Q i q
 | 0, _ => ⟨[], rfl, by simp⟩
 | n + 1, h => by
   obtain ⟨L, hl, hq⟩ := picks n (fun i hi => h i (by omega))
   obtain ⟨q, hn⟩ := h n (by omega)
   refine ⟨L ++ [q], by simp [hl], fun i r hr => ?_⟩
   by_cases hi : i < n
   ·rw [List.getElem?_append_left (by omega)] at hr; exact hq i r hr
   ·have : i < (L ++ [q]).length := (List.getElem?_eq_some_iff.1 hr).1
    simp [hl] at this
    have hin : i = n := by omega
    subst hin
    rw [List.getElem?_append_right (by omega)] at hr
    simp [hl] at hr
    subst hr; exact hn
theorem elems_of {α : Type} {R : α → List Value → OB → Prop} : ∀ (L : List (List Value × α)), (∀ q ∈ L, R q.2 q.1 []) → Elems R (L.map (·.2)) ((L.map (·.1)).flatten) []
 | [], _ => ⟨rfl, rfl⟩
 | q :: L, h => ⟨q.1, (L.map (·.1)).flatten, [], [], rfl, rfl, h q (by simp), elems_of L (fun r hr => h r (by simp [hr]))⟩
theorem flat_chunks {α : Type} {c : Nat} : ∀ (L : List (List Value × α)) (cs : List Value), (∀ i q, L[i]? = some q → q.1 = (cs.drop (i * c)).take c) → cs.length = L.length * c → (L.map (·.1)).flatten = cs
 | [], cs, _, h => by
   have : cs = [] := List.eq_nil_of_length_eq_zero (by simpa using h)
   rw [this]; rfl
 | q :: L, cs, h, hl => by
   have h0 := h 0 q rfl
   rw [List.length_cons, Nat.add_mul, Nat.one_mul] at hl
   have ih := flat_chunks (c := c) L (cs.drop c) (fun i q' hq => by
    have := h (i + 1) q' (by simpa using hq)
    rw [this, List.drop_drop, Nat.add_mul, Nat.one_mul, Nat.add_comm c]) (by rw [List.length_drop]; omega)
   rw [List.map_cons, List.flatten_cons, ih, h0]
   simp
theorem flat_get {c : Nat} : ∀ (L : List (List Value)), (∀ l ∈ L, l.length = c) → ∀ (j : Nat) (v : Value), L.flatten[j]? = some v → ∃ i r l, j = i * c + r ∧ r < c ∧ L[i]? = some l ∧ l[r]? = some v
 | [], _, j, v, h => by simp at h
 | l :: L, hl, j, v, h => by
   rw [List.flatten_cons] at h
   have hc := hl l (by simp)
   by_cases hj : j < c
   ·rw [List.getElem?_append_left (by omega)] at h
    exact ⟨0, j, l, by omega, hj, rfl, h⟩
   ·rw [List.getElem?_append_right (by omega), hc] at h
    obtain ⟨i, r, l', h1, h2, h3, h4⟩ := flat_get L (fun l hl' => hl l (by simp [hl'])) (j - c) v h
    refine ⟨i + 1, r, l', ?_, h2, by simpa using h3, h4⟩
    rw [Nat.add_mul]; omega
theorem add_add (a : Addr) (i j : Nat) (h : (a.add i).spot = none) : ((a.add i).add j) = ⟨a.block, a.off + i + j, none⟩ := by
 obtain ⟨b, off, s⟩ := a
 unfold Addr.add at h ⊢
 by_cases h1 : i = 0 <;> by_cases h2 : j = 0 <;> simp_all
theorem spot_none {w : World} {a : Addr} {v : Value} (h : w.cell? a = some v) : a.spot = none := by
 unfold World.cell? at h
 split at h
 ·cases hs : a.spot with
  | none => rfl
  | some s => simp [hs] at h
 ·simp at h
theorem open_flat : ∀ (m : Nat),
  (∀ (t : TypeId) (T : Ty) (fuel : Nat) (cs : List Value) (x : DataW H × List MemPlace), tyOk P m t T = true → argT T = true → DataW.trod enc P w 0 sp held fuel t cs = some x → ∃ v, Flat P T w (fun _ _ => True) B .no v cs [] ∧ InR T v) ∧
  (∀ (fs : List Field) (T : Ty) (off : Nat) (cs : List Value), fldOk P m fs T off = true → argT T = true → cs.length = off + cellsN T →
   (∀ (i : Nat) (f : Field), fs[i]? = some f → ∃ n y, DataW.trod enc P w 0 sp held n f.type ((cs.drop f.offset).take (P.cellsOf f.type)) = some y) → ∃ v, Flat P T w (fun _ _ => True) B .no v (cs.drop off) [] ∧ InR T v) := by
 intro m
 induction m with
 | zero => exact ⟨fun t T fuel cs x h => by simp [tyOk] at h, fun fs T off cs h => by simp [fldOk] at h⟩
 | succ m ih =>
   obtain ⟨ih1, ih2⟩ := ih
   refine ⟨fun t T fuel cs x h ha hd => ?_, fun fs T off cs h ha hl hd => ?_⟩
   ·have hT : TyR P t T := ⟨⟨m + 1, h⟩⟩
    cases T with
    | int k =>
      obtain ⟨n, rfl, _, hw⟩ := DataW.trod_int hT.int hd
      exact ⟨n, by unfold Flat; exact ⟨rfl, wf_inR hw, rfl⟩, wf_inR hw⟩
    | bool =>
      unfold tyOk at h
      simp only [Bool.and_eq_true] at h
      have h2 := h.2
      split at h2 <;> first | (simp at h2; done) | skip
      ·rename_i hu
       obtain ⟨b, rfl, _⟩ := DataW.trod_bool hu hd
       exact ⟨b, by unfold Flat; exact ⟨rfl, rfl⟩, trivial⟩
      ·cases m with
       | zero => simp [fldOk] at h2
       | succ m => unfold fldOk at h2; split at h2 <;> simp at h2
    | str =>
      obtain ⟨s, rfl, _, hw⟩ := DataW.trod_string hT.str hd
      obtain ⟨⟨s⟩⟩ := s
      exact ⟨s, by unfold Flat; exact ⟨rfl, hw, rfl⟩, hw⟩
    | unit =>
      unfold tyOk at h
      simp only [Bool.and_eq_true] at h
      have h2 := h.2
      split at h2 <;> first | (simp at h2; done) | skip
      rename_i fs hu
      obtain ⟨xs, n, _, _, hlen, hxl, _⟩ := DataW.trod_struct hu hd
      rw [cellsOf_ty (n := m + 1) (T := .unit) (by unfold tyOk; simp only [Bool.and_eq_true]; refine ⟨h.1, ?_⟩; rw [hu]; exact h2)] at hlen
      have : cs = [] := List.eq_nil_of_length_eq_zero hlen
      subst this
      exact ⟨(), by unfold Flat; exact ⟨rfl, rfl⟩, trivial⟩
    | pair A C =>
      have hsz := cellsOf_ty h
      unfold tyOk at h
      simp only [Bool.and_eq_true] at h
      have h2 := h.2
      split at h2 <;> first | (simp at h2; done) | skip
      rename_i fs hu
      obtain ⟨xs, n, _, _, hlen, hxl, hf⟩ := DataW.trod_struct hu hd
      have := ih2 fs.toList (.pair A C) 0 cs h2 ha (by rw [hlen, hsz]; omega) (fun i f hi => by
       have hi' : fs[i]? = some f := by simpa using hi
       have hlt : i < xs.length := by rw [hxl]; exact (Array.getElem?_eq_some_iff.1 hi').1
       exact ⟨n, xs[i], by rw [hf i f hi']; exact List.getElem?_eq_getElem hlt⟩)
      simpa using this
    | sl T =>
      simp only [argT, Bool.and_eq_true, Bool.not_eq_true', beq_eq_false_iff_ne] at ha
      obtain ⟨e, hu, _⟩ := hT.slice
      have he : tyOk P m e T = true := by
       unfold tyOk at h
       simp only [Bool.and_eq_true] at h
       have h2 := h.2
       rw [hu] at h2
       exact h2
      have hc : P.cellsOf e = cellsN T := cellsOf_ty he
      rcases DataW.trod_slice hu hd with ⟨rfl, _⟩ | ⟨a, len, cap, elems, rest, n, _, rfl, _, hb, hl, hm, hlen, hel, _⟩
      ·refine ⟨[], ?_, by simp [InR]⟩
       unfold Flat
       exact ⟨rfl, none, 0, rfl, Nat.le_refl _, by simp, .inl rfl⟩
      ·have key : ∀ i, i < len → ∃ q : List Value × den T, (q.1.length = cellsN T ∧ (∀ r, r < cellsN T → w.cell? ((a.add (i * cellsN T)).add r) = q.1[r]?)) ∧ Flat P T w (fun _ _ => True) B .no q.2 q.1 [] ∧ InR T q.2 := by
        intro i hi
        have := hel i hi
        rw [List.getElem?_eq_getElem (by omega)] at this
        obtain ⟨cs', hcs, hy⟩ := Option.bind_eq_some_iff.1 this
        obtain ⟨v, hv1, hv2⟩ := ih1 e T n cs' _ he ha.1 hy
        obtain ⟨_, k1, k2⟩ := World.cells?_some hcs
        rw [hc] at k1 k2
        exact ⟨(cs', v), ⟨k1, k2⟩, hv1, hv2⟩
       obtain ⟨L, hL, hq⟩ := picks len key
       refine ⟨L.map (·.2), ?_, ?_⟩
       ·unfold Flat
        refine ⟨rfl, some a, cap, by simp [hL], by simpa [hL] using hl, hm, ?_⟩
        by_cases h0 : len = 0
        ·left; have : L = [] := List.eq_nil_of_length_eq_zero (by omega); simp [this]
        ·right
         have hpos : 0 < cellsN T := Nat.pos_of_ne_zero ha.2
         have hcell : ∀ i r q, L[i]? = some q → r < cellsN T → ∃ v, q.1[r]? = some v ∧ w.cell? ((a.add (i * cellsN T)).add r) = some v := by
          intro i r q hi hr
          have := (hq i q hi).1
          refine ⟨q.1[r]'(by omega), List.getElem?_eq_getElem _, ?_⟩
          rw [this.2 r hr]; exact List.getElem?_eq_getElem _
         have hsp : a.spot = none := by
          obtain ⟨v, _, hv⟩ := hcell 0 0 (L[0]'(by omega)) (List.getElem?_eq_getElem _) hpos
          have := spot_none hv
          simpa [Addr.add] using this
         obtain ⟨b, off, s⟩ := a
         simp only at hsp
         subst hsp
         refine ⟨b, off, (L.map (·.1)).flatten, rfl, elems_of L (fun q hq' => ?_), fun j v hj => ⟨?_, trivial⟩⟩
         ·obtain ⟨i, hi⟩ := List.getElem?_of_mem hq'
          exact (hq i q hi).2.1
         ·obtain ⟨i, r, l, rfl, hr, hi, hv⟩ := flat_get _ (fun l hl' => by
           obtain ⟨q, hq', rfl⟩ := List.mem_map.1 hl'
           obtain ⟨i, hi⟩ := List.getElem?_of_mem hq'
           exact (hq i q hi).1.1) j v hj
          rw [List.getElem?_map, Option.map_eq_some_iff] at hi
          obtain ⟨q, hi, rfl⟩ := hi
          obtain ⟨v', hv1, hv2⟩ := hcell i r q hi hr
          rw [hv] at hv1; cases hv1
          rw [WideShapes.add_plain, WideShapes.add_plain, Nat.add_assoc] at hv2
          exact hv2
       ·unfold InR
        refine ⟨by simp [hL]; omega, fun x hx => ?_⟩
        obtain ⟨q, hq', rfl⟩ := List.mem_map.1 hx
        obtain ⟨i, hi⟩ := List.getElem?_of_mem hq'
        exact (hq i q hi).2.2
    | arr n T =>
      have hsz := cellsOf_ty h
      unfold tyOk at h
      simp only [Bool.and_eq_true] at h
      have h2 := h.2
      split at h2 <;> first | (simp at h2; done) | skip
      ·rename_i n' e hu
       simp only [Bool.and_eq_true, beq_iff_eq] at h2
       obtain ⟨rfl, he⟩ := h2
       simp only [argT] at ha
       have hc : P.cellsOf e = cellsN T := cellsOf_ty he
       obtain ⟨xs, k, _, _, hlen, hxl, hel⟩ := DataW.trod_array hu hd
       have key : ∀ i, i < n' → ∃ q : List Value × den T, q.1 = (cs.drop (i * cellsN T)).take (cellsN T) ∧ Flat P T w (fun _ _ => True) B .no q.2 q.1 [] ∧ InR T q.2 := by
        intro i hi
        have := hel i hi
        rw [List.getElem?_eq_getElem (by omega), hc] at this
        obtain ⟨v, hv1, hv2⟩ := ih1 e T k _ _ he ha this
        exact ⟨(_, v), rfl, hv1, hv2⟩
       obtain ⟨L, hL, hq⟩ := picks n' key
       refine ⟨L.map (·.2), ?_, ?_⟩
       ·unfold Flat
        refine ⟨by simp [hL], ?_⟩
        have := elems_of (R := Flat P T w (fun _ _ => True) B .no) L (fun q hq' => by
         obtain ⟨i, hi⟩ := List.getElem?_of_mem hq'
         exact (hq i q hi).2.1)
        rwa [flat_chunks (c := cellsN T) L cs (fun i q hi => (hq i q hi).1) (by rw [hlen, hsz, hL]; rfl)] at this
       ·unfold InR
        refine ⟨by simp [hL], fun x hx => ?_⟩
        obtain ⟨q, hq', rfl⟩ := List.mem_map.1 hx
        obtain ⟨i, hi⟩ := List.getElem?_of_mem hq'
        exact (hq i q hi).2.2
      ·cases m with
       | zero => simp [fldOk] at h2
       | succ m => unfold fldOk at h2; split at h2 <;> simp at h2
    | fn A C => simp [argT] at ha
   ·cases fs with
    | nil =>
      unfold fldOk at h
      cases T <;> first | (exfalso; simp at h; done) | skip
      refine ⟨(), ?_, trivial⟩
      unfold Flat
      exact ⟨by apply List.drop_eq_nil_of_le; simp [cellsN] at hl; omega, rfl⟩
    | cons f fs =>
      unfold fldOk at h
      cases T <;> first | (exfalso; simp at h; done) | skip
      rename_i A C
      simp only [Bool.and_eq_true, beq_iff_eq] at h
      obtain ⟨⟨h1, h2⟩, h3⟩ := h
      simp only [argT, Bool.and_eq_true] at ha
      simp only [cellsN] at hl
      obtain ⟨n, y, hy⟩ := hd 0 f rfl
      obtain ⟨v1, g1, g2⟩ := ih1 f.type A n _ y h2 ha.1 hy
      obtain ⟨v2, g3, g4⟩ := ih2 fs C (off + cellsN A) cs h3 ha.2 (by omega) (fun i f' hi => hd (i + 1) f' (by simpa using hi))
      refine ⟨(v1, v2), ?_, g2, g4⟩
      unfold Flat
      refine ⟨_, _, [], [], ?_, rfl, g1, g3⟩
      rw [h1, cellsOf_ty h2, ← List.drop_drop, List.take_append_drop]
theorem open_arg {r : Reach} {b0 : Nat} {t : TypeId} {T : Ty} {v : Value} {d : DataW H} {ps : List MemPlace} (hT : tyB P t T = true) (ha : argT T = true) (hval : Value.okWide P w r b0 t v) (hd : DataW.Trod enc P w 0 sp held t v d ps) :
  ∃ x : den T, ARep P w (fun _ _ => True) (.v T x) v ∧ InR T x := by
 obtain ⟨fuel, hf⟩ := hd
 obtain ⟨x, h1, h2⟩ := (open_flat (B := w.heap.size) 64).1 t T fuel _ _ hT ha hf
 refine ⟨x, ⟨_, h1, ?_⟩, h2⟩
 have hTy := tyB_ok hT
 obtain ⟨dsc, hu, hag⟩ := hTy.agg
 unfold asVal
 unfold Value.okWide at hval
 by_cases hagg : isAggT T = true
 ·rw [if_pos hagg]
  rw [hagg] at hag
  rw [hu] at hval
  cases dsc <;> simp only [aggD] at hag <;> first | (exfalso; simp at hag; done) | (obtain ⟨cs, rfl, _⟩ := hval; simp [Value.cells])
 ·rw [if_neg hagg]
  have hagg' : aggD dsc = false := by rw [hag]; simpa using hagg
  have hl : v.cells.toList.length = 1 := by
   have := Flat.len P T h1
   rw [this]; cases T <;> simp_all [isAggT, cellsN]
  cases v <;> first | rfl | skip
  rename_i cs
  exfalso
  rw [hu] at hval
  cases dsc <;> simp only [aggD] at hagg' <;> first | (exfalso; simp at hagg'; done) | (simp [Cell.okWide, Cell.ok, hu] at hval; done) | skip
theorem args_stay {W W' : World} (hl : laidOutB P = true) (hB : Below W.heap.size W W') : ∀ (ts : List TypeId) (vs : List Value) (ds : List (DataW H)) (ps : List MemPlace), (ts.all fun t => P.readableRec t && decide (t < P.types.size)) = true →
  DataW.TrodAll enc P W 0 (fun _ => true) true ts vs ds ps → DataW.TrodAll enc P W' 0 (fun b => decide (b < W.heap.size)) true ts vs ds ps
 | [], vs, ds, ps, _, h => by
   obtain ⟨rfl, rfl, rfl⟩ := ChangeShapes.trodAll_nil h
   exact ChangeShapes.trodAll_mk0
 | t :: ts, vs, ds, ps, ht, h => by
   obtain ⟨v, vs', d, ds', p, q, rfl, rfl, rfl, h1, h2⟩ := ChangeShapes.trodAll_cons h
   simp only [List.all_cons, Bool.and_eq_true, decide_eq_true_eq] at ht
   have lt : ∀ x ∈ p, x.block < W.heap.size := by
    obtain ⟨n, hn⟩ := h1
    exact DataW.trod_lt n _ _ _ hn
   exact ⟨p, q, WideElems.Trod_stays hl ht.1.1 ht.1.2 h1 (fun x hx => hB.same (lt x hx)) (fun x hx => by simpa using lt x hx), args_stay hl hB ts vs' ds' q ht.2 h2, rfl⟩
end
end Go.Fw
