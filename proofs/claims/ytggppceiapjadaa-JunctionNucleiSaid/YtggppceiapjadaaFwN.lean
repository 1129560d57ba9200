/- slices.Clone, at any type of elements: its contract, proved from its body (which asks whether a slice is nil: the machine's values do not say). -/
import Derived.Test.YtggppceiapjadaaFwS24
import Derived.Laws.Cover3
set_option linter.unusedVariables false
set_option linter.unusedSimpArgs false
namespace Go.Fw
open Go Go.RowKit

def cl0 : Cal := .of fun _ _ => none
theorem cl0_good {P : Program} : Good P cl0 := fun f es res h => by simp [cl0, Cal.of] at h

def cloA (e : TypeId) (T : Ty) : AC := .reg [0] [{ dst := some 2, op := .asg (.nil e T) }]
def cloIf (e : TypeId) (T : Ty) : AC := .cond (.t 4) (.seq (.reg [] [{ dst := some 2, op := .asg (.nil e T) }]) .ret) .skip
def cloR' (e : TypeId) (T : Ty) (lim : Nat) : AC := .seq (.reg [0] [{ dst := some 5, op := .buildSlice e T [] }, { dst := some 6, op := .mv (.t 0) }, { dst := some 7, op := .append e T lim (.t 5) (.t 6) }, { dst := some 2, op := .asg (.t 7) }]) .ret
def cloFD : FD := { nargs := 1, body := .skip, res := [.t 2] }
def cloK (e : TypeId) (T : Ty) (lim : Nat) : KE (List E) := seqK (fun env => exec cl0 0 (cloR' e T lim) env (retK cloFD)) (retK cloFD)
def cloE (e : TypeId) (T : Ty) (b : Bool) (xs : List (den T)) : Env := [(4, .v .bool b), (3, .v (.sl T) xs), (0, .v (.sl T) xs), (2, .own true e T .no [])]

def cloneOk (P : Program) (f : FuncId) (e : TypeId) (T : Ty) (lim : Nat) : Bool :=
  match P.funcs[f]? with
  | some fn => !(fn.name == "runtime.NumGoroutine") && decide (5 ≤ fn.ntmps) && okRes P fn.results.toList [.t 2] && (match fn.body with
    | some (.seq c0 (.seq (.seq (.region _ ops false) cif) cr)) => okC P fn.ntmps c0 (cloA e T) && okC P fn.ntmps cif (cloIf e T) && okC P fn.ntmps cr (cloR' e T lim) &&
      (match ops.toList with
       | [o1, o2] => okAI P fn.ntmps o1 { dst := some 3, op := .mv (.t 0) } && o1.guard.isNone && o2.guard.isNone && decide (o2.dst = some 4) &&
          (match o2.op with | .binOp .eql t (.tmp 3) (.const (.slice none 0 0)) _ => slB P t e | _ => false)
       | _ => false)
    | _ => false)
  | none => false

theorem clone_good {P : Program} {f : FuncId} {e : TypeId} {T : Ty} {lim : Nat} (hok : cloneOk P f e T lim = true)
    (e1 : exec cl0 0 (cloIf e T) (cloE e T true []) (cloK e T lim) = some [.own true e T .no []])
    (e2 : ∀ xs : List (den T), exec cl0 0 (cloIf e T) (cloE e T false xs) (cloK e T lim) = if ([] : List (den T)).length + xs.length ≤ lim then some [.own true e T .no xs] else none)
    (xs : List (den T)) (hx : xs.length ≤ lim) (w : World) (G : Nat → Nat → Prop) (vals : List Value) (hA : ArgsRep P w G [.v (.sl T) xs] vals) :
    Callable P f ∧ Calls P f vals.toArray w fun en w' => ∃ v rob, en = .returned v ∧ Below w.heap.size w w' ∧ ResRep P w w' G [.own true e T .no xs] v rob := by
  unfold cloneOk at hok
  split at hok
  case h_2 => simp at hok
  rename_i fn hfn
  simp only [Bool.and_eq_true, Bool.not_eq_true', decide_eq_true_eq] at hok
  obtain ⟨⟨⟨h1, h2⟩, h3⟩, h4⟩ := hok
  split at h4
  case h_2 => simp at h4
  rename_i c0 id1 ops cif cr hc
  simp only [Bool.and_eq_true] at h4
  obtain ⟨⟨⟨k0, k1⟩, k2⟩, k3⟩ := h4
  split at k3
  case h_2 => simp at k3
  rename_i o1 o2 hops
  simp only [Bool.and_eq_true, Option.isNone_iff_eq_none, decide_eq_true_eq] at k3
  obtain ⟨⟨⟨⟨j1, j2⟩, j3⟩, j4⟩, j5⟩ := k3
  split at j5
  case h_2 => simp at j5
  rename_i t yt hop
  have hu := slB_ok j5
  have hops2 : ops = #[o1, o2] := arr2 hops
  subst hops2
  refine ⟨⟨fn, hfn, h1, by rw [hc]; rfl⟩, calls_of_wp hfn hc ?_⟩
  have hC0 := start_conc hA (m := fn.ntmps) (by simp; omega)
  refine wp_seq (exec_sound (R := Env) (r := [(2, .own true e T .no []), (0, .v (.sl T) xs)]) cl0_good 0 (cloA e T) c0 _ _ w _ (fun ex env => match ex with | .normal => some env | _ => none) _ k0 hC0 rfl (fun ex env' tm' w' ob' hC hk => ?_))
  cases ex <;> simp only [Option.some.injEq] at hk <;> first | (exfalso; simp at hk; done) | skip
  subst hk
  refine wp_seq (wp_seq (wp_region ?_))
  show wpOps P #[o1, o2] _ [0, 1] _ w'
  have w1 : Region.wanted o1 (yielded #[o1, o2] tm') = true := by simp [Region.wanted, j2]
  simp only [wpOps]
  show (if Region.wanted o1 (yielded #[o1, o2] tm') = true then _ else _)
  rw [if_pos w1]
  refine .inl (st_ok (R := Env) (r := [(3, .v (.sl T) xs), (2, .own true e T .no []), (0, .v (.sl T) xs)]) (K := some) cl0_good hC (fun env2 tm2 w2 ob2 hC2 hk2 => ?_) j1 rfl)
  simp only [Option.some.injEq] at hk2
  subst hk2
  show (if Region.wanted o2 (yielded #[o1, o2] tm2) = true then _ else _)
  rw [if_pos (by simp [Region.wanted, j3])]
  have hr := hC2.rep 3
  obtain ⟨_, vs, f1, f2⟩ := hr
  unfold Flat at f1
  obtain ⟨_, A, cp, rfl, hle, hmx, hcells⟩ := f1
  have hv : tm2.getD 3 undef = .slice A xs.length cp := f2
  -- what the comparison says
  have fin : ∀ b, b = A.isNone → exec cl0 0 (cloIf e T) (cloE e T b xs) (cloK e T lim) = some [.own true e T .no xs] := by
    intro b hb
    cases b with
    | true =>
      have hx0 : xs = [] := by
        rcases hcells with h | ⟨b, off, cells, hA', _⟩
        · exact h
        · rw [hA'] at hb; simp at hb
      subst hx0; exact e1
    | false => rw [e2 xs, if_pos (by simpa using hx)]
  have hrun : (execOp ({ tmps := tm2, defers := [] } : Act).eval o2).run P w2 = .ok (.value (.bool A.isNone)) w2 := by
    have ev : ({ tmps := tm2, defers := [] } : Act).eval (.tmp 3) = .slice A xs.length cp := by
      rw [← hv]; rfl
    have e0 : execOp ({ tmps := tm2, defers := [] } : Act).eval o2 = (do pure (.value (← (do eqGuard .eql t (.tmp 3) (.const (.slice none 0 0)) (({ tmps := tm2, defers := [] } : Act).eval (.tmp 3)) (.slice none 0 0); binOp .eql t (({ tmps := tm2, defers := [] } : Act).eval (.tmp 3)) (.slice none 0 0)))) : Sem Next) := by
      unfold execOp; rw [hop]; rfl
    rw [e0, ev]
    have b0 : binOp .eql t (.slice A xs.length cp) (.slice none 0 0) = (do pure (.bool (← Op.equal t (.slice A xs.length cp) (.slice none 0 0))) : Sem Value) := rfl
    have g0 : (eqGuard .eql t (.tmp 3) (.const (.slice none 0 0)) (.slice A xs.length cp) (.slice none 0 0)).run P w2 = .ok () w2 := rfl
    simp only [Sem.run_bind, g0, Result.andThen_ok, b0, run_equal_slice_nil w2 t e A xs.length cp hu, Sem.run_pure]
  refine .inl (wp_value hrun ?_)
  have h4n : ∀ k, o2.dst = some k → k < fn.ntmps := by intro k hk; rw [j4] at hk; have := Option.some.inj hk; exact this ▸ h2
  obtain ⟨ob3, hC3⟩ := Conc.putO (e := .v .bool A.isNone) hC2 h4n (Grows.refl w2) (v_bool _ _ _) ({ tmps := tm2, defers := [] } : Act) rfl
  have hC4 : ∃ ob4, Conc P w.heap.size G w fn.ntmps (cloE e T A.isNone xs) (({ tmps := tm2, defers := [] } : Act).put o2.dst (.bool A.isNone)).tmps w2 ob4 := by
    refine Conc.ext hC3 (fun k => ?_)
    rw [j4]
    have hp : putO [(3, .v (.sl T) xs), (2, .own true e T .no []), (0, .v (.sl T) xs)] (some 4) (.v .bool A.isNone) = [(4, .v .bool A.isNone), (3, .v (.sl T) xs), (2, .own true e T .no []), (0, .v (.sl T) xs)] := rfl
    rw [hp]
    simp only [cloE, look_cons]
    by_cases q4 : 4 = k
    · subst q4; rfl
    · by_cases q3 : 3 = k
      · subst q3; rfl
      · by_cases q2 : 2 = k
        · subst q2; rfl
        · by_cases q0 : 0 = k
          · subst q0; rfl
          · simp only [if_neg q4, if_neg q3, if_neg q2, if_neg q0]
  obtain ⟨ob4, hC4⟩ := hC4
  refine exec_sound cl0_good 0 (cloIf e T) cif _ (({ tmps := tm2, defers := [] } : Act).put o2.dst (.bool A.isNone)) w2 ob4 (cloK e T lim) _ k1 hC4 (fin _ rfl) (fun ex env5 tm5 w5 ob5 hC5 hk5 => ?_)
  have done : ∀ (ex : Ex) (env6 : Env) (tm6 : Array Value) (w6 : World) (ob6 : Nat → OB), Conc P w.heap.size G w fn.ntmps env6 tm6 w6 ob6 → retK cloFD ex env6 = some [.own true e T .no xs] → bodyPost P fn (fun en w' => ∃ v rob, en = .returned v ∧ Below w.heap.size w w' ∧ ResRep P w w' G [.own true e T .no xs] v rob) (exOf ex) { ({ tmps := tm2, defers := [] } : Act).put o2.dst (.bool A.isNone) with tmps := tm6 } w6 := by
    intro ex env6 tm6 w6 ob6 hC6 hk6
    have key := fn_tail (fn := fn) (fd := cloFD) h3 hC6 (res := [.own true e T .no xs])
    cases ex with
    | exit id => simp [retK] at hk6
    | normal => exact ⟨by rw [j4]; rfl, key hk6⟩
    | ret => exact ⟨by rw [j4]; rfl, key hk6⟩
  cases ex with
  | normal =>
    simp only [cloK, seqK] at hk5
    refine exec_sound cl0_good 0 (cloR' e T lim) cr _ { ({ tmps := tm2, defers := [] } : Act).put o2.dst (.bool A.isNone) with tmps := tm5 } w5 ob5 _ _ k2 hC5 hk5 (fun ex6 env6 tm6 w6 ob6 hC6 hk6 => ?_)
    exact done ex6 env6 tm6 w6 ob6 hC6 hk6
  | exit id =>
    simp only [cloK, seqK] at hk5
    simp [retK] at hk5
  | ret =>
    simp only [cloK, seqK] at hk5
    exact done .ret env5 tm5 w5 ob5 hC5 hk5

end Go.Fw
