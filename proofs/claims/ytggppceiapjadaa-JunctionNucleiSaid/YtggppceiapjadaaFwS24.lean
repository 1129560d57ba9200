/- Soundness, part 24: functions, calls of any depth. -/
import Derived.Test.YtggppceiapjadaaFwS23
set_option linter.unusedVariables false
set_option linter.unusedSimpArgs false
namespace Go.Fw
open Go Go.RowKit

def okF (P : Program) (f : FuncId) (fd : FD) : Bool :=
  match P.funcs[f]? with
  | some fn => !(fn.name == "runtime.NumGoroutine") && (match fn.body with | some c => okC P fn.ntmps c fd.body | none => false) && decide (fd.nargs ≤ fn.ntmps) && okRes P fn.results.toList fd.res
  | none => false

theorem look_params : ∀ (as : List E) (j k : Nat), look (params j as) k = if j ≤ k then (as[k - j]?).getD .dead else .dead
  | [], j, k => by simp [params, look]
  | e :: as, j, k => by
    rw [params, look_cons, look_params as (j + 1) k]
    by_cases h : j = k
    · subst h; simp
    · rw [if_neg h]
      by_cases h2 : j ≤ k
      · rw [if_pos h2, if_pos (by omega), show k - j = (k - (j + 1)) + 1 by omega]; simp
      · rw [if_neg h2, if_neg (by omega)]

section
variable {P : Program}

theorem ArgsRep.get {w : World} {G : Nat → Nat → Prop} {as : List E} {vals : List Value} (h : ArgsRep P w G as vals) : as.length = vals.length ∧ ∀ (k : Nat) (e : E), as[k]? = some e → ∃ v, vals[k]? = some v ∧ ARep P w G e v := by
  induction h with
  | nil => exact ⟨rfl, fun k e h => by simp at h⟩
  | @cons e v es vs h1 _ ih =>
    refine ⟨by simp [ih.1], fun k e' h => ?_⟩
    cases k with
    | zero => simp only [List.getElem?_cons_zero, Option.some.injEq] at h; subst h; exact ⟨v, by simp, h1⟩
    | succ k => simp only [List.getElem?_cons_succ] at h ⊢; exact ih.2 k e' h

theorem start_conc {w : World} {G : Nat → Nat → Prop} {as : List E} {vals : List Value} (h : ArgsRep P w G as vals) {m : Nat} (hm : as.length ≤ m) :
    Conc P w.heap.size G w m (params 0 as) (vals.toArray ++ Array.replicate (m - vals.toArray.size) undef) w (fun _ => []) where
  rep k := by
    rw [look_params, if_pos (Nat.zero_le k), Nat.sub_zero]
    cases hk : as[k]? with
    | none => exact rfl
    | some e =>
      obtain ⟨v, hv, hr⟩ := h.get.2 k e hk
      have hlt : k < vals.length := (List.getElem?_eq_some_iff.1 hv).1
      have ht : (vals.toArray ++ Array.replicate (m - vals.toArray.size) undef).getD k undef = v := by
        rw [Array.getD_eq_getD_getElem?, Array.getElem?_append_left (by simpa using hlt)]
        simp [hv]
      rw [ht]
      have hG : ∀ b i, b < w.heap.size → G b i → Gd w.heap.size G (fun _ => []) b i := fun b i hb hg => .inl ⟨hb, hg⟩
      simp only [Option.getD_some]
      cases e <;> first | exact (hr : False).elim | skip
      · obtain ⟨vs, h1, h2⟩ := hr
        exact ⟨rfl, vs, Flat.mono P _ (fun b i hb hg => ⟨hG b i hb hg, rfl⟩) (Later.refl _ _) (by simp) h1, h2⟩
      · obtain ⟨b, off, vs, h1, h2, h3⟩ := hr
        exact ⟨rfl, b, off, vs, h1, Flat.mono P _ (fun b i hb hg => ⟨hG b i hb hg, rfl⟩) (Later.refl _ _) (by simp) h2, fun j u hj => ⟨h3 j u hj, .inl (World.block_lt_of_cell? w _ (h3 j u hj))⟩⟩
  dist := by simp
  nodup := by simp
  low := by simp
  below := Below.refl _ _
  base := Nat.le_refl _
  size := by have := h.get.1; simp; omega

theorem run_results {fn : Func} {tm : Array Value} {w : World} {vs : List Value} (h : Each (fun x v => (runVar tm x).run P w = .ok v w) fn.results.toList vs) : (results fn tm).run P w = .ok (if h : vs.toArray.size = 1 then vs.toArray[0] else .tuple vs.toArray) w := by
  have e : results fn tm = (do let vs ← fn.results.mapM (runVar tm); pure (if h : vs.size = 1 then vs[0] else .tuple vs)) := by
    unfold results
    congr 2
  have := run_mapM h
  rw [e]
  simp only [Sem.run_bind, this, Result.andThen_ok]
  rfl

theorem fn_tail {fn : Func} {fd : FD} (h4 : okRes P fn.results.toList fd.res = true) {w w' : World} {G : Nat → Nat → Prop} {m : Nat} {env' : Env} {tm' : Array Value} {ob' : Nat → OB} {res : List E} (hC : Conc P w.heap.size G w m env' tm' w' ob')
    (hk : (retL env' fd.res).bind (fun q => match distinct q.2 && q.1.all E.back with | true => some q.1 | false => none) = some res) : ∃ v, (results fn tm').run P w' = .ok v w' ∧ ∃ v_1 rob, Ending.returned v = .returned v_1 ∧ Below w.heap.size w w' ∧ ResRep P w w' G res v_1 rob := by
  simp only [Option.bind_eq_some_iff] at hk
  obtain ⟨⟨es, ks⟩, hr, hk⟩ := hk
  split at hk
  case h_2 => simp at hk
  rename_i hdb
  simp only [Option.some.injEq] at hk; subst hk
  simp only [Bool.and_eq_true] at hdb
  obtain ⟨vs, rob, i1, i2, i3, i4⟩ := retL_sound hC fn.results.toList fd.res es ks h4 hr
  refine ⟨_, run_results i1, _, rob, rfl, hC.below, ?_⟩
  have hT := i4 (Gr w.heap.size G rob) (fun b i _ hg => ?_) (fun k _ g _ hB hg i => .inr ⟨hB, fun lim hl => absurd (mem_blocks.2 ⟨lim, hl⟩) hg⟩) hdb.1
  · refine ⟨?_, hdb.2, i3 hdb.1, fun b hb => ?_⟩
    · match es, hdb.2, hT with
      | [e], hb, hT =>
        obtain ⟨v, r, b1, b2, rfl, rfl, k1, ⟨rfl, rfl⟩⟩ := hT
        simp only [List.all_cons, List.all_nil, Bool.and_true] at hb
        have : (if h : ([v] : List Value).toArray.size = 1 then ([v] : List Value).toArray[0] else .tuple ([v] : List Value).toArray) = v := by simp
        rw [List.append_nil] at k1
        rw [this, List.append_nil]
        cases e with
        | v T x => exact k1
        | own wr ed T o xs => exact k1
        | _ => simp [E.back] at hb
      | [], hb, hT =>
        obtain ⟨rfl, rfl⟩ := hT
        exact ⟨by simp, #[], rfl, rfl, rfl⟩
      | e1 :: e2 :: es, hb, hT =>
        have hb' : ∀ e ∈ (e1 :: e2 :: es), ∀ s, leads s e = false := by
          intro e he s
          have := List.all_eq_true.1 hb e he
          cases e <;> first | rfl | (exfalso; simp [E.back] at this; done)
        have hl : vs.length ≠ 1 := by
          obtain ⟨v, r, b1, b2, rfl, _, _, k⟩ := hT
          obtain ⟨v', r', _, _, rfl, _, _, _⟩ := k
          simp
        have : (if h : vs.toArray.size = 1 then vs.toArray[0] else .tuple vs.toArray) = .tuple vs.toArray := by
          rw [dif_neg (by simpa using hl)]
        rw [this]
        exact ⟨hb', vs.toArray, rfl, by simpa using hT⟩
    · obtain ⟨l, hb⟩ := mem_blocks.1 hb
      obtain ⟨k, _, hq⟩ := i2 _ hb
      exact hC.low k b (mem_blocks.2 ⟨_, hq⟩)
  · rcases hg with hg | ⟨hg1, hg2⟩
    · exact .inl hg
    · refine .inr ⟨hg1, fun lim hl => ?_⟩
      obtain ⟨k, _, hq⟩ := i2 _ hl
      exact hg2 k lim hq

theorem fn_sound {cl : Cal} (hgood : Good P cl) (N : Nat) {f : FuncId} {fd : FD} (hok : okF P f fd = true) {as res : List E} (hlen : as.length = fd.nargs) (h : exec cl N fd.body (params 0 as) (retK fd) = some res) (w : World) (G : Nat → Nat → Prop) (vals : List Value) (hA : ArgsRep P w G as vals) :
    Callable P f ∧ Calls P f vals.toArray w fun e w' => ∃ v rob, e = .returned v ∧ Below w.heap.size w w' ∧ ResRep P w w' G res v rob := by
  unfold okF at hok
  split at hok
  case h_2 => simp at hok
  rename_i fn hfn
  simp only [Bool.and_eq_true, Bool.not_eq_true', decide_eq_true_eq] at hok
  obtain ⟨⟨⟨h1, h2⟩, h3⟩, h4⟩ := hok
  split at h2
  case h_2 => simp at h2
  rename_i c hc
  refine ⟨⟨fn, hfn, h1, by rw [hc]; rfl⟩, calls_of_wp hfn hc ?_⟩
  refine exec_sound hgood N fd.body c _ _ w _ _ _ h2 (start_conc hA (by omega)) h (fun e env' tm' w' ob' hC hk => ?_)
  have key : (retL env' fd.res).bind (fun q => match distinct q.2 && q.1.all E.back with | true => some q.1 | false => none) = some res → ∃ v, (results fn tm').run P w' = .ok v w' ∧ ∃ v_1 rob, Ending.returned v = .returned v_1 ∧ Below w.heap.size w w' ∧ ResRep P w w' G res v_1 rob := by
    intro hk; exact fn_tail h4 hC hk
  cases e with
  | exit id => simp [retK] at hk
  | normal => exact ⟨rfl, key hk⟩
  | ret => exact ⟨rfl, key hk⟩

/-- what is asked of the table and of the functions that are known otherwise -/
theorem acall_good {tb : Table} {pr : Prims} (N : Nat) (htb : ∀ f fd, pr f = none → tb f = some fd → okF P f fd = true) (hpr : Good P (.of fun f as => (pr f).bind fun p => p as)) : ∀ D, Good P (acall tb pr N D)
  | 0 => fun f as res h => by simp [acall, Cal.of] at h
  | D + 1 => fun f as res h w G vals hA => by
    simp only [acall, Cal.of] at h
    split at h
    · rename_i p hp
      exact hpr f as res (by simp only [Cal.of, hp, Option.bind_some]; exact h) w G vals hA
    · rename_i hp
      split at h
      · rename_i fd hfd
        split at h
        · rename_i hl _
          exact fn_sound (acall_good N htb hpr D) N (htb f fd hp hfd) hl h w G vals hA
        · simp at h
      · simp at h

end
end Go.Fw
