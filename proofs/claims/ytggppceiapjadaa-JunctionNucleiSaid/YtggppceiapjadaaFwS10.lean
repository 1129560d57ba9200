/- Soundness, part 10: reading. -/
import Derived.Test.YtggppceiapjadaaFwS9
set_option linter.unusedVariables false
set_option linter.unusedSimpArgs false
namespace Go.Fw
open Go Go.RowKit

theorem Flat.shared (P : Program) : ∀ (T : Ty) {w : World} {G G' : Nat → Nat → Prop} {B : Nat} {o : Ann} {x : den T} {vs : List Value} {ob : OB}, o.whole = true →
    (∀ b lim i, (b, lim) ∈ ob → i < lim → B ≤ b → G' b i) → (∀ b i, b < w.heap.size → G b i → G' b i) → Flat P T w G B o.frz x vs ob → Flat P T w G' B .no x vs []
  | .int k, _, _, _, _, _, _, _, _, _, _, _, h => by unfold Flat at h ⊢; exact ⟨h.1, h.2.1, rfl⟩
  | .bool, _, _, _, _, _, _, _, _, _, _, _, h => by unfold Flat at h ⊢; exact ⟨h.1, rfl⟩
  | .str, _, _, _, _, _, _, _, _, _, _, _, h => by unfold Flat at h ⊢; exact ⟨h.1, h.2.1, rfl⟩
  | .unit, _, _, _, _, _, _, _, _, _, _, _, h => by unfold Flat at h ⊢; exact ⟨h.1, rfl⟩
  | .pair A C, _, _, _, _, o, _, _, _, ho, hg, hG, h => by
    unfold Flat at h ⊢
    obtain ⟨v1, v2, b1, b2, rfl, rfl, h1, h2⟩ := h
    rw [frz_l] at h1; rw [frz_r] at h2
    have ho1 : o.l.whole = true := by cases o <;> simp_all [Ann.whole, Ann.l]
    have ho2 : o.r.whole = true := by cases o <;> simp_all [Ann.whole, Ann.r]
    exact ⟨v1, v2, [], [], rfl, rfl, Flat.shared P A ho1 (fun b lim i hb => hg b lim i (List.mem_append_left _ hb)) hG h1, Flat.shared P C ho2 (fun b lim i hb => hg b lim i (List.mem_append_right _ hb)) hG h2⟩
  | .arr n T, _, _, _, _, _, _, _, _, _, _, hG, h => by
    unfold Flat at h ⊢
    obtain ⟨_, h2⟩ := Elems.pure P (o := .no) (o' := .no) rfl rfl h.2
    exact ⟨h.1, Elems.imp (fun x v b hb hx => by
      have : b = [] := by cases b with | nil => rfl | cons q r => exact absurd (hb q (by simp)) (by simp)
      subst this
      exact Flat.mono P T (fun b i hb h => ⟨hG b i hb h, rfl⟩) (Later.refl _ _) (by simp) hx) h2⟩
  | .fn A C, _, _, _, _, _, _, _, _, _, _, _, h => by unfold Flat at h ⊢; exact ⟨rfl, h.2⟩
  | .sl T, w, G, G', B, o, xs, vs, ob, ho, hg, hG, h => by
    have imm : ∀ {ob : OB}, (ob = [] ∧ ∃ A c, vs = [.slice A xs.length c] ∧ xs.length ≤ c ∧ c ≤ maxLen ∧
      (xs = [] ∨ ∃ b off cells, A = some ⟨b, off, none⟩ ∧ Elems (Flat P T w G B .no) xs cells [] ∧ ∀ j v, cells[j]? = some v → w.cell? ⟨b, off + j, none⟩ = some v ∧ G b (off + j))) → Flat P (.sl T) w G' B .no xs vs [] := by
      intro ob h
      have h' : Flat P (.sl T) w G B .no xs vs [] := by unfold Flat; exact ⟨rfl, h.2⟩
      exact Flat.mono P (.sl T) (fun b i hb h => ⟨hG b i hb h, rfl⟩) (Later.refl _ _) (by simp) h'
    cases o with
    | no => simp only [Ann.frz] at h; unfold Flat at h; exact imm h
    | pair a b => simp only [Ann.frz] at h; unfold Flat at h; exact imm h
    | hole => simp [Ann.whole] at ho
    | own wr e o =>
      simp only [Ann.frz] at h
      unfold Flat at h
      obtain ⟨v, cells, ob', h1, h2, h3, rfl⟩ := h
      subst h1
      simp only [Ann.whole] at ho
      have key : ∀ {xs : List (den T)} {vs : List Value} {ob : OB}, (∀ b lim i, (b, lim) ∈ ob → i < lim → B ≤ b → G' b i) → Elems (Flat P T w G B o.frz) xs vs ob → Elems (Flat P T w G' B .no) xs vs [] := by
        intro xs
        induction xs with
        | nil => rintro vs ob _ ⟨rfl, rfl⟩; exact ⟨rfl, rfl⟩
        | cons x xs ih =>
          rintro vs ob hg ⟨u1, u2, c1, c2, rfl, rfl, hr, ht⟩
          exact ⟨u1, u2, [], [], rfl, rfl, Flat.shared P T ho (fun b lim i hb => hg b lim i (List.mem_append_left _ hb)) hG hr, ih (fun b lim i hb => hg b lim i (List.mem_append_right _ hb)) ht⟩
      have h3' := key (fun b lim i hb => hg b lim i (List.mem_append_right _ hb)) h3
      unfold Flat
      refine ⟨rfl, ?_⟩
      have h2' := h2
      rcases h2.2 with ⟨rfl, hn⟩ | ⟨g, cap, cur, _, _, rfl, hBg, hh, hnc, hcm, hcs, htake, _, _⟩
      · exact ⟨none, 0, by rw [hn], by omega, by unfold maxLen; omega, .inl (List.eq_nil_of_length_eq_zero hn)⟩
      · refine ⟨some ⟨g, 0, none⟩, cap, rfl, hnc, hcm, .inr ⟨g, 0, cells, rfl, h3', fun j u hj => ?_⟩⟩
        have hc := h2'.cells (g := g) rfl j u hj
        rw [add_off] at hc
        refine ⟨hc, hg g (xs.length * cellsN T) (0 + j) (List.mem_append_left _ (by simp [obOf, Value.ownBlock])) ?_ hBg⟩
        have := (List.getElem?_eq_some_iff.1 hj).1
        rw [h2.1] at this; omega

section
variable {P : Program} {B : Nat} {G0 : Nat → Nat → Prop} {W0 : World} {n : Nat} {env : Env} {a : Act} {w : World} {ob : Nat → OB}
variable {R : Type} {K : Kont R} {r : R} {next : Act → World → Prop} {Q : Exit → Act → World → Prop} {o : Oper} {i : AI} {cl : Cal}

theorem v_rep {T : Ty} {x : den T} {vs : List Value} {G : Nat → Nat → Prop} {tm : Array Value} (h : Flat P T w G B .no x vs []) : ERep P w G B tm env (.v T x) (asVal T vs) [] := ⟨rfl, vs, h, rfl⟩

/-- what a slot's home shows, where nobody may write any more -/
theorem rec_good (hC : Conc P B G0 W0 n env a.tmps w ob) {s : Nat} {l : OB} (hl : ∀ q ∈ l, q ∈ ob s) : ∀ b lim i, (b, lim) ∈ l → i < lim → B ≤ b → Gd B G0 ob b i :=
  fun _ _ _ hb hi hB => Gd_of_rec hC (hl _ hb) hi hB

theorem locOf {x : Operand} {y : Od} {s : Nat} {p : Path} (hC : Conc P B G0 W0 n env a.tmps w ob) (hx : okOd x y = true) (hm : locPlace env y = some (s, p)) {T0 : Ty} {oa : Ann} {x0 : den T0} (hs : look env s = .loc T0 oa x0) :
    ∃ b, a.tmps.getD s undef = .pointer (some ⟨b, 0, none⟩) ∧ a.eval x = .pointer (some ⟨b, offT T0 p, none⟩) := by
  have hr := ent_rep hC hx
  unfold locPlace at hm
  split at hm
  · rename_i he
    rw [he] at hr
    simp only [Option.some.injEq, Prod.mk.injEq] at hm
    obtain ⟨rfl, rfl⟩ := hm
    obtain ⟨_, T, o', x', b, h1, h2, _, h3⟩ := hr
    rw [hs] at h1; cases h1
    exact ⟨b, h2, h3⟩
  · rename_i he
    rw [he] at hr
    cases y with
    | t k =>
      simp only [Od.slot, Option.map_some, Option.some.injEq, Prod.mk.injEq] at hm
      obtain ⟨rfl, rfl⟩ := hm
      obtain ⟨b, cur, e', ob', h1, _⟩ := hr
      refine ⟨b, by rw [← okOd_t hx a]; exact h1, ?_⟩
      rw [h1]; cases T0 <;> rfl
    | c T x => simp [Od.slot] at hm
    | nil e T => simp [Od.slot] at hm
    | fn f A C => simp [Od.slot] at hm
  · exact absurd hm (by simp)

theorem st_load {t : TypeId} {T : Ty} {x : Operand} {y : Od} (hC : Conc P B G0 W0 n env a.tmps w ob) (hK : KOk P B G0 W0 n a K r next) (hd : ∀ k, o.dst = some k → k < n) (hdst : i.dst = o.dst)
    (ho : o.op = .load t x) (hi : i.op = .load T y) (hT : TyR P t T) (hx : okOd x y = true) (h : step cl i env K = some r) : o.wp P a w next Q := by
  unfold step at h; rw [hi] at h; simp only [hdst] at h
  have run : ∀ {b off : Nat} {vs : List Value}, a.eval x = .pointer (some ⟨b, off, none⟩) → vs.length = cellsN T → (∀ j u, vs[j]? = some u → w.cell? ⟨b, off + j, none⟩ = some u) → (execOp a.eval o).run P w = .ok (.value (asVal T vs)) w := by
    intro b off vs hv hl hc
    simp [execOp, ho, hv, Instr.loadAt, Instr.sureAddr, run_loadT hT w hl hc]
  have hr := ent_rep hC hx
  split at h
  · rename_i T' x' he
    simp only [Option.bind_eq_some_iff] at h
    obtain ⟨y', hy', h⟩ := h
    have hz := cast?_some hy'
    rw [he] at hr
    cases hz
    obtain ⟨_, b, off, vs, h1, h2, h3⟩ := hr
    exact wp_value (run h1 (Flat.len P T h2) (fun j u hj => (h3 j u hj).1)) (fin0 hC hK hd (Grows.refl w) (v_rep h2) h)
  · rename_i s p j q he
    simp only [Option.bind_eq_some_iff] at h
    obtain ⟨hh, hhe, h⟩ := h
    split at h
    case isFalse => simp at h
    rename_i hj
    split at h
    case isFalse => simp at h
    rename_i hpure
    simp only [Option.bind_eq_some_iff] at h
    obtain ⟨z, hz, y', hy', h⟩ := h
    have hzz := cast?_some hy'
    subst hzz
    rw [he] at hr
    obtain ⟨_, h', g, m, c, h1, h2, h3, h4, h5⟩ := hr
    rw [hhe] at h1; cases h1
    obtain ⟨cells, b2, hrow, hel, hob⟩ := held_row hC hhe h2
    obtain ⟨v1, v2, v3, c1, c2, c3, e1, e2, e3, e4, _⟩ := Elems.split (fun x v b hx => Flat.len P _ hx) j (zero hh.T) hel hj
    obtain ⟨u1, u2, u3, d1, d2, d3, f1, f2, f3, f4, _⟩ := Flat.lens P q hh.T e4 hz
    have hann : (annAt hh.o q).pure = true := by
      have : ∀ (q : Path) (o : Ann), o.pure = true → (annAt o q).pure = true := by
        intro q
        induction q with
        | nil => intro o h; exact h
        | cons st q ih => intro o h; cases st <;> simp only [annAt] <;> first | exact ih _ (Ann.pure_l h) | exact ih _ (Ann.pure_r h) | rfl
      exact this q _ hpure
    obtain ⟨_, f5⟩ := Flat.pure P T hann (o' := .no) rfl f4
    refine wp_value (run h5 (Flat.len P T f5) (fun k u hk => ?_)) (fin0 hC hK hd (Grows.refl w) (v_rep f5) h)
    have hcell := hrow.cells (g := g) rfl (j * cellsN hh.T + offT hh.T q + k) u ?_
    · rw [add_off] at hcell; simpa [Nat.add_assoc] using hcell
    · rw [e1, f1]
      have hk' := (List.getElem?_eq_some_iff.1 hk).1
      rw [List.append_assoc, List.getElem?_append_right (by omega), List.getElem?_append_left (by simp; omega), List.append_assoc, List.getElem?_append_right (by omega), List.getElem?_append_left (by omega)]
      rw [← hk]; congr 1; omega
  · split at h
    · rename_i s p hm
      split at h
      · rename_i T0 oa x0 hs
        obtain ⟨b, hb1, hb2⟩ := locOf hC hx hm hs
        split at h
        · rename_i wr' e' o' hann
          split at h
          · rename_i T' xs hg
            split at h
            case isFalse => simp at h
            rename_i hTT
            subst hTT
            obtain ⟨b', cur, e'', v1, v2, v3, b1, b2, b3, k1, k2, k3, k4, k5, k6, k7, _⟩ := loc_part hC hs hg
            rw [hb1] at k1; cases k1
            have hv2 : v2.length = 1 := Flat.len P (.sl T') k7
            obtain ⟨u, rfl⟩ := List.length_eq_one_iff.1 hv2
            have hcell := cells_of_part k2 k4
            rw [k5] at hcell
            refine wp_value (run hb2 hv2 hcell) (fin0 (e := .ref s p) hC hK hd (Grows.refl w) ⟨rfl, ?_, ?_⟩ h)
            · simp only [headAt, hs, hb1]
              have := hcell 0 u rfl
              rw [asVal_sl]
              simpa using this
            · simp only [heldAt, hs, hann, hg]; rfl
          · exact absurd h (by simp)
        · rename_i bb hbb
          split at h
          case isFalse => simp at h
          rename_i hwh
          simp only [Option.bind_eq_some_iff] at h
          obtain ⟨z, hz, y', hy', h⟩ := h
          have hzz := cast?_some hy'
          subst hzz
          by_cases hp : (annAt oa p).pure = true
          · rw [if_pos hp] at h
            obtain ⟨b', cur, e'', v1, v2, v3, b1, b2, b3, k1, k2, k3, k4, k5, k6, k7, _⟩ := loc_part hC hs hz
            rw [hb1] at k1; cases k1
            obtain ⟨_, k8⟩ := Flat.pure P T hp (o' := .no) rfl k7
            have hcell := cells_of_part k2 k4
            rw [k5] at hcell
            exact wp_value (run hb2 (Flat.len P T k8) hcell) (fin0 hC hK hd (Grows.refl w) (v_rep k8) h)
          · rw [if_neg hp] at h
            obtain ⟨ob', hf, hC'⟩ := freeze_any hC s
            have hs' : look (freeze env s) s = .loc T0 oa.frz x0 := by unfold freeze; rw [hs]; simp only [look_cons, if_true]
            obtain ⟨b', cur, e'', v1, v2, v3, b1, b2, b3, k1, k2, k3, k4, k5, k6, k7, _⟩ := loc_part hC' hs' hz
            rw [hb1] at k1; cases k1
            rw [annAt_frz] at k7
            have k8 : Flat P T w (Gd B G0 ob') B .no y' v2 [] := Flat.shared P T hwh (rec_good hC' (s := s) (fun q hq => by rw [k6]; simp [hq])) (fun _ _ _ h => h) k7
            have hcell := cells_of_part k2 k4
            rw [k5] at hcell
            exact wp_value (run hb2 (Flat.len P T k8) hcell) (fin0 hC' hK hd (Grows.refl w) (v_rep k8) h)
      · exact absurd h (by simp)
    · exact absurd h (by simp)

/-- the address of a field -/
theorem run_field {t : TypeId} {S A : Ty} {f : Nat} {b off : Nat} (hS : TyR P t S) {fs : Array Field} (hu : P.underlying t = some (.struct fs)) {fd : Field} (hf : fs[f]? = some fd) (hA : subT S (fpath f) = some A) (hz : cellsN A ≠ 0) :
    (Instr.fieldAt t (.pointer (some ⟨b, off, none⟩)) f).run P w = .ok (.pointer (some ⟨b, off + offT S (fpath f), none⟩)) w := by
  obtain ⟨A', h1, h2, h3⟩ := hS.struct hu hf
  rw [hA] at h1; cases h1
  simp [Instr.fieldAt, run_underlying hu, hf, Instr.sureAddr, fieldPlace, run_sizeT h2, hz, add_off, h3]

theorem st_fieldAddr {t : TypeId} {S A : Ty} {f : Nat} {x : Operand} {y : Od} {fs : Array Field} {fd : Field} (hC : Conc P B G0 W0 n env a.tmps w ob) (hK : KOk P B G0 W0 n a K r next) (hd : ∀ k, o.dst = some k → k < n) (hdst : i.dst = o.dst)
    (ho : o.op = .fieldAddr t x f) (hi : i.op = .fieldAddr S (fpath f) y) (hS : TyR P t S) (hu : P.underlying t = some (.struct fs)) (hf : fs[f]? = some fd) (hA : subT S (fpath f) = some A) (hz : cellsN A ≠ 0) (hx : okOd x y = true)
    (h : step cl i env K = some r) : o.wp P a w next Q := by
  unfold step at h; rw [hi] at h; simp only [hdst] at h
  have hr := ent_rep hC hx
  have run : ∀ {b off : Nat}, a.eval x = .pointer (some ⟨b, off, none⟩) → (execOp a.eval o).run P w = .ok (.value (.pointer (some ⟨b, off + offT S (fpath f), none⟩))) w := by
    intro b off hv
    simp [execOp, ho, hv, run_field (w := w) hS hu hf hA hz]
  split at h
  · rename_i T x' he
    simp only [Option.bind_eq_some_iff] at h
    obtain ⟨x2, hx2, y2, hy2, h⟩ := h
    have := cast?_some hx2
    rw [he] at hr
    cases this
    obtain ⟨_, b, off, vs, h1, h2, h3⟩ := hr
    obtain ⟨v1, v2, v3, b1, b2, b3, e1, e2, e3, e4, _⟩ := Flat.lens P (fpath f) S h2 hy2
    have hnil : b2 = [] := by
      have : b1 ++ b2 ++ b3 = [] := e2.symm
      simp at this; exact this.2.1
    subst hnil
    rw [annAt_no] at e4
    refine wp_value (run h1) (fin0 (e := .at y2.1 y2.2) hC hK hd (Grows.refl w) ⟨rfl, b, off + offT S (fpath f), v2, rfl, e4, fun j u hj => ?_⟩ h)
    have := h3 (v1.length + j) u (by
      have hlt := (List.getElem?_eq_some_iff.1 hj).1
      rw [e1, List.append_assoc, List.getElem?_append_right (by omega), List.getElem?_append_left (by omega)]
      simpa using hj)
    rw [e3] at this
    rw [Nat.add_assoc]; exact this
  · rename_i s q he
    split at h
    · rename_i T0 oa x0 hs
      split at h
      case isFalse => simp at h
      rename_i hsub
      rw [he] at hr
      obtain ⟨_, T1, o1, x1, b, h1, h2, h3, h4⟩ := hr
      rw [hs] at h1; cases h1
      have hoff := offT_append q (fpath f) T0 hsub
      refine wp_value (run h4) (fin0 (e := .ptr s (q ++ fpath f)) hC hK hd (Grows.refl w) ⟨rfl, T0, oa, x0, b, hs, h2, ?_, ?_⟩ h)
      · rw [hoff.2, hA]; rfl
      · rw [hoff.1]
    · exact absurd h (by simp)
  · rename_i s q j rr he
    simp only [Option.bind_eq_some_iff] at h
    obtain ⟨hh, hhe, h⟩ := h
    split at h
    case isFalse => simp at h
    rename_i hsub
    rw [he] at hr
    obtain ⟨_, h', g, m, c, h1, h2, h3, h4, h5⟩ := hr
    rw [hhe] at h1; cases h1
    have hoff := offT_append rr (fpath f) hh.T hsub
    refine wp_value (run h5) (fin0 (e := .ptre s q j (rr ++ fpath f)) hC hK hd (Grows.refl w) ⟨rfl, hh, g, m, c, hhe, h2, h3, ?_, ?_⟩ h)
    · rw [hoff.2, hA]; rfl
    · rw [hoff.1, Nat.add_assoc]
  · rename_i T0 oa x0 he
    split at h
    case isFalse => simp at h
    rename_i hTS
    subst hTS
    simp only [Option.bind_eq_some_iff] at h
    obtain ⟨k, hk, h⟩ := h
    cases y with
    | t k' =>
      simp only [Od.slot, Option.some.injEq] at hk; subst hk
      simp only [ent] at he
      rw [ent, he] at hr
      obtain ⟨b, cur, e, ob', h1, _⟩ := hr
      refine wp_value (run h1) (fin0 (e := .ptr k' (fpath f)) hC hK hd (Grows.refl w) ⟨rfl, T0, oa, x0, b, he, ?_, ?_, ?_⟩ h)
      · rw [← okOd_t hx a]; exact h1
      · rw [hA]; rfl
      · simp
    | c T x => simp [Od.slot] at hk
    | nil e T => simp [Od.slot] at hk
    | fn f A C => simp [Od.slot] at hk
  · exact absurd h (by simp)

theorem run_index {t e : TypeId} {T : Ty} (hu : P.underlying t = some (.slice e)) (hT : TyR P e T) {b off m c : Nat} {k : IntKind} {q : Int} (h0 : 0 ≤ q) (h1 : q < (m : Int)) :
    (Instr.indexAt t (.slice (some ⟨b, off, none⟩) m c) (.int k q)).run P w = .ok (.pointer (some ⟨b, off + q.toNat * cellsN T, none⟩)) w := by
  simp [Instr.indexAt, run_underlying hu, asIntOf, h0, h1, run_sizeT hT, add_off]

theorem st_indexAddr {t e : TypeId} {T : Ty} {x ix : Operand} {y iy : Od} (hC : Conc P B G0 W0 n env a.tmps w ob) (hK : KOk P B G0 W0 n a K r next) (hd : ∀ k, o.dst = some k → k < n) (hdst : i.dst = o.dst)
    (ho : o.op = .indexAddr t x ix) (hi : i.op = .indexAddr T y iy) (hu : P.underlying t = some (.slice e)) (hT : TyR P e T) (hx : okOd x y = true) (hix : okOd ix iy = true) (h : step cl i env K = some r) : o.wp P a w next Q := by
  unfold step at h; rw [hi] at h; simp only [hdst, Option.bind_eq_some_iff] at h
  obtain ⟨q, hq, h⟩ := h
  have hvi := int_rep hC hix hq
  have hr := ent_rep hC hx
  have run : ∀ {b off m c : Nat}, a.eval x = .slice (some ⟨b, off, none⟩) m c → 0 ≤ q.2 → q.2 < (m : Int) → (execOp a.eval o).run P w = .ok (.value (.pointer (some ⟨b, off + q.2.toNat * cellsN T, none⟩))) w := by
    intro b off m c hv h0 h1
    simp [execOp, ho, hv, hvi.1, run_index (w := w) hu hT h0 h1]
  have held : ∀ {s : Nat} {p : Path} {h' : Held} {v : Value}, heldAt env s p = some h' → headAt w a.tmps env s p = some v → a.eval x = v → h'.T = T → 0 ≤ q.2 → q.2 < (h'.xs.length : Int) → K (putO env o.dst (.ptre s p q.2.toNat [])) = some r → o.wp P a w next Q := by
    intro s p h' v hh hv hev hTT h0 h1 hk
    obtain ⟨cells, b2, hrow, _, _⟩ := held_row hC hh hv
    rcases hrow.2 with ⟨_, hn⟩ | ⟨g, cap, cur, _, _, rfl, _⟩
    · omega
    · refine wp_value (run hev h0 h1) (fin0 (e := .ptre s p q.2.toNat []) hC hK hd (Grows.refl w) ⟨rfl, h', g, _, cap, hh, hv, by omega, ?_, ?_⟩ hk)
      · cases h'.T <;> rfl
      · have : offT h'.T [] = 0 := by cases h'.T <;> rfl
        rw [this, hTT, Nat.zero_add, Nat.add_zero]
  split at h
  · rename_i T' xs he
    simp only [Option.bind_eq_some_iff] at h
    obtain ⟨xs', hxs, h⟩ := h
    have := cast?_some hxs
    rw [he] at hr
    cases this
    split at h
    case isFalse => simp at h
    rename_i hb
    obtain ⟨_, vs, h1, h2⟩ := hr
    unfold Flat at h1
    obtain ⟨_, A, c, h3, h4, h5, h6⟩ := h1
    rcases h6 with h6 | ⟨b, off, cells, rfl, h7, h8⟩
    · subst h6; exact absurd hb.2 (by simp; omega)
    · subst h3
      obtain ⟨v1, v2, v3, c1, c2, c3, e1, e2, e3, e4, _⟩ := Elems.split (fun x v b hx => Flat.len P _ hx) q.2.toNat (zero T) h7 (by omega)
      have hnil : c2 = [] := by
        have : c1 ++ c2 ++ c3 = [] := e2.symm
        simp at this; exact this.2.1
      subst hnil
      refine wp_value (run h2 hb.1 hb.2) (fin0 (e := .at T (xs'.getD q.2.toNat (zero T))) hC hK hd (Grows.refl w) ⟨rfl, b, off + q.2.toNat * cellsN T, v2, rfl, e4, fun j u hj => ?_⟩ h)
      have hlt := (List.getElem?_eq_some_iff.1 hj).1
      have := h8 (v1.length + j) u (by
        rw [e1, List.append_assoc, List.getElem?_append_right (by omega), List.getElem?_append_left (by omega)]
        simpa using hj)
      rw [e3] at this
      rw [Nat.add_assoc]
      exact ⟨this.1, .inr this.2⟩
  · rename_i wr e' T' o' xs he
    split at h
    case isFalse => simp at h
    rename_i hTT
    simp only [Option.bind_eq_some_iff] at h
    obtain ⟨s, hs, h⟩ := h
    split at h
    case isFalse => simp at h
    rename_i hb
    cases y with
    | t k =>
      simp only [Od.slot, Option.some.injEq] at hs; subst hs
      simp only [ent] at he
      exact held (s := k) (p := []) (h' := ⟨wr, e', T', o', xs⟩) (by simp [heldAt, he]) (by simp [headAt, he]) (okOd_t hx a) hTT hb.1 hb.2 h
    | c T x => simp [Od.slot] at hs
    | nil e T => simp [Od.slot] at hs
    | fn f A C => simp [Od.slot] at hs
  · rename_i s p he
    simp only [Option.bind_eq_some_iff] at h
    obtain ⟨hh, hhe, h⟩ := h
    split at h
    case isFalse => simp at h
    rename_i hTT
    split at h
    case isFalse => simp at h
    rename_i hb
    rw [he] at hr
    exact held hhe hr.2.1 rfl hTT hb.1 hb.2 h
  · exact absurd h (by simp)

end
end Go.Fw
