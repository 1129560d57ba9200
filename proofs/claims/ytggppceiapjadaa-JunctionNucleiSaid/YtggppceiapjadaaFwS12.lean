/- Soundness, part 12: slices of slices, parts of values, several results, function literals. -/
import Derived.Test.YtggppceiapjadaaFwS11
set_option linter.unusedVariables false
set_option linter.unusedSimpArgs false
namespace Go.Fw
open Go Go.RowKit

section
variable {P : Program} {B : Nat} {G0 : Nat → Nat → Prop} {W0 : World} {n : Nat} {env : Env} {a : Act} {w : World} {ob : Nat → OB}
variable {R : Type} {K : Kont R} {r : R} {next : Act → World → Prop} {Q : Exit → Act → World → Prop} {o : Oper} {i : AI} {cl : Cal}

def okOds : List Operand → List Od → Bool
  | [], [] => true
  | u :: us, y :: ys => okOd u y && okOds us ys
  | _, _ => false

/-- a part of a slice, as nobody's own -/
theorem slice_part {T : Ty} {G : Nat → Nat → Prop} {xs : List (den T)} {A : Option Addr} {c l h m : Nat} (hF : Flat P (.sl T) w G B .no xs [.slice A xs.length c] []) (h1 : l ≤ h) (h2 : h ≤ m) (h3 : m ≤ c) (h4 : h ≤ xs.length) :
    Flat P (.sl T) w G B .no ((xs.drop l).take (h - l)) [.slice (if m = l then A else A.map (·.add (l * cellsN T))) (h - l) (m - l)] [] := by
  unfold Flat at hF ⊢
  obtain ⟨_, A', c', e1, hc, hm, hx⟩ := hF
  simp only [List.cons.injEq, Value.slice.injEq, and_true] at e1
  obtain ⟨rfl, _, rfl⟩ := e1
  have hlen : ((xs.drop l).take (h - l)).length = h - l := by rw [List.length_take, List.length_drop]; omega
  refine ⟨rfl, _, m - l, by rw [hlen], by rw [hlen]; omega, by omega, ?_⟩
  by_cases hml : m = l
  · left
    have : h - l = 0 := by omega
    rw [this]; rfl
  · rw [if_neg hml]
    rcases hx with rfl | ⟨b, off, cells, rfl, hE, hcell⟩
    · left; simp
    · right
      refine ⟨b, off + l * cellsN T, _, by simp [add_off], Elems.drop_take (fun x v b hx => Flat.len P _ hx) l (h - l) hE, fun j v hj => ?_⟩
      have hj' := (List.getElem?_eq_some_iff.1 hj).1
      rw [List.length_take, List.length_drop] at hj'
      rw [List.getElem?_take_of_lt (by omega), List.getElem?_drop] at hj
      have := hcell _ v hj
      rw [Nat.add_assoc]
      exact this

theorem st_sliceL {t e : TypeId} {T : Ty} {x : Operand} {y : Od} {lo hi' mx : Option Operand} {lo' hi'' mx' : Option Od} (hC : Conc P B G0 W0 n env a.tmps w ob) (hK : KOk P B G0 W0 n a K r next) (hd : ∀ k, o.dst = some k → k < n) (hdst : i.dst = o.dst)
    (ho : o.op = .slice t x lo hi' mx) (hi : i.op = .sliceL T y lo' hi'' mx') (hu : P.underlying t = some (.slice e)) (hT : TyR P e T) (hx : okOd x y = true) (hlo : okOdO lo lo' = true) (hhi : okOdO hi' hi'' = true) (hmx : okOdO mx mx' = true) (hhm : mx.isSome = true → hi'.isSome = true)
    (h : step cl i env K = some r) : o.wp P a w next Q := by
  unfold step at h; rw [hi] at h; simp only [hdst, Option.bind_eq_some_iff] at h
  obtain ⟨l, hl, m, hm, q, hq, ⟨env', z⟩, hz, xs, hxs, h⟩ := h
  obtain ⟨ob', hf, hC', vs, hv, hF⟩ := pub_rep hC hx hz
  have hzz := cast?_some hxs
  simp only at hzz; subst hzz
  replace hF : Flat P (.sl T) w (Gd B G0 ob') B .no xs vs [] := hF
  replace hv : a.eval x = asVal (.sl T) vs := hv
  split at h
  case isFalse => simp at h
  rename_i hb
  have hF' := hF
  unfold Flat at hF'
  obtain ⟨_, A, c, rfl, hc, hcm, _⟩ := hF'
  rw [asVal_sl] at hv
  have fin : ∀ (mm : Nat), mm ≤ c → (m.getD (xs.length : Int)).toNat ≤ mm →
      (Instr.sliceBounds true xs.length c (lo.map a.eval) (hi'.map a.eval) (mx.map a.eval)).run P w = .ok ((l.getD 0).toNat, (m.getD (xs.length : Int)).toNat, mm) w → o.wp P a w next Q := by
    intro mm hmm hmh hrun
    refine wp_value (w' := w) (v := .slice (if mm = (l.getD 0).toNat then A else A.map (·.add ((l.getD 0).toNat * cellsN T))) ((m.getD (xs.length : Int)).toNat - (l.getD 0).toNat) (mm - (l.getD 0).toNat)) ?_
      (fin0 (e := .v (.sl T) _) hC' hK hd (Grows.refl w) (v_rep (slice_part (m := mm) hF (by omega) hmh hmm (by omega))) h)
    simp [execOp, ho, hv, Instr.sliceAt, Instr.slice, run_underlying hu, hrun, run_sizeT hT]
  rcases optInt_rep hC hmx hq with ⟨rfl, rfl⟩ | ⟨um, km, zm, rfl, rfl, hum⟩
  · rcases optInt_rep hC hlo hl with ⟨rfl, rfl⟩ | ⟨u, ku, zu, rfl, rfl, hu'⟩ <;> rcases optInt_rep hC hhi hm with ⟨rfl, rfl⟩ | ⟨v, kv, zv, rfl, rfl, hvv⟩ <;> simp only [Option.getD_some, Option.getD_none] at hb fin
    · refine fin c (Nat.le_refl _) (by omega) ?_
      simp [Instr.sliceBounds]
    · refine fin c (Nat.le_refl _) (by omega) ?_
      simp [Instr.sliceBounds, hvv, run_sliceBound w kv zv c .sliceAcap (by omega) (by omega)]
    · refine fin c (Nat.le_refl _) (by omega) ?_
      simp [Instr.sliceBounds, hu', run_sliceBound w ku zu xs.length .sliceB (by omega) (by omega)]
    · refine fin c (Nat.le_refl _) (by omega) ?_
      simp [Instr.sliceBounds, hvv, hu', run_sliceBound w kv zv c .sliceAcap (by omega) (by omega), run_sliceBound w ku zu zv.toNat .sliceB (by omega) (by omega)]
  · rcases optInt_rep hC hhi hm with ⟨rfl, rfl⟩ | ⟨v, kv, zv, rfl, rfl, hvv⟩
    · exact absurd (hhm rfl) (by simp)
    · rcases optInt_rep hC hlo hl with ⟨rfl, rfl⟩ | ⟨u, ku, zu, rfl, rfl, hu'⟩ <;> simp only [Option.getD_some, Option.getD_none] at hb fin
      · refine fin zm.toNat (by omega) (by omega) ?_
        simp [Instr.sliceBounds, hum, hvv, run_sliceBound w km zm c .slice3Acap (by omega) (by omega), run_sliceBound w kv zv zm.toNat .slice3B (by omega) (by omega)]
      · refine fin zm.toNat (by omega) (by omega) ?_
        simp [Instr.sliceBounds, hum, hvv, hu', run_sliceBound w km zm c .slice3Acap (by omega) (by omega), run_sliceBound w kv zv zm.toNat .slice3B (by omega) (by omega), run_sliceBound w ku zu zv.toNat .slice3C (by omega) (by omega)]

/-- a part of an aggregate -/
theorem run_partT {t : TypeId} {T : Ty} (h : TyR P t T) (w : World) {v1 v2 v3 : List Value} (hl : v2.length = cellsN T) : (part t (v1 ++ v2 ++ v3).toArray v1.length).run P w = .ok (asVal T v2) w := by
  unfold part asVal
  simp only [Sem.run_bind, run_isAggT h, Result.andThen_ok]
  by_cases ha : isAggT T = true
  · rw [if_pos ha, if_pos ha]
    simp only [Sem.run_bind, run_sizeT h, Result.andThen_ok, Sem.run_pure]
    congr 2
    apply Array.ext'
    simp [← hl]
  · rw [if_neg ha, if_neg ha]
    have h1 : v2.length = 1 := by rw [hl]; cases T <;> simp_all [isAggT, cellsN]
    obtain ⟨u, rfl⟩ := List.length_eq_one_iff.1 h1
    simp

theorem asVal_agg {T : Ty} (h : isAggT T = true) (vs : List Value) : asVal T vs = .agg vs.toArray := by unfold asVal; rw [if_pos h]

theorem st_indexA {t e : TypeId} {m : Nat} {T : Ty} {x ix : Operand} {y iy : Od} (hC : Conc P B G0 W0 n env a.tmps w ob) (hK : KOk P B G0 W0 n a K r next) (hd : ∀ k, o.dst = some k → k < n) (hdst : i.dst = o.dst)
    (ho : o.op = .index t x ix) (hi : i.op = .indexA m T y iy) (hu : P.underlying t = some (.array m e)) (hT : TyR P e T) (hx : okOd x y = true) (hix : okOd ix iy = true) (h : step cl i env K = some r) : o.wp P a w next Q := by
  unfold step at h; rw [hi] at h; simp only [hdst, Option.bind_eq_some_iff] at h
  obtain ⟨q, hq, h⟩ := h
  have hvi := int_rep hC hix hq
  have hr := ent_rep hC hx
  split at h
  · rename_i T' xs he
    simp only [Option.bind_eq_some_iff] at h
    obtain ⟨xs', hxs, h⟩ := h
    have := cast?_some hxs
    rw [he] at hr
    cases this
    split at h
    case isFalse => simp at h
    rename_i hb
    obtain ⟨_, vs, h1, h2⟩ := hr
    unfold Flat at h1
    obtain ⟨hlen, h1⟩ := h1
    obtain ⟨v1, v2, v3, c1, c2, c3, e1, e2, e3, e4, _⟩ := Elems.split (fun x v b hx => Flat.len P _ hx) q.2.toNat (zero T) h1 (by omega)
    have hnil : c2 = [] := by
      have : c1 ++ c2 ++ c3 = [] := e2.symm
      simp at this; exact this.2.1
    subst hnil
    rw [asVal_agg rfl, e1] at h2
    refine wp_value (v := asVal T v2) (w' := w) ?_ (fin0 hC hK hd (Grows.refl w) (v_rep e4) h)
    have hp := run_partT hT w (v1 := v1) (v3 := v3) (Flat.len P T e4)
    rw [e3, List.append_assoc] at hp
    simp [execOp, ho, h2, hvi.1, Instr.index, asIntOf, run_underlying hu, hb.1, hb.2, run_sizeT hT, hp]
  · exact absurd h (by simp)

theorem st_field {t : TypeId} {S A : Ty} {f : Nat} {x : Operand} {y : Od} {fs : Array Field} {fd : Field} (hC : Conc P B G0 W0 n env a.tmps w ob) (hK : KOk P B G0 W0 n a K r next) (hd : ∀ k, o.dst = some k → k < n) (hdst : i.dst = o.dst)
    (ho : o.op = .field t x f) (hi : i.op = .field S (fpath f) y) (hS : TyR P t S) (hu : P.underlying t = some (.struct fs)) (hf : fs[f]? = some fd) (hsc : scalarT S = true) (hx : okOd x y = true)
    (h : step cl i env K = some r) : o.wp P a w next Q := by
  unfold step at h; rw [hi] at h; simp only [hdst, Option.bind_eq_some_iff] at h
  obtain ⟨z, hz, s, hs, u, hu', h⟩ := h
  have hr := ent_rep hC hx
  have hzz := cast?_some hs
  subst hzz
  obtain ⟨A', h1, h2, h3⟩ := hS.struct hu hf
  have hSagg : isAggT S = true := by
    obtain ⟨d, hd1, hd2⟩ := hS.agg
    rw [hu] at hd1; cases hd1; exact hd2.symm
  unfold imm at hz
  split at hz
  · rename_i T x' he
    simp only [Option.some.injEq] at hz
    rw [he] at hr
    cases hz
    obtain ⟨_, vs, k1, k2⟩ := hr
    obtain ⟨v1, v2, v3, b1, b2, b3, e1, e2, e3, e4, _⟩ := Flat.lens P (fpath f) S k1 hu'
    have hnil : b2 = [] := by
      have : b1 ++ b2 ++ b3 = [] := e2.symm
      simp at this; exact this.2.1
    subst hnil
    rw [annAt_no] at e4
    have hsub := getP_subT (fpath f) S k1 hu'
    rw [h1] at hsub
    simp only [Option.some.injEq] at hsub
    rw [asVal_agg hSagg, e1] at k2
    refine wp_value (v := asVal u.1 v2) (w' := w) ?_ (fin0 hC hK hd (Grows.refl w) (v_rep e4) h)
    have hp := run_partT (hsub ▸ h2) w (v1 := v1) (v3 := v3) (Flat.len P u.1 e4)
    rw [e3, h3, List.append_assoc] at hp
    simp [execOp, ho, k2, Instr.field, run_underlying hu, hf, asAgg, hp]
  · split at hz
    · simp only [Option.some.injEq] at hz; cases hz; simp [isAggT] at hSagg
    · exact absurd hz (by simp)
  · simp only [Option.bind_eq_some_iff] at hz
    obtain ⟨hh, _, hz⟩ := hz
    split at hz
    · simp only [Option.some.injEq] at hz; cases hz; simp [isAggT] at hSagg
    · exact absurd hz (by simp)
  · exact absurd hz (by simp)

/-- a slot gives a part of what it holds to another -/
theorem Conc.part {k d : Nat} {tm : Array Value} (hC : Conc P B G0 W0 n env tm w ob) (hkd : d ≠ k) (hd : d < n) {b1 b2 b3 : OB} (hob : ob k = b1 ++ b2 ++ b3) {ek ed : E} {v : Value} {env' : Env} {ob' : Nat → OB}
    (hob' : ob' = fun s => if s = d then b2 else if s = k then b1 ++ b3 else ob s) (hlook : ∀ s, look env' s = if s = d then ed else if s = k then ek else if (look env d).home = true ∧ leads d (look env s) = true then .dead else look env s)
    (hnh : (look env k).home = false) (hk : (∀ b i, Gd B G0 ob b i → Gd B G0 ob' b i) → ERep P w (Gd B G0 ob') B (tm.setIfInBounds d v) env' ek (tm.getD k undef) (b1 ++ b3))
    (hdd : (∀ b i, Gd B G0 ob b i → Gd B G0 ob' b i) → ERep P w (Gd B G0 ob') B (tm.setIfInBounds d v) env' ed v b2) : Conc P B G0 W0 n env' (tm.setIfInBounds d v) w ob' := by
  have hdt : d < tm.size := by rw [hC.size]; exact hd
  have hd' : ob' d = b2 := by rw [hob']; simp
  have hk' : ob' k = b1 ++ b3 := by rw [hob']; simp [Ne.symm hkd]
  have ho' : ∀ s, s ≠ d → s ≠ k → ob' s = ob s := fun s h1 h2 => by rw [hob']; simp [h1, h2]
  have hsub2 : ∀ q, q ∈ b2 → q ∈ ob k := fun q hq => by rw [hob]; simp [hq]
  have hsub13 : ∀ q, q ∈ b1 ++ b3 → q ∈ ob k := fun q hq => by rw [hob]; rcases List.mem_append.1 hq with hq | hq <;> simp [hq]
  have hfrom : ∀ s q, q ∈ ob' s → (s = d ∧ q ∈ b2) ∨ (s = k ∧ q ∈ b1 ++ b3) ∨ (s ≠ d ∧ s ≠ k ∧ q ∈ ob s) := by
    intro s q hq
    by_cases h1 : s = d
    · subst h1; rw [hd'] at hq; exact .inl ⟨rfl, hq⟩
    · by_cases h2 : s = k
      · subst h2; rw [hk'] at hq; exact .inr (.inl ⟨rfl, hq⟩)
      · rw [ho' s h1 h2] at hq; exact .inr (.inr ⟨h1, h2, hq⟩)
  have hGd : ∀ b i, Gd B G0 ob b i → Gd B G0 ob' b i := fun b i h => Gd_sub (fun s b lim hb => by
    rcases hfrom s _ hb with ⟨_, hq⟩ | ⟨_, hq⟩ | ⟨_, _, hq⟩
    · exact ⟨k, lim, hsub2 _ hq, Nat.le_refl _⟩
    · exact ⟨k, lim, hsub13 _ hq, Nat.le_refl _⟩
    · exact ⟨s, lim, hq, Nat.le_refl _⟩) h
  have hnd := hC.nodup k
  rw [hob] at hnd
  simp only [blocks_append] at hnd
  rw [List.append_assoc, List.nodup_append] at hnd
  obtain ⟨n1, n2, n3⟩ := hnd
  rw [List.nodup_append] at n2
  obtain ⟨n21, n22, n23⟩ := n2
  have hap : ∀ b, b ∈ blocks b2 → b ∈ blocks (b1 ++ b3) → False := by
    intro b h1 h2
    rw [blocks_append, List.mem_append] at h2
    rcases h2 with h2 | h2
    · exact n3 b h2 b (List.mem_append_left _ h1) rfl
    · exact n23 b h1 b h2 rfl
  refine Conc.step hC (Below.refl _ _) (fun b i _ h => ⟨hGd b i h, rfl⟩) (fun s => ?_) ?_ ?_ ?_ (by rw [Array.size_setIfInBounds]; exact hC.size)
  · by_cases h1 : s = d
    · subst h1; right
      rw [hlook, if_pos rfl, getD_set_same _ _ _ hdt, hd']
      exact hdd hGd
    · by_cases h2 : s = k
      · subst h2; right
        rw [hlook, if_neg h1, if_pos rfl, getD_set_other _ _ h1, hk']
        exact hk hGd
      · rw [hlook, if_neg h1, if_neg h2, getD_set_other _ _ h1, ho' s h1 h2]
        by_cases hkill : (look env d).home = true ∧ leads d (look env s) = true
        · right; rw [if_pos hkill]; exact (ERep.leads hkill.2 (hC.rep s)).2
        · left; rw [if_neg hkill]
          refine ⟨rfl, rfl, rfl, fun _ _ => rfl, fun s' hs' => ?_⟩
          have hh := ERep.leads hs' (hC.rep s)
          have e1 : s' ≠ d := by rintro rfl; exact hkill ⟨hh.1, hs'⟩
          have e2 : s' ≠ k := by rintro rfl; rw [hnh] at hh; exact absurd hh.1 (by simp)
          refine HomeEq.same (P := P) ?_ (getD_set_other _ _ e1) (hC.rep s') (fun _ _ => rfl)
          rw [hlook, if_neg e1, if_neg e2, leads_home hh.1]; simp
  · intro x y b hx hy
    obtain ⟨l1, hx⟩ := mem_blocks.1 hx
    obtain ⟨l2, hy⟩ := mem_blocks.1 hy
    rcases hfrom x _ hx with ⟨e1, q1⟩ | ⟨e1, q1⟩ | ⟨e1, f1, q1⟩ <;> rcases hfrom y _ hy with ⟨e2, q2⟩ | ⟨e2, q2⟩ | ⟨e2, f2, q2⟩
    · rw [e1, e2]
    · exact (hap b (mem_blocks.2 ⟨_, q1⟩) (mem_blocks.2 ⟨_, q2⟩)).elim
    · exact absurd (hC.dist _ _ b (mem_blocks.2 ⟨_, q2⟩) (mem_blocks.2 ⟨_, hsub2 _ q1⟩)) f2
    · exact (hap b (mem_blocks.2 ⟨_, q2⟩) (mem_blocks.2 ⟨_, q1⟩)).elim
    · rw [e1, e2]
    · exact absurd (hC.dist _ _ b (mem_blocks.2 ⟨_, q2⟩) (mem_blocks.2 ⟨_, hsub13 _ q1⟩)) f2
    · exact absurd (hC.dist _ _ b (mem_blocks.2 ⟨_, q1⟩) (mem_blocks.2 ⟨_, hsub2 _ q2⟩)) f1
    · exact absurd (hC.dist _ _ b (mem_blocks.2 ⟨_, q1⟩) (mem_blocks.2 ⟨_, hsub13 _ q2⟩)) f1
    · exact hC.dist _ _ b (mem_blocks.2 ⟨_, q1⟩) (mem_blocks.2 ⟨_, q2⟩)
  · intro s
    by_cases h1 : s = d
    · subst h1; rw [hd']; exact n21
    · by_cases h2 : s = k
      · subst h2; rw [hk', blocks_append, List.nodup_append]
        exact ⟨n1, n22, fun x hx y hy => n3 x hx y (List.mem_append_right _ hy)⟩
      · rw [ho' s h1 h2]; exact hC.nodup s
  · intro s b hb
    obtain ⟨l, hb⟩ := mem_blocks.1 hb
    rcases hfrom s _ hb with ⟨_, hq⟩ | ⟨_, hq⟩ | ⟨_, _, hq⟩
    · exact hC.low k b (mem_blocks.2 ⟨_, hsub2 _ hq⟩)
    · exact hC.low k b (mem_blocks.2 ⟨_, hsub13 _ hq⟩)
    · exact hC.low s b (mem_blocks.2 ⟨_, hq⟩)

theorem st_extract {k j : Nat} (hC : Conc P B G0 W0 n env a.tmps w ob) (hK : KOk P B G0 W0 n a K r next) (hd : ∀ k, o.dst = some k → k < n) (hdst : i.dst = o.dst)
    (ho : o.op = .extract (.tmp k) j) (hi : i.op = .extract k j) (hkd : ∃ d, o.dst = some d ∧ d ≠ k) (h : step cl i env K = some r) : o.wp P a w next Q := by
  unfold step at h; rw [hi] at h; simp only [hdst] at h
  have hr := hC.rep k
  split at h
  · rename_i es he
    rw [he] at hr
    obtain ⟨h0, vs, hv, ht⟩ := hr
    split at h
    · rename_i e hej
      obtain ⟨u, b1, b2, b3, hu, hob, hre, hset⟩ := TupRep.split ht hej
      have hu' : vs[j]? = some u := by simpa using hu
      have hrun : (execOp a.eval o).run P w = .ok (.value u) w := by
        have : a.eval (.tmp k) = .tuple vs := hv
        simp [execOp, ho, this, Instr.extract, hu']
      cases e with
      | v T x' =>
        obtain ⟨rfl, vs', h1, h2⟩ := hre
        exact wp_value hrun (fin0 (e := .v T x') hC hK hd (Grows.refl w) ⟨rfl, vs', h1, h2⟩ h)
      | own wr e' T oa xs =>
        refine wp_value hrun ?_
        obtain ⟨d, hod, hdk⟩ := hkd
        rw [hod] at h ⊢
        have := Conc.part (ek := .tup (es.set j .dead)) (ed := .own wr e' T oa xs) (v := u) (env' := putO ((k, .tup (es.set j .dead)) :: env) (some d) (.own wr e' T oa xs)) hC hdk (hd d hod) hob rfl ?_ (by rw [he]; rfl) ?_ ?_
        · exact hK _ _ _ _ this h
        · intro s
          simp only [Fw.putO]
          rw [look_put, look_cons, look_cons, if_neg (Ne.symm hdk)]
          by_cases h1 : s = d
          · subst h1; rw [if_pos rfl, if_pos rfl, if_neg (by simp [leads])]
          · rw [if_neg (Ne.symm h1), if_neg h1]
            by_cases h2 : s = k
            · subst h2; rw [if_pos rfl, if_pos rfl]; simp [leads]
            · rw [if_neg (Ne.symm h2), if_neg h2]
        · intro hGd
          refine ⟨fun e he' s' => ?_, vs, hv, TupRep.imp (fun e he' v b hb hr => ERep1.keep (tm := a.tmps) (env := env) (fun b i _ h => ⟨hGd b i h, rfl⟩) (Later.refl _ _) (fun _ _ => rfl) (fun s' hs' => ?_) hr) (hset .dead rfl)⟩
          · rcases List.mem_or_eq_of_mem_set he' with he' | rfl
            · exact h0 e he' s'
            · rfl
          · rcases List.mem_or_eq_of_mem_set he' with he' | rfl
            · rw [h0 e he' s'] at hs'; exact absurd hs' (by simp)
            · simp [leads] at hs'
        · intro hGd
          exact Flat.mono P (.sl T) (fun b i _ h => ⟨hGd b i h, rfl⟩) (Later.refl _ _) (fun _ _ => rfl) hre
      | _ => simp at h
    · exact absurd h (by simp)
  · exact absurd h (by simp)

theorem ERep.one {G : Nat → Nat → Prop} {tm : Array Value} {e : E} {v : Value} {b : OB} (h1 : ∀ es, e ≠ .tup es) (h2 : ∀ f A C c, e ≠ .clo f A C c) (h : ERep P w G B tm env e v b) : ERep1 P w G B tm env e v b := by
  cases e with
  | tup es => exact absurd rfl (h1 es)
  | clo f A C c => exact absurd rfl (h2 f A C c)
  | _ => exact h

theorem st_mkfn {f : FuncId} {A C : Ty} {caps : List Od} {cs : Array Operand} (hC : Conc P B G0 W0 n env a.tmps w ob) (hK : KOk P B G0 W0 n a K r next) (hd : ∀ k, o.dst = some k → k < n) (hdst : i.dst = o.dst)
    (ho : o.op = .makeFunc (.func f) #[] cs) (hi : i.op = .mkfn f A C caps) (hcs : okOds cs.toList caps = true) (h : step cl i env K = some r) : o.wp P a w next Q := by
  unfold step at h; rw [hi] at h; simp only [hdst] at h
  split at h
  case isFalse => simp at h
  rename_i hcap
  refine wp_value (v := .func (.func f) #[] (cs.map a.eval)) (w' := w) (by simp [execOp, ho, Instr.makeFunc]) (fin0 (e := .clo f A C (caps.map fun y => copyE y (ent env y))) hC hK hd (Grows.refl w) ⟨rfl, _, rfl, ?_⟩ h)
  have key : ∀ (us : List Operand) (ys : List Od), okOds us ys = true → (ys.all fun a => (ent env a).cap) = true → TupRep (ERep1 P w (Gd B G0 ob) B a.tmps env) (ys.map fun y => copyE y (ent env y)) (us.map a.eval) [] := by
    intro us
    induction us with
    | nil =>
      intro ys hy _
      cases ys with
      | nil => exact ⟨rfl, rfl⟩
      | cons => simp [okOds] at hy
    | cons u us ih =>
      intro ys hy hc
      cases ys with
      | nil => simp [okOds] at hy
      | cons y ys =>
        simp only [okOds, Bool.and_eq_true] at hy
        simp only [List.all_cons, Bool.and_eq_true] at hc
        refine ⟨a.eval u, us.map a.eval, [], [], rfl, rfl, ?_, ih ys hy.2 hc.2⟩
        have hc1 := hc.1
        rcases copy_rep hC hy.1 with hh | ⟨wr, e, T, o', xs, h1, _⟩
        · refine ERep.one ?_ ?_ hh
          · intro es he
            change copyE y (ent env y) = _ at he
            generalize ent env y = e at *
            cases e <;> simp only [E.cap, Bool.false_eq_true] at hc1 <;> cases y <;> simp [copyE] at he
          · intro f A C cs he
            change copyE y (ent env y) = _ at he
            generalize ent env y = e at *
            cases e <;> simp only [E.cap, Bool.false_eq_true] at hc1 <;> cases y <;> simp [copyE] at he
        · exfalso
          generalize ent env y = e at *
          cases e <;> simp only [E.cap, Bool.false_eq_true] at hc1 <;> cases y <;> simp [copyE] at h1
  have := key cs.toList caps hcs hcap
  simpa using this

end
end Go.Fw
