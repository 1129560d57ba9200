/- Soundness: slices that are made. -/
import Derived.Test.YtggppceiapjadaaFwS14
import Derived.Laws.MakeOwn
set_option linter.unusedVariables false
set_option linter.unusedSimpArgs false
namespace Go.Fw
open Go Go.RowKit

theorem repM_get (zs : List Value) : ∀ (l j : Nat), (repM l zs)[j]? = if j < l * zs.length then zs[j % zs.length]? else none
  | 0, j => by simp [repM]
  | l + 1, j => by
    simp only [repM]
    by_cases hj : j < zs.length
    · rw [List.getElem?_append_left hj, if_pos (by rw [Nat.succ_mul]; omega), Nat.mod_eq_of_lt hj]
    · rw [List.getElem?_append_right (by omega), repM_get zs l]
      have hm : (j - zs.length) % zs.length = j % zs.length := by
        conv => rhs; rw [← Nat.sub_add_cancel (Nat.le_of_not_lt hj)]
        simp
      rw [hm]
      by_cases h2 : j < (l + 1) * zs.length
      · rw [if_pos h2, if_pos (by rw [Nat.succ_mul] at h2; omega)]
      · rw [if_neg h2, if_neg (by rw [Nat.succ_mul] at h2; omega)]

theorem made_take (zs : List Value) (l c : Nat) (h : l ≤ c) : (madeCells zs.toArray (c * zs.length)).toList.take (l * zs.length) = repM l zs := by
  have hle : l * zs.length ≤ c * zs.length := Nat.mul_le_mul_right _ h
  apply List.ext_getElem?
  intro j
  rw [repM_get]
  by_cases hj : j < l * zs.length
  · rw [if_pos hj, List.getElem?_take_of_lt hj]
    have hc : j < c * zs.length := Nat.lt_of_lt_of_le hj hle
    have hz : 0 < zs.length := by
      rcases Nat.eq_zero_or_pos zs.length with h0 | h0
      · rw [h0] at hj; simp at hj
      · exact h0
    have hm : j % zs.length < zs.length := Nat.mod_lt _ hz
    simp only [madeCells, Array.toList_map, Array.toList_range, List.getElem?_map, List.getElem?_range hc, Option.map_some, List.size_toArray]
    rw [List.getElem?_eq_getElem hm]
    simp [hm]
  · rw [if_neg hj, List.getElem?_take_eq_none (by omega)]

section
variable {P : Program} {B : Nat} {G0 : Nat → Nat → Prop} {W0 : World} {n : Nat} {env : Env} {a : Act} {w : World} {ob : Nat → OB}
variable {R : Type} {K : Kont R} {r : R} {next : Act → World → Prop} {Q : Exit → Act → World → Prop} {o : Oper} {i : AI} {cl : Cal}

theorem repM_elems {T : Ty} {x : den T} {zs : List Value} {G : Nat → Nat → Prop} (h : Flat P T w G B .no x zs []) : ∀ l, Elems (Flat P T w G B .no) (List.replicate l x) (repM l zs) []
  | 0 => ⟨rfl, rfl⟩
  | l + 1 => ⟨zs, repM l zs, [], [], rfl, rfl, h, repM_elems h l⟩

theorem mk_core {t e : TypeId} {T : Ty} {lim : Nat} {x y : Operand} {it : TypeInfo} {l c : Int} (hC : Conc P B G0 W0 n env a.tmps w ob) (hK : KOk P B G0 W0 n a K r next) (hd : ∀ k, o.dst = some k → k < n)
    (ho : o.op = .makeSlice t x y) (hu : P.underlying t = some (.slice e)) (hT : TyR P e T) (hz : ZeroOk P e T) (h1 : a.eval x = .int .i64 l) (h2 : a.eval y = .int .i64 c) (hinfo : P.info? e = some it)
    (hb : lim * it.bytes ≤ 140737488355328) (hm : lim ≤ maxLen) (hb2 : 0 ≤ l ∧ l ≤ c ∧ c ≤ (lim : Int)) (h : K (putO env o.dst (.own true e T .no (List.replicate l.toNat (zero T)))) = some r) : o.wp P a w next Q := by
  obtain ⟨it', z, zs, k1, k2, k3, k4⟩ := hz.ok
  rw [hinfo] at k1; cases k1
  obtain ⟨it2, g1, g2⟩ := hT.size
  rw [hinfo] at g1; cases g1
  have hzl := constV_len k3
  have hzc : z.cells = zs.toArray := by rw [k4]; exact cells_asVal hzl (constV_one k3)
  have hbm : (it.bytes : Int) * c ≤ 281474976710656 := by
    have e1 : c = (c.toNat : Int) := by omega
    have e2 : c.toNat ≤ lim := by omega
    have e3 : c.toNat * it.bytes ≤ 140737488355328 := Nat.le_trans (Nat.mul_le_mul_right _ e2) hb
    rw [e1, ← Int.natCast_mul, Nat.mul_comm]
    omega
  have hmx : c ≤ 9223372036854775807 := by
    have : (lim : Int) ≤ (maxLen : Int) := by omega
    simp [maxLen] at this; omega
  have hrun := run_make (P := P) w t e it z hu hinfo k2 .i64 .i64 l c hb2.1 hb2.2.1 hbm hmx
  refine wp_value (v := .slice (some ⟨w.heap.size, 0, none⟩) l.toNat c.toNat) (w' := w.alloc (.cells (madeCells z.cells (c.toNat * it.size)) e)) ?_ ?_
  · simp only [execOp, ho, h1, h2, Sem.run_bind, hrun, Result.andThen_ok, Sem.run_pure]
  · have hF : Flat P T w (Gd B G0 ob) B .no (zero T) zs [] := constV_flat P T w _ B .no (constV_flat.annOk_no T) k3
    have hlr : (List.replicate l.toNat (zero T)).length = l.toNat := List.length_replicate
    have := own_new (e := e) (T := T) (xs := List.replicate l.toNat (zero T)) (css := repM l.toNat zs) (cur := madeCells z.cells (c.toNat * it.size)) (cap := c.toNat) hC hK hd (repM_elems hF _) (by
      rw [hlr, hzc, g2, ← hzl]; exact made_take zs _ _ (by omega)) (by rw [size_madeCells, g2]) (by rw [hlr]; omega) (by omega) h
    rw [hlr] at this
    exact this

theorem st_mkSlice {t e : TypeId} {T : Ty} {lim : Nat} {x y : Operand} {x' y' : Od} {it : TypeInfo} (hC : Conc P B G0 W0 n env a.tmps w ob) (hK : KOk P B G0 W0 n a K r next) (hd : ∀ k, o.dst = some k → k < n) (hdst : i.dst = o.dst)
    (ho : o.op = .makeSlice t x y) (hi : i.op = .mkSlice e T lim x' y') (hu : P.underlying t = some (.slice e)) (hT : TyR P e T) (hz : ZeroOk P e T) (hx : okOd x x' = true) (hy : okOd y y' = true) (hinfo : P.info? e = some it)
    (hb : lim * it.bytes ≤ 140737488355328) (hm : lim ≤ maxLen) (h : step cl i env K = some r) : o.wp P a w next Q := by
  unfold step at h; rw [hi] at h; simp only [hdst] at h
  split at h
  case h_2 => simp at h
  rename_i l c hl hc
  split at h
  case isFalse => simp at h
  rename_i hb2
  exact mk_core hC hK hd ho hu hT hz (int_rep' hC hx hl).1 (int_rep' hC hy hc).1 hinfo hb hm hb2 h

end
end Go.Fw
