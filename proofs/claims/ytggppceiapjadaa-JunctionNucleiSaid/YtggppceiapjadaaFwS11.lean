/- Soundness, part 11: lengths, elements, comparisons, several results, function literals. -/
import Derived.Test.YtggppceiapjadaaFwS10
set_option linter.unusedVariables false
set_option linter.unusedSimpArgs false
namespace Go.Fw
open Go Go.RowKit

theorem Elems.drop_take {α : Type} {R : α → List Value → OB → Prop} {n : Nat} (hl : ∀ x v b, R x v b → v.length = n) : ∀ {xs : List α} {vs : List Value} (l m : Nat), Elems R xs vs [] → Elems R ((xs.drop l).take m) ((vs.drop (l * n)).take (m * n)) []
  | [], vs, l, m, h => by obtain ⟨rfl, _⟩ := h; simp; exact ⟨rfl, rfl⟩
  | x :: xs, vs, 0, 0, h => by simp; exact ⟨rfl, rfl⟩
  | x :: xs, vs, 0, m + 1, h => by
    obtain ⟨u1, u2, c1, c2, rfl, hc, hr, ht⟩ := h
    have hc' : c1 = [] ∧ c2 = [] := by simpa using hc.symm
    obtain ⟨rfl, rfl⟩ := hc'
    have ih := Elems.drop_take hl 0 m ht
    have hu := hl _ _ _ hr
    simp only [Nat.zero_mul, List.drop_zero, List.take_succ_cons] at ih ⊢
    have : (u1 ++ u2).take ((m + 1) * n) = u1 ++ u2.take (m * n) := by
      rw [List.take_append, List.take_of_length_le (by rw [hu, Nat.succ_mul]; omega), hu, Nat.succ_mul]
      congr 2; omega
    rw [this]
    exact ⟨u1, _, [], [], rfl, rfl, hr, ih⟩
  | x :: xs, vs, l + 1, m, h => by
    obtain ⟨u1, u2, c1, c2, rfl, hc, hr, ht⟩ := h
    have hc' : c1 = [] ∧ c2 = [] := by simpa using hc.symm
    obtain ⟨rfl, rfl⟩ := hc'
    have ih := Elems.drop_take hl l m ht
    have hu := hl _ _ _ hr
    have : (u1 ++ u2).drop ((l + 1) * n) = u2.drop (l * n) := by
      rw [List.drop_append, List.drop_eq_nil_of_le (by rw [hu, Nat.succ_mul]; omega), hu, Nat.succ_mul]
      simp
    rw [this]
    exact ih

theorem TupRep.split {Rr : E → Value → OB → Prop} : ∀ {es : List E} {vs : List Value} {ob : OB} {j : Nat} {e : E}, TupRep Rr es vs ob → es[j]? = some e →
    ∃ v b1 b2 b3, vs[j]? = some v ∧ ob = b1 ++ b2 ++ b3 ∧ Rr e v b2 ∧ ∀ e', Rr e' v [] → TupRep Rr (es.set j e') vs (b1 ++ b3)
  | [], _, _, _, _, _, h => by simp at h
  | f :: es, _, _, 0, e, h, he => by
    obtain ⟨v, r, b1, b2, rfl, rfl, h1, h2⟩ := h
    simp only [List.getElem?_cons_zero, Option.some.injEq] at he; subst he
    exact ⟨v, [], b1, b2, rfl, rfl, h1, fun e' h' => ⟨v, r, [], b2, rfl, rfl, h', h2⟩⟩
  | f :: es, _, _, j + 1, e, h, he => by
    obtain ⟨v, r, b1, b2, rfl, rfl, h1, h2⟩ := h
    simp only [List.getElem?_cons_succ] at he
    obtain ⟨u, c1, c2, c3, k1, rfl, k3, k4⟩ := TupRep.split h2 he
    exact ⟨u, b1 ++ c1, c2, c3, by simpa using k1, by simp, k3, fun e' h' => ⟨v, r, b1, c1 ++ c3, rfl, by simp, h1, k4 e' h'⟩⟩

section
variable {P : Program} {B : Nat} {G0 : Nat → Nat → Prop} {W0 : World} {n : Nat} {env : Env} {a : Act} {w : World} {ob : Nat → OB}
variable {R : Type} {K : Kont R} {r : R} {next : Act → World → Prop} {Q : Exit → Act → World → Prop} {o : Oper} {i : AI} {cl : Cal}

theorem st_lenS {t : TypeId} {x : Operand} {y : Od} (hC : Conc P B G0 W0 n env a.tmps w ob) (hK : KOk P B G0 W0 n a K r next) (hd : ∀ k, o.dst = some k → k < n) (hdst : i.dst = o.dst)
    (ho : o.op = .call { callee := .builtin .len, args := #[x], argTypes := #[t] }) (hi : i.op = .lenS y) (ht : TyR P t .str) (hx : okOd x y = true) (h : step cl i env K = some r) : o.wp P a w next Q := by
  unfold step at h; rw [hi] at h; simp only [hdst, Option.bind_eq_some_iff] at h
  obtain ⟨s, hs, h⟩ := h
  have hv := str_rep hC hx hs
  refine wp_value (v := .int .i64 (s.length : Int)) (w' := w) ?_ (fin0 hC hK hd (Grows.refl w) (v_int _ _ (inR_len hv.2)) h)
  have hsz : (⟨⟨s⟩⟩ : ByteArray).size = s.length := rfl
  simp [execOp, ho, resolve, invoke, builtin, Builtin.len_, run_underlying ht.str, hv.1, goInt, hsz]

theorem st_lenL {t e : TypeId} {x : Operand} {y : Od} (hC : Conc P B G0 W0 n env a.tmps w ob) (hK : KOk P B G0 W0 n a K r next) (hd : ∀ k, o.dst = some k → k < n) (hdst : i.dst = o.dst)
    (ho : o.op = .call { callee := .builtin .len, args := #[x], argTypes := #[t] }) (hi : i.op = .lenL y) (ht : P.underlying t = some (.slice e)) (hx : okOd x y = true) (h : step cl i env K = some r) : o.wp P a w next Q := by
  unfold step at h; rw [hi] at h; simp only [hdst, Option.bind_eq_some_iff] at h
  obtain ⟨z, hz, h⟩ := h
  obtain ⟨vs, hv, hF⟩ := imm_rep hC hx hz
  split at h
  · rename_i T xs
    unfold Flat at hF
    obtain ⟨_, A, c, rfl, hc, hm, _⟩ := hF
    refine wp_value (v := .int .i64 (xs.length : Int)) (w' := w) ?_ (fin0 hC hK hd (Grows.refl w) (v_int _ _ (inR_len (Nat.le_trans hc hm))) h)
    rw [asVal_sl] at hv
    simp [execOp, ho, resolve, invoke, builtin, Builtin.len_, run_underlying ht, hv, goInt]
  · exact absurd h (by simp)

theorem st_lenA {t e : TypeId} {m : Nat} {x : Operand} (hC : Conc P B G0 W0 n env a.tmps w ob) (hK : KOk P B G0 W0 n a K r next) (hd : ∀ k, o.dst = some k → k < n) (hdst : i.dst = o.dst)
    (ho : o.op = .call { callee := .builtin .len, args := #[x], argTypes := #[t] }) (hi : i.op = .lenA m) (ht : P.underlying t = some (.array m e)) (hm : m ≤ maxLen) (h : step cl i env K = some r) : o.wp P a w next Q := by
  unfold step at h; rw [hi] at h; simp only [hdst] at h
  refine wp_value (v := .int .i64 (m : Int)) (w' := w) ?_ (fin0 hC hK hd (Grows.refl w) (v_int _ _ (inR_len hm)) h)
  simp [execOp, ho, resolve, invoke, builtin, Builtin.len_, run_underlying ht, goInt]

theorem st_mm {ts : Array TypeId} {mx : Bool} {x y : Operand} {x' y' : Od} (hC : Conc P B G0 W0 n env a.tmps w ob) (hK : KOk P B G0 W0 n a K r next) (hd : ∀ k, o.dst = some k → k < n) (hdst : i.dst = o.dst)
    (ho : o.op = .call { callee := .builtin (if mx then .max else .min), args := #[x, y], argTypes := ts }) (hi : i.op = .mm mx x' y') (hx : okOd x x' = true) (hy : okOd y y' = true) (h : step cl i env K = some r) : o.wp P a w next Q := by
  unfold step at h; rw [hi] at h; simp only [hdst] at h
  split at h
  · rename_i k m k' q hex hey
    split at h
    case isFalse => simp at h
    rename_i hkk
    subst hkk
    have hvx := int_rep' hC hx hex
    have hvy := int_rep' hC hy hey
    cases mx with
    | true =>
      simp only [if_true] at h ho
      refine wp_value (v := .int k (if q > m then q else m)) (w' := w) ?_ (fin0 hC hK hd (Grows.refl w) (v_int _ _ ?_) h)
      · simp [execOp, ho, resolve, invoke, builtin, Builtin.max_, Builtin.max2, hvx.1, hvy.1]
      · split
        · exact hvy.2
        · exact hvx.2
    | false =>
      simp only [Bool.false_eq_true, if_false] at h ho
      refine wp_value (v := .int k (if q < m then q else m)) (w' := w) ?_ (fin0 hC hK hd (Grows.refl w) (v_int _ _ ?_) h)
      · simp [execOp, ho, resolve, invoke, builtin, Builtin.min_, Builtin.min2, hvx.1, hvy.1]
      · split
        · exact hvy.2
        · exact hvx.2
  · exact absurd h (by simp)

theorem st_indexS {t : TypeId} {x ix : Operand} {y iy : Od} (hC : Conc P B G0 W0 n env a.tmps w ob) (hK : KOk P B G0 W0 n a K r next) (hd : ∀ k, o.dst = some k → k < n) (hdst : i.dst = o.dst)
    (ho : o.op = .index t x ix) (hi : i.op = .indexS y iy) (ht : TyR P t .str) (hx : okOd x y = true) (hix : okOd ix iy = true) (h : step cl i env K = some r) : o.wp P a w next Q := by
  unfold step at h; rw [hi] at h; simp only [hdst, Option.bind_eq_some_iff] at h
  obtain ⟨q, hq, s, hs, h⟩ := h
  split at h
  case isFalse => simp at h
  rename_i hb
  have hvi := int_rep hC hix hq
  have hv := str_rep hC hx hs
  have hlt : q.2.toNat < s.length := by omega
  have hget : (⟨⟨s⟩⟩ : ByteArray)[q.2.toNat]? = some (s.getD q.2.toNat 0) := by
    have hsz : q.2.toNat < (⟨⟨s⟩⟩ : ByteArray).size := hlt
    rw [getElem?_pos (⟨⟨s⟩⟩ : ByteArray) q.2.toNat hsz]
    congr 1
    rw [List.getD_eq_getElem?_getD, List.getElem?_eq_getElem hlt]
    rfl
  refine wp_value (v := .int .u8 ((s.getD q.2.toNat 0).toNat : Int)) (w' := w) ?_ (fin0 hC hK hd (Grows.refl w) (v_int _ _ ?_) h)
  · simp only [execOp, ho, Instr.index, hvi.1, hv.1, asIntOf, Sem.run_bind, Sem.run_pure, Result.andThen_ok, run_underlying ht.str, hb.1, if_true, hget]
  · have := (s.getD q.2.toNat 0).toNat_lt
    constructor
    · show (0 : Int) ≤ _; omega
    · show _ ≤ (255 : Int); omega

theorem st_indexArr {t e : TypeId} {m : Nat} {T : Ty} {x ix : Operand} {y iy : Od} (hC : Conc P B G0 W0 n env a.tmps w ob) (hK : KOk P B G0 W0 n a K r next) (hd : ∀ k, o.dst = some k → k < n) (hdst : i.dst = o.dst)
    (ho : o.op = .indexAddr t x ix) (hi : i.op = .indexArr m T y iy) (hu : P.underlying t = some (.array m e)) (hT : TyR P e T) (hx : okOd x y = true) (hix : okOd ix iy = true) (h : step cl i env K = some r) : o.wp P a w next Q := by
  unfold step at h; rw [hi] at h; simp only [hdst, Option.bind_eq_some_iff] at h
  obtain ⟨q, hq, h⟩ := h
  have hvi := int_rep hC hix hq
  have hr := ent_rep hC hx
  have run : ∀ {b off : Nat}, a.eval x = .pointer (some ⟨b, off, none⟩) → 0 ≤ q.2 → q.2 < (m : Int) → (execOp a.eval o).run P w = .ok (.value (.pointer (some ⟨b, off + q.2.toNat * cellsN T, none⟩))) w := by
    intro b off hv h0 h1
    simp [execOp, ho, hv, hvi.1, Instr.indexAt, run_underlying hu, Instr.sureAddr, asIntOf, h0, h1, run_sizeT hT, add_off]
  split at h
  · rename_i T' xs he
    simp only [Option.bind_eq_some_iff] at h
    obtain ⟨xs', hxs, h⟩ := h
    have := cast?_some hxs
    rw [he] at hr
    cases this
    split at h
    case isFalse => simp at h
    rename_i hb
    obtain ⟨_, b, off, vs, h1, h2, h3⟩ := hr
    unfold Flat at h2
    obtain ⟨hlen, h2⟩ := h2
    obtain ⟨v1, v2, v3, c1, c2, c3, e1, e2, e3, e4, _⟩ := Elems.split (fun x v b hx => Flat.len P _ hx) q.2.toNat (zero T) h2 (by omega)
    have hnil : c2 = [] := by
      have : c1 ++ c2 ++ c3 = [] := e2.symm
      simp at this; exact this.2.1
    subst hnil
    refine wp_value (run h1 hb.1 hb.2) (fin0 (e := .at T (xs'.getD q.2.toNat (zero T))) hC hK hd (Grows.refl w) ⟨rfl, b, off + q.2.toNat * cellsN T, v2, rfl, e4, fun j u hj => ?_⟩ h)
    have hlt := (List.getElem?_eq_some_iff.1 hj).1
    have := h3 (v1.length + j) u (by
      rw [e1, List.append_assoc, List.getElem?_append_right (by omega), List.getElem?_append_left (by omega)]
      simpa using hj)
    rw [e3] at this
    rw [Nat.add_assoc]
    exact this
  · split at h
    · rename_i s p hm
      split at h
      · rename_i T0 oa x0 hs
        split at h
        case isFalse => simp at h
        rename_i hsub
        split at h
        case isFalse => simp at h
        rename_i hb
        obtain ⟨b, hb1, hb2⟩ := locOf hC hx hm hs
        have hoff := offT_append p [.ix q.2.toNat] T0 hsub
        have hO0 : offT T [] = 0 := by cases T <;> rfl
        refine wp_value (run hb2 hb.1 hb.2) (fin0 (e := .ptr s (p ++ [.ix q.2.toNat])) hC hK hd (Grows.refl w) ⟨rfl, T0, oa, x0, b, hs, hb1, ?_, ?_⟩ h)
        · rw [hoff.2]
          simp only [subT]
          rw [if_pos (by omega)]; rfl
        · rw [hoff.1]
          simp only [offT, hO0, Nat.add_zero]
      · exact absurd h (by simp)
    · exact absurd h (by simp)

def okOdO : Option Operand → Option Od → Bool
  | none, none => true
  | some u, some v => okOd u v
  | _, _ => false

theorem optInt_rep (hC : Conc P B G0 W0 n env a.tmps w ob) {u : Option Operand} {v : Option Od} {z : Option Int} (hu : okOdO u v = true) (h : optInt env v = some z) :
    (u = none ∧ z = none) ∨ (∃ x k m, u = some x ∧ z = some m ∧ a.eval x = .int k m) := by
  cases u with
  | none =>
    cases v with
    | none => simp only [optInt, Option.some.injEq] at h; exact .inl ⟨rfl, h.symm⟩
    | some v => simp [okOdO] at hu
  | some u =>
    cases v with
    | none => simp [okOdO] at hu
    | some v =>
      simp only [optInt, Option.bind_eq_some_iff, Option.some.injEq] at h
      obtain ⟨q, hq, rfl⟩ := h
      exact .inr ⟨u, q.1, q.2, rfl, rfl, (int_rep hC hu hq).1⟩

theorem st_sliceS {t : TypeId} {x : Operand} {y : Od} {lo hi' : Option Operand} {lo' hi'' : Option Od} (hC : Conc P B G0 W0 n env a.tmps w ob) (hK : KOk P B G0 W0 n a K r next) (hd : ∀ k, o.dst = some k → k < n) (hdst : i.dst = o.dst)
    (ho : o.op = .slice t x lo hi' none) (hi : i.op = .sliceS y lo' hi'') (ht : TyR P t .str) (hx : okOd x y = true) (hlo : okOdO lo lo' = true) (hhi : okOdO hi' hi'' = true)
    (h : step cl i env K = some r) : o.wp P a w next Q := by
  unfold step at h; rw [hi] at h; simp only [hdst, Option.bind_eq_some_iff] at h
  obtain ⟨l, hl, m, hm, s, hs, h⟩ := h
  split at h
  case isFalse => simp at h
  rename_i hb
  have hv := str_rep hC hx hs
  have hres : (⟨⟨s⟩⟩ : ByteArray).extract (l.getD 0).toNat (m.getD (s.length : Int)).toNat = ⟨⟨(s.drop (l.getD 0).toNat).take ((m.getD (s.length : Int)).toNat - (l.getD 0).toNat)⟩⟩ := ByteArray.extract_mk s _ _
  refine wp_value (v := .string ⟨⟨(s.drop (l.getD 0).toNat).take ((m.getD (s.length : Int)).toNat - (l.getD 0).toNat)⟩⟩) (w' := w) ?_ (fin0 hC hK hd (Grows.refl w) (v_str _ _ ?_) h)
  · rw [← hres]
    have hsz : (⟨⟨s⟩⟩ : ByteArray).size = s.length := rfl
    rcases optInt_rep hC hlo hl with ⟨rfl, rfl⟩ | ⟨u, ku, zu, rfl, rfl, hu⟩ <;> rcases optInt_rep hC hhi hm with ⟨rfl, rfl⟩ | ⟨v, kv, zv, rfl, rfl, hvv⟩ <;> simp only [Option.getD_some, Option.getD_none] at hb
    · have hfull : (⟨⟨s⟩⟩ : ByteArray).extract 0 s.length = ⟨⟨s⟩⟩ := by
        have := ByteArray.extract_mk s 0 s.length
        rw [List.drop_zero, Nat.sub_zero, List.take_length] at this
        exact this
      simp [execOp, ho, hv.1, Instr.sliceAt, Instr.slice, run_underlying ht.str, Instr.sliceBounds, hsz, hfull]
    · have hb2 : zv ≤ ((⟨⟨s⟩⟩ : ByteArray).size : Int) := by rw [hsz]; exact hb.2.2
      simp [execOp, ho, hv.1, Instr.sliceAt, Instr.slice, run_underlying ht.str, Instr.sliceBounds, hvv, run_sliceBound w kv zv _ .sliceAlen hb.2.1 hb2]
    · simp [execOp, ho, hv.1, Instr.sliceAt, Instr.slice, run_underlying ht.str, Instr.sliceBounds, hu, run_sliceBound w ku zu s.length .sliceB hb.1 hb.2.1, hsz]
    · have hb2 : zv ≤ ((⟨⟨s⟩⟩ : ByteArray).size : Int) := by rw [hsz]; exact hb.2.2
      have hb3 : zu ≤ ((zv.toNat : Nat) : Int) := by omega
      simp [execOp, ho, hv.1, Instr.sliceAt, Instr.slice, run_underlying ht.str, Instr.sliceBounds, hvv, hu, run_sliceBound w kv zv _ .sliceAlen (by omega) hb2, run_sliceBound w ku zu _ .sliceB hb.1 hb3]
  · have h2 : ((s.drop (l.getD 0).toNat).take ((m.getD (s.length : Int)).toNat - (l.getD 0).toNat)).length ≤ s.length := by
      rw [List.length_take, List.length_drop]; omega
    have := hv.2
    omega

end
end Go.Fw
