/- Soundness, part 8: operations without calls, first part. -/
import Derived.Test.YtggppceiapjadaaFwS7
set_option linter.unusedVariables false
set_option linter.unusedSimpArgs false
namespace Go.Fw
open Go Go.RowKit

def FUEL : Nat := 40

section
variable {ks : IntKind} {P : Program} {B : Nat} {G0 : Nat → Nat → Prop} {W0 : World} {n : Nat} {env : Env} {a : Act} {w : World} {ob : Nat → OB}

theorem bool_rep {x : Operand} {y : Od} {b : Bool} (hC : Conc P B G0 W0 n env a.tmps w ob) (hx : okOd x y = true) (h : boolOf? (ent env y) = some b) : a.eval x = .bool b := by
  have hr := ent_rep hC hx
  unfold boolOf? at h
  split at h
  · rename_i b' he
    simp only [Option.some.injEq] at h; subst h
    rw [he] at hr
    obtain ⟨_, vs, h1, h2⟩ := hr
    unfold Flat at h1
    rw [h2, h1.1]; rfl
  · exact absurd h (by simp)

theorem int_rep' {x : Operand} {y : Od} {k : IntKind} {m : Int} (hC : Conc P B G0 W0 n env a.tmps w ob) (hx : okOd x y = true) (he : ent env y = .v (.int k) m) : a.eval x = .int k m ∧ inR k m := by
  have hr := ent_rep hC hx
  rw [he] at hr
  obtain ⟨_, vs, h1, h2⟩ := hr
  unfold Flat at h1
  rw [h2, h1.1]; exact ⟨rfl, h1.2.1⟩

theorem int_rep {x : Operand} {y : Od} {q : IntKind × Int} (hC : Conc P B G0 W0 n env a.tmps w ob) (hx : okOd x y = true) (h : intOf? (ent env y) = some q) : a.eval x = .int q.1 q.2 ∧ inR q.1 q.2 := by
  unfold intOf? at h
  split at h
  · rename_i k m he
    simp only [Option.some.injEq] at h; subst h
    exact int_rep' hC hx he
  · exact absurd h (by simp)

theorem str_rep' {x : Operand} {y : Od} {s : List UInt8} (hC : Conc P B G0 W0 n env a.tmps w ob) (hx : okOd x y = true) (he : ent env y = .v .str s) : a.eval x = .string ⟨⟨s⟩⟩ ∧ s.length ≤ maxLen := by
  have hr := ent_rep hC hx
  rw [he] at hr
  obtain ⟨_, vs, h1, h2⟩ := hr
  unfold Flat at h1
  rw [h2, h1.1]; exact ⟨rfl, h1.2.1⟩

theorem str_rep {x : Operand} {y : Od} {s : List UInt8} (hC : Conc P B G0 W0 n env a.tmps w ob) (hx : okOd x y = true) (h : strOf? (ent env y) = some s) : a.eval x = .string ⟨⟨s⟩⟩ ∧ s.length ≤ maxLen := by
  unfold strOf? at h
  split at h
  · rename_i s' he
    simp only [Option.some.injEq] at h; subst h
    exact str_rep' hC hx he
  · exact absurd h (by simp)

theorem v_bool (G : Nat → Nat → Prop) (tm : Array Value) (b : Bool) : ERep P w G B tm env (.v .bool b) (.bool b) [] := ⟨rfl, [.bool b], by unfold Flat; exact ⟨rfl, rfl⟩, rfl⟩
theorem v_int (G : Nat → Nat → Prop) (tm : Array Value) {k : IntKind} {m : Int} (h : inR k m) : ERep P w G B tm env (.v (.int k) m) (.int k m) [] := ⟨rfl, [.int k m], by unfold Flat; exact ⟨rfl, h, rfl⟩, rfl⟩
theorem v_str (G : Nat → Nat → Prop) (tm : Array Value) {s : List UInt8} (h : s.length ≤ maxLen) : ERep P w G B tm env (.v .str s) (.string ⟨⟨s⟩⟩) [] := ⟨rfl, [.string ⟨⟨s⟩⟩], by unfold Flat; exact ⟨rfl, h, rfl⟩, rfl⟩

theorem tmod_within (k : IntKind) (m q : Int) (h : inR k m) : inR k (m.tmod q) := by
  have h1 : m.tmod q = m - q * m.tdiv q := Int.tmod_def m q
  have h0 : k.min ≤ 0 ∧ 0 ≤ k.max := by cases k <;> decide
  have hn : (m.tmod q).natAbs ≤ m.natAbs := by rw [Int.natAbs_tmod]; exact Nat.mod_le _ _
  rcases Int.le_total 0 m with hm | hm
  · have := Int.tmod_nonneg q hm
    exact ⟨by omega, by have := h.2; omega⟩
  · have h2 : m.tmod q ≤ 0 := by
      have := Int.tmod_nonneg q (show 0 ≤ -m by omega)
      rw [Int.neg_tmod] at this; omega
    exact ⟨by have := h.1; omega, by omega⟩

theorem toList_mk (s : List UInt8) : (⟨⟨s⟩⟩ : ByteArray).toList = s := ByteArray.toList_mk s

theorem append_mk (s t : List UInt8) : (⟨⟨s⟩⟩ : ByteArray) ++ ⟨⟨t⟩⟩ = ⟨⟨s ++ t⟩⟩ := by
  have : ((⟨⟨s⟩⟩ : ByteArray) ++ ⟨⟨t⟩⟩).data = ⟨s ++ t⟩ := by
    rw [ByteArray.data_append]; simp
  cases h : (⟨⟨s⟩⟩ : ByteArray) ++ ⟨⟨t⟩⟩
  rw [h] at this
  simp only at this
  rw [this]

variable {R : Type} {K : Kont R} {r : R} {next : Act → World → Prop} {Q : Exit → Act → World → Prop} {o : Oper} {i : AI} {cl : Cal}

theorem inR_len {m : Nat} (h : m ≤ maxLen) : inR .i64 (m : Int) := by
  unfold maxLen at h
  constructor
  · show (-9223372036854775808 : Int) ≤ _; omega
  · show _ ≤ (9223372036854775807 : Int); omega

theorem inR_wrap (k : IntKind) (m : Int) : inR k (k.wrap m) := wrap_within k m

/-- copies -/
theorem st_mv {x : Operand} {y : Od} (hC : Conc P B G0 W0 n env a.tmps w ob) (hK : KOk P B G0 W0 n a K r next) (hd : ∀ k, o.dst = some k → k < n) (hdst : i.dst = o.dst)
    (ho : o.op = .move x) (hi : i.op = .mv y) (hx : okOd x y = true) (h : step cl i env K = some r) : o.wp P a w next Q := by
  unfold step at h; rw [hi] at h; simp only [hdst] at h
  exact wp_value (v := a.eval x) (by simp [execOp, ho]) (fin_move hC hK hx hd h)

theorem st_asg {x : Operand} {y : Od} (hC : Conc P B G0 W0 n env a.tmps w ob) (hK : KOk P B G0 W0 n a K r next) (hd : ∀ k, o.dst = some k → k < n) (hdst : i.dst = o.dst)
    (ho : o.op = .assign x) (hi : i.op = .asg y) (hx : okOd x y = true) (h : step cl i env K = some r) : o.wp P a w next Q := by
  unfold step at h; rw [hi] at h; simp only [hdst] at h
  split at h
  · rename_i d hdd
    refine wp_value (w' := w) (v := a.eval x) (by simp [execOp, ho]) ?_
    rw [hdd]
    exact fin_assign hC hK hx (hd d hdd) h
  · exact absurd h (by simp)

theorem st_pick {c x y : Operand} {c' x' y' : Od} (hC : Conc P B G0 W0 n env a.tmps w ob) (hK : KOk P B G0 W0 n a K r next) (hd : ∀ k, o.dst = some k → k < n) (hdst : i.dst = o.dst)
    (ho : o.op = .pick c x y) (hi : i.op = .pick c' x' y') (hc : okOd c c' = true) (hx : okOd x x' = true) (hy : okOd y y' = true) (h : step cl i env K = some r) : o.wp P a w next Q := by
  unfold step at h; rw [hi] at h; simp only [hdst, Option.bind_eq_some_iff] at h
  obtain ⟨q, hq, h⟩ := h
  have hv := bool_rep hC hc hq
  cases q with
  | true => exact wp_value (v := a.eval x) (by simp [execOp, ho, hv, asBool]) (fin_copy hC hK hx hd h)
  | false => exact wp_value (v := a.eval y) (by simp [execOp, ho, hv, asBool]) (fin_copy hC hK hy hd h)

/-- arithmetic -/
theorem run_arith {op : BinOp} {k : IntKind} {m q z : Int} (xt : TypeId) (h : arith op k m q = some z) : (binOp op xt (.int k m) (.int k q)).run P w = .ok (.int k z) w ∧ inR k z := by
  unfold arith at h
  split at h <;> first | (simp at h; done) | skip
  all_goals (simp only [Option.some.injEq] at h; subst h)
  all_goals refine ⟨?_, ?_⟩
  all_goals first
    | exact inR_wrap _ _
    | exact bits_within _ _ _ _
    | (simp [binOp, Op.intArith]; done)
    | (simp only [binOp, ne_eq, not_true_eq_false, if_false]; rfl)

theorem run_cmp {op : BinOp} {k : IntKind} {m q : Int} {z : Bool} (xt : TypeId) (h : cmpI op m q = some z) : (binOp op xt (.int k m) (.int k q)).run P w = .ok (.bool z) w := by
  unfold cmpI at h
  split at h <;> first | (simp at h; done) | skip
  all_goals (simp only [Option.some.injEq] at h; subst h; simp [binOp, Op.intCmp])

theorem run_eqGuard_int {op : BinOp} {xt : TypeId} {x y : Operand} {k k' : IntKind} {m q : Int} : (eqGuard op xt x y (.int k m) (.int k' q)).run P w = .ok () w := by cases op <;> rfl
theorem run_eqGuard_str {op : BinOp} {xt : TypeId} {x y : Operand} {s t : ByteArray} : (eqGuard op xt x y (.string s) (.string t)).run P w = .ok () w := by cases op <;> rfl

theorem st_bin {op : BinOp} {xt yt : TypeId} {x y : Operand} {x' y' : Od} (hC : Conc P B G0 W0 n env a.tmps w ob) (hK : KOk P B G0 W0 n a K r next) (hd : ∀ k, o.dst = some k → k < n) (hdst : i.dst = o.dst)
    (ho : o.op = .binOp op xt x y yt) (hi : i.op = .bin op x' y') (hx : okOd x x' = true) (hy : okOd y y' = true) (h : step cl i env K = some r) : o.wp P a w next Q := by
  unfold step at h; rw [hi] at h; simp only [hdst] at h
  split at h
  · rename_i k m k' q hex hey
    split at h
    · rename_i hkk
      subst hkk
      have hvx := int_rep' hC hx hex
      have hvy := int_rep' hC hy hey
      have hgd : (eqGuard op xt x y (.int k m) (.int k q)).run P w = .ok () w := run_eqGuard_int
      split at h
      · split at h
        · exact absurd h (by simp)
        · rename_i hq
          exact wp_value (v := .int k (k.wrap (m.tdiv q))) (by simp [execOp, ho, hvx.1, hvy.1, hgd, binOp, Op.intDiv, hq]) (fin0 hC hK hd (Grows.refl w) (v_int _ _ (inR_wrap _ _)) h)
      · split at h
        · exact absurd h (by simp)
        · rename_i hq
          have hin : inR k (m.tmod q) := tmod_within k m q hvx.2
          exact wp_value (v := .int k (m.tmod q)) (by simp [execOp, ho, hvx.1, hvy.1, hgd, binOp, Op.intDiv, hq]) (fin0 hC hK hd (Grows.refl w) (v_int _ _ hin) h)
      · split at h
        · rename_i z hz
          exact wp_value (v := .bool z) (by simp [execOp, ho, hvx.1, hvy.1, hgd, run_cmp xt hz]) (fin0 hC hK hd (Grows.refl w) (v_bool _ _ _) h)
        · simp only [Option.bind_eq_some_iff] at h
          obtain ⟨z, hz, h⟩ := h
          have hrz := run_arith (P := P) (w := w) xt hz
          exact wp_value (v := .int k z) (by simp [execOp, ho, hvx.1, hvy.1, hgd, hrz.1]) (fin0 hC hK hd (Grows.refl w) (v_int _ _ hrz.2) h)
    · exact absurd h (by simp)
  · rename_i s t hex hey
    have hvx := str_rep' hC hx hex
    have hvy := str_rep' hC hy hey
    have hgd : (eqGuard op xt x y (.string ⟨⟨s⟩⟩) (.string ⟨⟨t⟩⟩)).run P w = .ok () w := run_eqGuard_str
    have hs : (⟨⟨s⟩⟩ : ByteArray).toList = s := toList_mk s
    have ht : (⟨⟨t⟩⟩ : ByteArray).toList = t := toList_mk t
    split at h
    · exact wp_value (v := .bool (s == t)) (by simp [execOp, ho, hvx.1, hvy.1, hgd, binOp, Op.stringOp, hs, ht]) (fin0 hC hK hd (Grows.refl w) (v_bool _ _ _) h)
    · exact wp_value (v := .bool (s != t)) (by simp [execOp, ho, hvx.1, hvy.1, hgd, binOp, Op.stringOp, hs, ht, bne]) (fin0 hC hK hd (Grows.refl w) (v_bool _ _ _) h)
    · split at h
      · rename_i hle
        have hadd : (Op.stringOp .add ⟨⟨s⟩⟩ ⟨⟨t⟩⟩).run P w = .ok (.string ⟨⟨s ++ t⟩⟩) w := by
          have := run_string_add_sum (P := P) w ⟨⟨s⟩⟩ ⟨⟨t⟩⟩ (by show s.length + t.length ≤ _; omega)
          rw [this, append_mk]
        refine wp_value (v := .string ⟨⟨s ++ t⟩⟩) (by simp [execOp, ho, hvx.1, hvy.1, hgd, binOp, hadd]) (fin0 hC hK hd (Grows.refl w) (v_str _ _ ?_) h)
        rw [List.length_append]; unfold maxLen; omega
      · exact absurd h (by simp)
    · exact wp_value (v := .bool (Op.bytesLess s t)) (by simp [execOp, ho, hvx.1, hvy.1, hgd, binOp, Op.stringOp, hs, ht]) (fin0 hC hK hd (Grows.refl w) (v_bool _ _ _) h)
    · exact wp_value (v := .bool (Op.bytesLess s t || s == t)) (by simp [execOp, ho, hvx.1, hvy.1, hgd, binOp, Op.stringOp, hs, ht]) (fin0 hC hK hd (Grows.refl w) (v_bool _ _ _) h)
    · exact wp_value (v := .bool (!(Op.bytesLess s t || s == t))) (by simp [execOp, ho, hvx.1, hvy.1, hgd, binOp, Op.stringOp, hs, ht]) (fin0 hC hK hd (Grows.refl w) (v_bool _ _ _) h)
    · exact wp_value (v := .bool (!Op.bytesLess s t)) (by simp [execOp, ho, hvx.1, hvy.1, hgd, binOp, Op.stringOp, hs, ht]) (fin0 hC hK hd (Grows.refl w) (v_bool _ _ _) h)
    · exact absurd h (by simp)
  · exact absurd h (by simp)

theorem st_un {op : UnOp} {xt : TypeId} {x : Operand} {x' : Od} (hC : Conc P B G0 W0 n env a.tmps w ob) (hK : KOk P B G0 W0 n a K r next) (hd : ∀ k, o.dst = some k → k < n) (hdst : i.dst = o.dst)
    (ho : o.op = .unOp op xt x) (hi : i.op = .un op x') (hx : okOd x x' = true) (h : step cl i env K = some r) : o.wp P a w next Q := by
  unfold step at h; rw [hi] at h; simp only [hdst] at h
  split at h
  · rename_i b hex
    have hv := bool_rep hC hx (by rw [hex]; rfl)
    exact wp_value (v := .bool (!b)) (by simp [execOp, ho, hv, Op.unary]) (fin0 hC hK hd (Grows.refl w) (v_bool _ _ _) h)
  · rename_i k m hex
    have hv := int_rep' hC hx hex
    exact wp_value (v := .int k (k.wrap (0 - m))) (by simp [execOp, ho, hv.1, Op.unary, Op.intArith]) (fin0 hC hK hd (Grows.refl w) (v_int _ _ (inR_wrap _ _)) h)
  · exact absurd h (by simp)

theorem st_convI {s d : TypeId} {x : Operand} {x' : Od} {k : IntKind} (hC : Conc P B G0 W0 n env a.tmps w ob) (hK : KOk P B G0 W0 n a K r next) (hd : ∀ k, o.dst = some k → k < n) (hdst : i.dst = o.dst)
    (ho : o.op = .convert s d x) (hi : i.op = .convI k x') (hx : okOd x x' = true) (hs : TyR P s (.int ks)) (hdt : TyR P d (.int k)) (h : step cl i env K = some r) : o.wp P a w next Q := by
  unfold step at h; rw [hi] at h; simp only [hdst, Option.bind_eq_some_iff] at h
  obtain ⟨q, hq, h⟩ := h
  have hv := int_rep hC hx hq
  exact wp_value (v := .int k (k.wrap q.2)) (by simp [execOp, ho, hv.1, convert, run_underlying hs.int, run_underlying hdt.int, Conv.intToInt]) (fin0 hC hK hd (Grows.refl w) (v_int _ _ (inR_wrap _ _)) h)

end
end Go.Fw
