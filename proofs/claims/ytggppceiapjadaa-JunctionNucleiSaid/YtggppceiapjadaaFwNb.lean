/- strings.IndexByte's kernel: what is known of it, as the machine's. -/
import Derived.Test.YtggppceiapjadaaFwN
import Derived.Lib.Bytealg
set_option linter.unusedVariables false
set_option linter.unusedSimpArgs false
namespace Go.Fw
open Go Go.RowKit

theorem indexByte_bounds : ∀ (l : List UInt8) (c : UInt8), -1 ≤ Lib.indexByte l c ∧ Lib.indexByte l c ≤ (l.length : Int)
  | [], _ => by simp [Lib.indexByte]
  | b :: l, c => by
    have ih := indexByte_bounds l c
    simp only [Lib.indexByte]
    split
    · simp
      omega
    · split
      · simp
        omega
      · rename_i h
        simp only [beq_iff_eq] at h
        simp only [List.length_cons]
        omega

theorem idx_good {P : Program} {f : FuncId} (hcall : ∀ (s : ByteArray) (c : Int) (w : World), Calls P f #[.string s, .int .u8 c] w fun e w' => e = .returned (.int .i64 (Lib.indexByte s.data.toList c.toNat.toUInt8)) ∧ w' = w) (hc : Callable P f)
    (s : List UInt8) (c : Int) (w : World) (G : Nat → Nat → Prop) (vals : List Value) (hA : ArgsRep P w G [.v .str s, .v (.int .u8) c] vals) :
    Callable P f ∧ Calls P f vals.toArray w fun en w' => ∃ v rob, en = .returned v ∧ Below w.heap.size w w' ∧ ResRep P w w' G [.v (.int .i64) (Lib.indexByte s c.toNat.toUInt8)] v rob := by
  cases hA with
  | cons h1 hA =>
    cases hA with
    | cons h2 hA =>
      cases hA
      obtain ⟨v1, f1, rfl⟩ := h1
      obtain ⟨v2, f2, rfl⟩ := h2
      unfold Flat at f1 f2
      obtain ⟨rfl, hl, _⟩ := f1
      obtain ⟨rfl, hr, _⟩ := f2
      refine ⟨hc, (hcall ⟨⟨s⟩⟩ c w).mono fun en w' ⟨he, hw⟩ => ?_⟩
      subst hw
      refine ⟨_, [], he, Below.refl _ _, ⟨?_, rfl, by simp, by simp⟩⟩
      refine ⟨rfl, [.int .i64 (Lib.indexByte s c.toNat.toUInt8)], ?_, rfl⟩
      unfold Flat
      have hb := indexByte_bounds s c.toNat.toUInt8
      refine ⟨rfl, ?_, rfl⟩
      unfold maxLen at hl
      constructor
      · show (-9223372036854775808 : Int) ≤ _; omega
      · show _ ≤ (9223372036854775807 : Int); omega

end Go.Fw
