/-
  No cell of these rows narrows 'for every input' (looked for: loops, veiled, ifaces, maps, wideKeys, modest, calm, conditions, laid).
  DERIVED. THE GIVEN ROWS OF THIS SEAT. 8 by the template 'for every input the law returns true; each argument reads behind the call as it read before'; 0 by the template 'total and deterministic' (their statements: YtnobiophckdjfaaTotals.lean).
  GIVEN WITH THE SEED: the statements are not yours to turn. If you find one false, say at which input.
  Laid BY PROGRAM, IN A SANDBOX (cutbox-rows.mjs): the forced cells as the released guide's own fill.sh prints them over the translation 5a745cc65e9f30f2… (all of the seat's roots in one cut). By AI agents, Wed Nov 11 2026. No macro, syntax, notation, axiom, sorry.
-/
import Derived.Test.YtnobiophckdjfaaChecked
import GoSem.Claim
import GoSem.ClaimJoined
import GoSem.ClaimMapViews
import Derived.JoinedTies
import Derived.KernelRfl
namespace Go.Proofs.Ytnobiophckdjfaa
/- THE CELL 'sum', in the pinned program and in every row, IS THE sha256 OF THE DUMP (.gsa) THAT YtnobiophckdjfaaProg.lean LOADS. Nothing in Lean hashes anything: it is a label: what it is worth is what the hold of that sum in a sandbox is worth. -/
noncomputable def Try.pinned : Pinned := { name := "ytnobiophckdjfaa", sum := "5a745cc65e9f30f2a647fe1ce7a88b202e2c2e04801c2b87445e04bb4e7e15fe", checked := Try.checked }
namespace Rows
def none {H : Type} : Left H := { results := [], args := [] }

/-- 'ancepslaw51.BinomialRow': WHATEVER THE INPUT: true; the input reads as it did. -/
def binomialRowSpec : ChangeSpec := { name := "binomialRow", fn := fun _ => fun
  | [d1, d2] => { results := [.lit (.bool true)], args := [d1, d2] }
  | _ => none }
def binomialRowRow : OpenClaim := { program := "ytnobiophckdjfaa", sum := "5a745cc65e9f30f2a647fe1ce7a88b202e2c2e04801c2b87445e04bb4e7e15fe", func := "anceps/ancepslaw51.BinomialRow", spec := "binomialRow", unfollowed := true, recurses := true, apart := false }
def BinomialRowSaid : Prop := binomialRowRow.holds Try.pinned (OpenSpec.ofChange binomialRowSpec)

/-- ITS FALSE NEIGHBOUR: 'it returns false'. Refute it at one input. -/
def binomialRowWrong : ChangeSpec := { name := "binomialRow", fn := fun _ => fun
  | [d1, d2] => { results := [.lit (.bool false)], args := [d1, d2] }
  | _ => none }
def BinomialRowWrongFalsely : Prop := binomialRowRow.holds Try.pinned (OpenSpec.ofChange binomialRowWrong)

/-- 'ancepslaw51.BinomialTerm': WHATEVER THE INPUT: true; the input reads as it did. -/
def binomialTermSpec : ChangeSpec := { name := "binomialTerm", fn := fun _ => fun
  | [d1, d2] => { results := [.lit (.bool true)], args := [d1, d2] }
  | _ => none }
def binomialTermRow : OpenClaim := { program := "ytnobiophckdjfaa", sum := "5a745cc65e9f30f2a647fe1ce7a88b202e2c2e04801c2b87445e04bb4e7e15fe", func := "anceps/ancepslaw51.BinomialTerm", spec := "binomialTerm", unfollowed := true, recurses := true, apart := false }
def BinomialTermSaid : Prop := binomialTermRow.holds Try.pinned (OpenSpec.ofChange binomialTermSpec)

/-- ITS FALSE NEIGHBOUR: 'it returns false'. Refute it at one input. -/
def binomialTermWrong : ChangeSpec := { name := "binomialTerm", fn := fun _ => fun
  | [d1, d2] => { results := [.lit (.bool false)], args := [d1, d2] }
  | _ => none }
def BinomialTermWrongFalsely : Prop := binomialTermRow.holds Try.pinned (OpenSpec.ofChange binomialTermWrong)

/-- 'ancepslaw51.BinomialSymmetry': WHATEVER THE INPUT: true; the input reads as it did. -/
def binomialSymmetrySpec : ChangeSpec := { name := "binomialSymmetry", fn := fun _ => fun
  | [d] => { results := [.lit (.bool true)], args := [d] }
  | _ => none }
def binomialSymmetryRow : OpenClaim := { program := "ytnobiophckdjfaa", sum := "5a745cc65e9f30f2a647fe1ce7a88b202e2c2e04801c2b87445e04bb4e7e15fe", func := "anceps/ancepslaw51.BinomialSymmetry", spec := "binomialSymmetry", unfollowed := true, recurses := true, apart := false }
def BinomialSymmetrySaid : Prop := binomialSymmetryRow.holds Try.pinned (OpenSpec.ofChange binomialSymmetrySpec)

/-- ITS FALSE NEIGHBOUR: 'it returns false'. Refute it at one input. -/
def binomialSymmetryWrong : ChangeSpec := { name := "binomialSymmetry", fn := fun _ => fun
  | [d] => { results := [.lit (.bool false)], args := [d] }
  | _ => none }
def BinomialSymmetryWrongFalsely : Prop := binomialSymmetryRow.holds Try.pinned (OpenSpec.ofChange binomialSymmetryWrong)

/-- 'ancepslaw51.BinomialPascal': WHATEVER THE INPUT: true; the input reads as it did. -/
def binomialPascalSpec : ChangeSpec := { name := "binomialPascal", fn := fun _ => fun
  | [d] => { results := [.lit (.bool true)], args := [d] }
  | _ => none }
def binomialPascalRow : OpenClaim := { program := "ytnobiophckdjfaa", sum := "5a745cc65e9f30f2a647fe1ce7a88b202e2c2e04801c2b87445e04bb4e7e15fe", func := "anceps/ancepslaw51.BinomialPascal", spec := "binomialPascal", unfollowed := true, recurses := true, apart := false }
def BinomialPascalSaid : Prop := binomialPascalRow.holds Try.pinned (OpenSpec.ofChange binomialPascalSpec)

/-- ITS FALSE NEIGHBOUR: 'it returns false'. Refute it at one input. -/
def binomialPascalWrong : ChangeSpec := { name := "binomialPascal", fn := fun _ => fun
  | [d] => { results := [.lit (.bool false)], args := [d] }
  | _ => none }
def BinomialPascalWrongFalsely : Prop := binomialPascalRow.holds Try.pinned (OpenSpec.ofChange binomialPascalWrong)

/-- 'ancepslaw51.BinomialHyper': WHATEVER THE INPUT: true; the input reads as it did. -/
def binomialHyperSpec : ChangeSpec := { name := "binomialHyper", fn := fun _ => fun
  | [d] => { results := [.lit (.bool true)], args := [d] }
  | _ => none }
def binomialHyperRow : OpenClaim := { program := "ytnobiophckdjfaa", sum := "5a745cc65e9f30f2a647fe1ce7a88b202e2c2e04801c2b87445e04bb4e7e15fe", func := "anceps/ancepslaw51.BinomialHyper", spec := "binomialHyper", unfollowed := true, recurses := true, apart := false }
def BinomialHyperSaid : Prop := binomialHyperRow.holds Try.pinned (OpenSpec.ofChange binomialHyperSpec)

/-- ITS FALSE NEIGHBOUR: 'it returns false'. Refute it at one input. -/
def binomialHyperWrong : ChangeSpec := { name := "binomialHyper", fn := fun _ => fun
  | [d] => { results := [.lit (.bool false)], args := [d] }
  | _ => none }
def BinomialHyperWrongFalsely : Prop := binomialHyperRow.holds Try.pinned (OpenSpec.ofChange binomialHyperWrong)

/-- 'ancepslaw51.BinomialUrns': WHATEVER THE INPUT: true; the input reads as it did. -/
def binomialUrnsSpec : ChangeSpec := { name := "binomialUrns", fn := fun _ => fun
  | [d] => { results := [.lit (.bool true)], args := [d] }
  | _ => none }
def binomialUrnsRow : OpenClaim := { program := "ytnobiophckdjfaa", sum := "5a745cc65e9f30f2a647fe1ce7a88b202e2c2e04801c2b87445e04bb4e7e15fe", func := "anceps/ancepslaw51.BinomialUrns", spec := "binomialUrns", unfollowed := true, recurses := true, apart := false }
def BinomialUrnsSaid : Prop := binomialUrnsRow.holds Try.pinned (OpenSpec.ofChange binomialUrnsSpec)

/-- ITS FALSE NEIGHBOUR: 'it returns false'. Refute it at one input. -/
def binomialUrnsWrong : ChangeSpec := { name := "binomialUrns", fn := fun _ => fun
  | [d] => { results := [.lit (.bool false)], args := [d] }
  | _ => none }
def BinomialUrnsWrongFalsely : Prop := binomialUrnsRow.holds Try.pinned (OpenSpec.ofChange binomialUrnsWrong)

/-- 'ancepslaw51.BinomialSums': WHATEVER THE INPUT: true; the input reads as it did. -/
def binomialSumsSpec : ChangeSpec := { name := "binomialSums", fn := fun _ => fun
  | [d] => { results := [.lit (.bool true)], args := [d] }
  | _ => none }
def binomialSumsRow : OpenClaim := { program := "ytnobiophckdjfaa", sum := "5a745cc65e9f30f2a647fe1ce7a88b202e2c2e04801c2b87445e04bb4e7e15fe", func := "anceps/ancepslaw51.BinomialSums", spec := "binomialSums", unfollowed := true, recurses := true, apart := false }
def BinomialSumsSaid : Prop := binomialSumsRow.holds Try.pinned (OpenSpec.ofChange binomialSumsSpec)

/-- ITS FALSE NEIGHBOUR: 'it returns false'. Refute it at one input. -/
def binomialSumsWrong : ChangeSpec := { name := "binomialSums", fn := fun _ => fun
  | [d] => { results := [.lit (.bool false)], args := [d] }
  | _ => none }
def BinomialSumsWrongFalsely : Prop := binomialSumsRow.holds Try.pinned (OpenSpec.ofChange binomialSumsWrong)

/-- 'ancepslaw51.BinomialRatio': WHATEVER THE INPUT: true; the input reads as it did. -/
def binomialRatioSpec : ChangeSpec := { name := "binomialRatio", fn := fun _ => fun
  | [d1, d2] => { results := [.lit (.bool true)], args := [d1, d2] }
  | _ => none }
def binomialRatioRow : OpenClaim := { program := "ytnobiophckdjfaa", sum := "5a745cc65e9f30f2a647fe1ce7a88b202e2c2e04801c2b87445e04bb4e7e15fe", func := "anceps/ancepslaw51.BinomialRatio", spec := "binomialRatio", unfollowed := true, recurses := true, apart := false }
def BinomialRatioSaid : Prop := binomialRatioRow.holds Try.pinned (OpenSpec.ofChange binomialRatioSpec)

/-- ITS FALSE NEIGHBOUR: 'it returns false'. Refute it at one input. -/
def binomialRatioWrong : ChangeSpec := { name := "binomialRatio", fn := fun _ => fun
  | [d1, d2] => { results := [.lit (.bool false)], args := [d1, d2] }
  | _ => none }
def BinomialRatioWrongFalsely : Prop := binomialRatioRow.holds Try.pinned (OpenSpec.ofChange binomialRatioWrong)

/- THE SECOND FORM. 'bulk': how many values and letters a reading holds, each counted each time it is reached (what is shared counts as often as it is met; a slice's spare places count too). A statement '..UptoSaid' is the law's where the arguments, and the package variables that the reading takes, are together of bulk at most 1048576: NARROWER than '..Said'. Prove '..Said' where nothing that the law and all that it calls make is longer than what came in: it says more and counts as full. Else prove '..UptoSaid'. A law counts once. -/
mutual
def uptoBulk {H : Type} : DataW H → Nat
  | .lit (.string bytes) => bytes.length + 1
  | .lit _ => 1
  | .nil => 1
  | .ptr d => uptoBulk d + 1
  | .slice elems spare => uptoBulkAll elems + uptoBulkAll spare + 1
  | .agg parts => uptoBulkAll parts + 1
  | .iface _ d => uptoBulk d + 1
  | .map entries => uptoBulkEntries entries + 1
  | .held _ => 1
def uptoBulkAll {H : Type} : List (DataW H) → Nat
  | [] => 0
  | d :: r => uptoBulk d + uptoBulkAll r
def uptoBulkEntries {H : Type} : List (Lit × DataW H) → Nat
  | [] => 0
  | x :: r => uptoBulkEntry x + uptoBulkEntries r
def uptoBulkEntry {H : Type} : Lit × DataW H → Nat
  | (.string bytes, d) => bytes.length + uptoBulk d + 1
  | (_, d) => uptoBulk d + 1
 end
def uptoSmall : (H : Type) → List (DataW H) → Bool := fun _ ds => decide (uptoBulkAll ds ≤ 1048576)
def OpenSpec.upto (s : _root_.Go.ChangeSpec) : _root_.Go.OpenSpec := { _root_.Go.OpenSpec.ofChange s with cond := some uptoSmall }

/-- 'ancepslaw51.BinomialRow', WHERE WHAT IT READS IS OF BULK AT MOST 1048576: true; the input reads as it did. -/
def binomialRowUptoRow : OpenClaim := { program := "ytnobiophckdjfaa", sum := "5a745cc65e9f30f2a647fe1ce7a88b202e2c2e04801c2b87445e04bb4e7e15fe", func := "anceps/ancepslaw51.BinomialRow", spec := "binomialRow", unfollowed := true, recurses := true, apart := false, narrowed := true }
def BinomialRowUptoSaid : Prop := binomialRowUptoRow.holds Try.pinned (OpenSpec.upto binomialRowSpec)

/-- 'ancepslaw51.BinomialTerm', WHERE WHAT IT READS IS OF BULK AT MOST 1048576: true; the input reads as it did. -/
def binomialTermUptoRow : OpenClaim := { program := "ytnobiophckdjfaa", sum := "5a745cc65e9f30f2a647fe1ce7a88b202e2c2e04801c2b87445e04bb4e7e15fe", func := "anceps/ancepslaw51.BinomialTerm", spec := "binomialTerm", unfollowed := true, recurses := true, apart := false, narrowed := true }
def BinomialTermUptoSaid : Prop := binomialTermUptoRow.holds Try.pinned (OpenSpec.upto binomialTermSpec)

/-- 'ancepslaw51.BinomialSymmetry', WHERE WHAT IT READS IS OF BULK AT MOST 1048576: true; the input reads as it did. -/
def binomialSymmetryUptoRow : OpenClaim := { program := "ytnobiophckdjfaa", sum := "5a745cc65e9f30f2a647fe1ce7a88b202e2c2e04801c2b87445e04bb4e7e15fe", func := "anceps/ancepslaw51.BinomialSymmetry", spec := "binomialSymmetry", unfollowed := true, recurses := true, apart := false, narrowed := true }
def BinomialSymmetryUptoSaid : Prop := binomialSymmetryUptoRow.holds Try.pinned (OpenSpec.upto binomialSymmetrySpec)

/-- 'ancepslaw51.BinomialPascal', WHERE WHAT IT READS IS OF BULK AT MOST 1048576: true; the input reads as it did. -/
def binomialPascalUptoRow : OpenClaim := { program := "ytnobiophckdjfaa", sum := "5a745cc65e9f30f2a647fe1ce7a88b202e2c2e04801c2b87445e04bb4e7e15fe", func := "anceps/ancepslaw51.BinomialPascal", spec := "binomialPascal", unfollowed := true, recurses := true, apart := false, narrowed := true }
def BinomialPascalUptoSaid : Prop := binomialPascalUptoRow.holds Try.pinned (OpenSpec.upto binomialPascalSpec)

/-- 'ancepslaw51.BinomialHyper', WHERE WHAT IT READS IS OF BULK AT MOST 1048576: true; the input reads as it did. -/
def binomialHyperUptoRow : OpenClaim := { program := "ytnobiophckdjfaa", sum := "5a745cc65e9f30f2a647fe1ce7a88b202e2c2e04801c2b87445e04bb4e7e15fe", func := "anceps/ancepslaw51.BinomialHyper", spec := "binomialHyper", unfollowed := true, recurses := true, apart := false, narrowed := true }
def BinomialHyperUptoSaid : Prop := binomialHyperUptoRow.holds Try.pinned (OpenSpec.upto binomialHyperSpec)

/-- 'ancepslaw51.BinomialUrns', WHERE WHAT IT READS IS OF BULK AT MOST 1048576: true; the input reads as it did. -/
def binomialUrnsUptoRow : OpenClaim := { program := "ytnobiophckdjfaa", sum := "5a745cc65e9f30f2a647fe1ce7a88b202e2c2e04801c2b87445e04bb4e7e15fe", func := "anceps/ancepslaw51.BinomialUrns", spec := "binomialUrns", unfollowed := true, recurses := true, apart := false, narrowed := true }
def BinomialUrnsUptoSaid : Prop := binomialUrnsUptoRow.holds Try.pinned (OpenSpec.upto binomialUrnsSpec)

/-- 'ancepslaw51.BinomialSums', WHERE WHAT IT READS IS OF BULK AT MOST 1048576: true; the input reads as it did. -/
def binomialSumsUptoRow : OpenClaim := { program := "ytnobiophckdjfaa", sum := "5a745cc65e9f30f2a647fe1ce7a88b202e2c2e04801c2b87445e04bb4e7e15fe", func := "anceps/ancepslaw51.BinomialSums", spec := "binomialSums", unfollowed := true, recurses := true, apart := false, narrowed := true }
def BinomialSumsUptoSaid : Prop := binomialSumsUptoRow.holds Try.pinned (OpenSpec.upto binomialSumsSpec)

/-- 'ancepslaw51.BinomialRatio', WHERE WHAT IT READS IS OF BULK AT MOST 1048576: true; the input reads as it did. -/
def binomialRatioUptoRow : OpenClaim := { program := "ytnobiophckdjfaa", sum := "5a745cc65e9f30f2a647fe1ce7a88b202e2c2e04801c2b87445e04bb4e7e15fe", func := "anceps/ancepslaw51.BinomialRatio", spec := "binomialRatio", unfollowed := true, recurses := true, apart := false, narrowed := true }
def BinomialRatioUptoSaid : Prop := binomialRatioUptoRow.holds Try.pinned (OpenSpec.upto binomialRatioSpec)

end Rows
end Go.Proofs.Ytnobiophckdjfaa
