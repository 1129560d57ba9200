/-
  No cell of these rows narrows 'for every input' (looked for: loops, veiled, ifaces, maps, wideKeys, modest, calm, conditions, laid).
  DERIVED. THE GIVEN ROWS OF THIS SEAT. 4 by the template 'for every input the law returns true; each argument reads behind the call as it read before'; 0 by the template 'total and deterministic' (their statements: YtbdlccajpcomjaaTotals.lean).
  GIVEN WITH THE SEED: the statements are not yours to turn. If you find one false, say at which input.
  Laid BY PROGRAM, IN A SANDBOX (cutbox-rows.mjs): the forced cells as the released guide's own fill.sh prints them over the translation 85e4401ab41855ad… (all of the seat's roots in one cut). By AI agents, Wed Nov 11 2026. No macro, syntax, notation, axiom, sorry.
-/
import Derived.Test.YtbdlccajpcomjaaChecked
import GoSem.Claim
import GoSem.ClaimJoined
import GoSem.ClaimMapViews
import Derived.JoinedTies
import Derived.KernelRfl
namespace Go.Proofs.Ytbdlccajpcomjaa
/- THE CELL 'sum', in the pinned program and in every row, IS THE sha256 OF THE DUMP (.gsa) THAT YtbdlccajpcomjaaProg.lean LOADS. Nothing in Lean hashes anything: it is a label: what it is worth is what the hold of that sum in a sandbox is worth. -/
noncomputable def Try.pinned : Pinned := { name := "ytbdlccajpcomjaa", sum := "85e4401ab41855ad0c0ad012ee5067e1f48a3353484b5dbf3b718667c46e31b4", checked := Try.checked }
namespace Rows
def none {H : Type} : Left H := { results := [], args := [] }

/-- 'ancepslaw17.LicenceSpaced': WHATEVER THE INPUT: true; the input reads as it did. -/
def licenceSpacedSpec : ChangeSpec := { name := "licenceSpaced", fn := fun _ => fun
  | [d1, d2] => { results := [.lit (.bool true)], args := [d1, d2] }
  | _ => none }
def licenceSpacedRow : OpenClaim := { program := "ytbdlccajpcomjaa", sum := "85e4401ab41855ad0c0ad012ee5067e1f48a3353484b5dbf3b718667c46e31b4", func := "anceps/ancepslaw17.LicenceSpaced", spec := "licenceSpaced", inPlace := ["internal/bytealg.IndexByteString", "internal/abi.NoEscape", "internal/bytealg.MakeNoZero"], unfollowed := true, recurses := true, apart := false }
def LicenceSpacedSaid : Prop := licenceSpacedRow.holds Try.pinned (OpenSpec.ofChange licenceSpacedSpec)

/-- ITS FALSE NEIGHBOUR: 'it returns false'. Refute it at one input. -/
def licenceSpacedWrong : ChangeSpec := { name := "licenceSpaced", fn := fun _ => fun
  | [d1, d2] => { results := [.lit (.bool false)], args := [d1, d2] }
  | _ => none }
def LicenceSpacedWrongFalsely : Prop := licenceSpacedRow.holds Try.pinned (OpenSpec.ofChange licenceSpacedWrong)

/-- 'ancepslaw17.LicenceMade': WHATEVER THE INPUT: true; the input reads as it did. -/
def licenceMadeSpec : ChangeSpec := { name := "licenceMade", fn := fun _ => fun
  | [d1, d2, d3] => { results := [.lit (.bool true)], args := [d1, d2, d3] }
  | _ => none }
def licenceMadeRow : OpenClaim := { program := "ytbdlccajpcomjaa", sum := "85e4401ab41855ad0c0ad012ee5067e1f48a3353484b5dbf3b718667c46e31b4", func := "anceps/ancepslaw17.LicenceMade", spec := "licenceMade", inPlace := ["internal/bytealg.IndexByteString", "internal/abi.NoEscape", "internal/bytealg.MakeNoZero"], unfollowed := true, recurses := true, apart := false }
def LicenceMadeSaid : Prop := licenceMadeRow.holds Try.pinned (OpenSpec.ofChange licenceMadeSpec)

/-- ITS FALSE NEIGHBOUR: 'it returns false'. Refute it at one input. -/
def licenceMadeWrong : ChangeSpec := { name := "licenceMade", fn := fun _ => fun
  | [d1, d2, d3] => { results := [.lit (.bool false)], args := [d1, d2, d3] }
  | _ => none }
def LicenceMadeWrongFalsely : Prop := licenceMadeRow.holds Try.pinned (OpenSpec.ofChange licenceMadeWrong)

/-- 'ancepslaw17.LicenceMerge': WHATEVER THE INPUT: true; the input reads as it did. -/
def licenceMergeSpec : ChangeSpec := { name := "licenceMerge", fn := fun _ => fun
  | [d1, d2, d3] => { results := [.lit (.bool true)], args := [d1, d2, d3] }
  | _ => none }
def licenceMergeRow : OpenClaim := { program := "ytbdlccajpcomjaa", sum := "85e4401ab41855ad0c0ad012ee5067e1f48a3353484b5dbf3b718667c46e31b4", func := "anceps/ancepslaw17.LicenceMerge", spec := "licenceMerge", inPlace := ["internal/bytealg.IndexByteString", "internal/abi.NoEscape", "internal/bytealg.MakeNoZero"], unfollowed := true, recurses := true, apart := false }
def LicenceMergeSaid : Prop := licenceMergeRow.holds Try.pinned (OpenSpec.ofChange licenceMergeSpec)

/-- ITS FALSE NEIGHBOUR: 'it returns false'. Refute it at one input. -/
def licenceMergeWrong : ChangeSpec := { name := "licenceMerge", fn := fun _ => fun
  | [d1, d2, d3] => { results := [.lit (.bool false)], args := [d1, d2, d3] }
  | _ => none }
def LicenceMergeWrongFalsely : Prop := licenceMergeRow.holds Try.pinned (OpenSpec.ofChange licenceMergeWrong)

/-- 'ancepslaw17.LicenceWithout': WHATEVER THE INPUT: true; the input reads as it did. -/
def licenceWithoutSpec : ChangeSpec := { name := "licenceWithout", fn := fun _ => fun
  | [d1, d2, d3] => { results := [.lit (.bool true)], args := [d1, d2, d3] }
  | _ => none }
def licenceWithoutRow : OpenClaim := { program := "ytbdlccajpcomjaa", sum := "85e4401ab41855ad0c0ad012ee5067e1f48a3353484b5dbf3b718667c46e31b4", func := "anceps/ancepslaw17.LicenceWithout", spec := "licenceWithout", inPlace := ["internal/bytealg.IndexByteString", "internal/abi.NoEscape", "internal/bytealg.MakeNoZero"], unfollowed := true, recurses := true, apart := false }
def LicenceWithoutSaid : Prop := licenceWithoutRow.holds Try.pinned (OpenSpec.ofChange licenceWithoutSpec)

/-- ITS FALSE NEIGHBOUR: 'it returns false'. Refute it at one input. -/
def licenceWithoutWrong : ChangeSpec := { name := "licenceWithout", fn := fun _ => fun
  | [d1, d2, d3] => { results := [.lit (.bool false)], args := [d1, d2, d3] }
  | _ => none }
def LicenceWithoutWrongFalsely : Prop := licenceWithoutRow.holds Try.pinned (OpenSpec.ofChange licenceWithoutWrong)

/- THE SECOND FORM. 'bulk': how many values and letters a reading holds, each counted each time it is reached (what is shared counts as often as it is met; a slice's spare places count too). A statement '..UptoSaid' is the law's where the arguments, and the package variables that the reading takes, are together of bulk at most 1048576: NARROWER than '..Said'. Prove '..Said' where nothing that the law and all that it calls make is longer than what came in: it says more and counts as full. Else prove '..UptoSaid'. A law counts once. -/
mutual
def uptoBulk {H : Type} : DataW H → Nat
  | .lit (.string bytes) => bytes.length + 1
  | .lit _ => 1
  | .nil => 1
  | .ptr d => uptoBulk d + 1
  | .slice elems spare => uptoBulkAll elems + uptoBulkAll spare + 1
  | .agg parts => uptoBulkAll parts + 1
  | .iface _ d => uptoBulk d + 1
  | .map entries => uptoBulkEntries entries + 1
  | .held _ => 1
def uptoBulkAll {H : Type} : List (DataW H) → Nat
  | [] => 0
  | d :: r => uptoBulk d + uptoBulkAll r
def uptoBulkEntries {H : Type} : List (Lit × DataW H) → Nat
  | [] => 0
  | x :: r => uptoBulkEntry x + uptoBulkEntries r
def uptoBulkEntry {H : Type} : Lit × DataW H → Nat
  | (.string bytes, d) => bytes.length + uptoBulk d + 1
  | (_, d) => uptoBulk d + 1
 end
def uptoSmall : (H : Type) → List (DataW H) → Bool := fun _ ds => decide (uptoBulkAll ds ≤ 1048576)
def OpenSpec.upto (s : _root_.Go.ChangeSpec) : _root_.Go.OpenSpec := { _root_.Go.OpenSpec.ofChange s with cond := some uptoSmall }

/-- 'ancepslaw17.LicenceSpaced', WHERE WHAT IT READS IS OF BULK AT MOST 1048576: true; the input reads as it did. -/
def licenceSpacedUptoRow : OpenClaim := { program := "ytbdlccajpcomjaa", sum := "85e4401ab41855ad0c0ad012ee5067e1f48a3353484b5dbf3b718667c46e31b4", func := "anceps/ancepslaw17.LicenceSpaced", spec := "licenceSpaced", inPlace := ["internal/bytealg.IndexByteString", "internal/abi.NoEscape", "internal/bytealg.MakeNoZero"], unfollowed := true, recurses := true, apart := false, narrowed := true }
def LicenceSpacedUptoSaid : Prop := licenceSpacedUptoRow.holds Try.pinned (OpenSpec.upto licenceSpacedSpec)

/-- 'ancepslaw17.LicenceMade', WHERE WHAT IT READS IS OF BULK AT MOST 1048576: true; the input reads as it did. -/
def licenceMadeUptoRow : OpenClaim := { program := "ytbdlccajpcomjaa", sum := "85e4401ab41855ad0c0ad012ee5067e1f48a3353484b5dbf3b718667c46e31b4", func := "anceps/ancepslaw17.LicenceMade", spec := "licenceMade", inPlace := ["internal/bytealg.IndexByteString", "internal/abi.NoEscape", "internal/bytealg.MakeNoZero"], unfollowed := true, recurses := true, apart := false, narrowed := true }
def LicenceMadeUptoSaid : Prop := licenceMadeUptoRow.holds Try.pinned (OpenSpec.upto licenceMadeSpec)

/-- 'ancepslaw17.LicenceMerge', WHERE WHAT IT READS IS OF BULK AT MOST 1048576: true; the input reads as it did. -/
def licenceMergeUptoRow : OpenClaim := { program := "ytbdlccajpcomjaa", sum := "85e4401ab41855ad0c0ad012ee5067e1f48a3353484b5dbf3b718667c46e31b4", func := "anceps/ancepslaw17.LicenceMerge", spec := "licenceMerge", inPlace := ["internal/bytealg.IndexByteString", "internal/abi.NoEscape", "internal/bytealg.MakeNoZero"], unfollowed := true, recurses := true, apart := false, narrowed := true }
def LicenceMergeUptoSaid : Prop := licenceMergeUptoRow.holds Try.pinned (OpenSpec.upto licenceMergeSpec)

/-- 'ancepslaw17.LicenceWithout', WHERE WHAT IT READS IS OF BULK AT MOST 1048576: true; the input reads as it did. -/
def licenceWithoutUptoRow : OpenClaim := { program := "ytbdlccajpcomjaa", sum := "85e4401ab41855ad0c0ad012ee5067e1f48a3353484b5dbf3b718667c46e31b4", func := "anceps/ancepslaw17.LicenceWithout", spec := "licenceWithout", inPlace := ["internal/bytealg.IndexByteString", "internal/abi.NoEscape", "internal/bytealg.MakeNoZero"], unfollowed := true, recurses := true, apart := false, narrowed := true }
def LicenceWithoutUptoSaid : Prop := licenceWithoutUptoRow.holds Try.pinned (OpenSpec.upto licenceWithoutSpec)

end Rows
end Go.Proofs.Ytbdlccajpcomjaa
