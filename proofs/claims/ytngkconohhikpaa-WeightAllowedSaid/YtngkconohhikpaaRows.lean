/-
  No cell of these rows narrows 'for every input' (looked for: loops, veiled, ifaces, maps, wideKeys, modest, calm, conditions, laid).
  DERIVED. THE GIVEN ROWS OF THIS SEAT. 8 by the template 'for every input the law returns true; each argument reads behind the call as it read before'; 0 by the template 'total and deterministic' (their statements: YtngkconohhikpaaTotals.lean).
  GIVEN WITH THE SEED: the statements are not yours to turn. If you find one false, say at which input.
  Laid BY PROGRAM, IN A SANDBOX (cutbox-rows.mjs): the forced cells as the released guide's own fill.sh prints them over the translation 9d8f4b795904462e… (all of the seat's roots in one cut). By AI agents, Wed Nov 11 2026. No macro, syntax, notation, axiom, sorry.
-/
import Derived.Test.YtngkconohhikpaaChecked
import GoSem.Claim
import GoSem.ClaimJoined
import GoSem.ClaimMapViews
import Derived.JoinedTies
import Derived.KernelRfl
namespace Go.Proofs.Ytngkconohhikpaa
/- THE CELL 'sum', in the pinned program and in every row, IS THE sha256 OF THE DUMP (.gsa) THAT YtngkconohhikpaaProg.lean LOADS. Nothing in Lean hashes anything: it is a label: what it is worth is what the hold of that sum in a sandbox is worth. -/
noncomputable def Try.pinned : Pinned := { name := "ytngkconohhikpaa", sum := "9d8f4b795904462e7883b52b94edcbfdfd8824319b5582b204dd07f56f085020", checked := Try.checked }
namespace Rows
def none {H : Type} : Left H := { results := [], args := [] }

/-- 'ancepslaw16.WeightOptions': WHATEVER THE INPUT: true; the input reads as it did. -/
def weightOptionsSpec : ChangeSpec := { name := "weightOptions", fn := fun _ => fun
  | [d1, d2] => { results := [.lit (.bool true)], args := [d1, d2] }
  | _ => none }
def weightOptionsRow : OpenClaim := { program := "ytngkconohhikpaa", sum := "9d8f4b795904462e7883b52b94edcbfdfd8824319b5582b204dd07f56f085020", func := "anceps/ancepslaw16.WeightOptions", spec := "weightOptions", apart := false }
def WeightOptionsSaid : Prop := weightOptionsRow.holds Try.pinned (OpenSpec.ofChange weightOptionsSpec)

/-- ITS FALSE NEIGHBOUR: 'it returns false'. Refute it at one input. -/
def weightOptionsWrong : ChangeSpec := { name := "weightOptions", fn := fun _ => fun
  | [d1, d2] => { results := [.lit (.bool false)], args := [d1, d2] }
  | _ => none }
def WeightOptionsWrongFalsely : Prop := weightOptionsRow.holds Try.pinned (OpenSpec.ofChange weightOptionsWrong)

/-- 'ancepslaw16.WeightFinal': WHATEVER THE INPUT: true; the input reads as it did. -/
def weightFinalSpec : ChangeSpec := { name := "weightFinal", fn := fun _ => fun
  | [d1, d2] => { results := [.lit (.bool true)], args := [d1, d2] }
  | _ => none }
def weightFinalRow : OpenClaim := { program := "ytngkconohhikpaa", sum := "9d8f4b795904462e7883b52b94edcbfdfd8824319b5582b204dd07f56f085020", func := "anceps/ancepslaw16.WeightFinal", spec := "weightFinal", apart := false }
def WeightFinalSaid : Prop := weightFinalRow.holds Try.pinned (OpenSpec.ofChange weightFinalSpec)

/-- ITS FALSE NEIGHBOUR: 'it returns false'. Refute it at one input. -/
def weightFinalWrong : ChangeSpec := { name := "weightFinal", fn := fun _ => fun
  | [d1, d2] => { results := [.lit (.bool false)], args := [d1, d2] }
  | _ => none }
def WeightFinalWrongFalsely : Prop := weightFinalRow.holds Try.pinned (OpenSpec.ofChange weightFinalWrong)

/-- 'ancepslaw16.WeightOnce': WHATEVER THE INPUT: true; the input reads as it did. -/
def weightOnceSpec : ChangeSpec := { name := "weightOnce", fn := fun _ => fun
  | [d1, d2, d3] => { results := [.lit (.bool true)], args := [d1, d2, d3] }
  | _ => none }
def weightOnceRow : OpenClaim := { program := "ytngkconohhikpaa", sum := "9d8f4b795904462e7883b52b94edcbfdfd8824319b5582b204dd07f56f085020", func := "anceps/ancepslaw16.WeightOnce", spec := "weightOnce", apart := false }
def WeightOnceSaid : Prop := weightOnceRow.holds Try.pinned (OpenSpec.ofChange weightOnceSpec)

/-- ITS FALSE NEIGHBOUR: 'it returns false'. Refute it at one input. -/
def weightOnceWrong : ChangeSpec := { name := "weightOnce", fn := fun _ => fun
  | [d1, d2, d3] => { results := [.lit (.bool false)], args := [d1, d2, d3] }
  | _ => none }
def WeightOnceWrongFalsely : Prop := weightOnceRow.holds Try.pinned (OpenSpec.ofChange weightOnceWrong)

/-- 'ancepslaw16.WeightPick': WHATEVER THE INPUT: true; the input reads as it did. -/
def weightPickSpec : ChangeSpec := { name := "weightPick", fn := fun _ => fun
  | [d1, d2] => { results := [.lit (.bool true)], args := [d1, d2] }
  | _ => none }
def weightPickRow : OpenClaim := { program := "ytngkconohhikpaa", sum := "9d8f4b795904462e7883b52b94edcbfdfd8824319b5582b204dd07f56f085020", func := "anceps/ancepslaw16.WeightPick", spec := "weightPick", unfollowed := true, recurses := true, apart := false }
def WeightPickSaid : Prop := weightPickRow.holds Try.pinned (OpenSpec.ofChange weightPickSpec)

/-- ITS FALSE NEIGHBOUR: 'it returns false'. Refute it at one input. -/
def weightPickWrong : ChangeSpec := { name := "weightPick", fn := fun _ => fun
  | [d1, d2] => { results := [.lit (.bool false)], args := [d1, d2] }
  | _ => none }
def WeightPickWrongFalsely : Prop := weightPickRow.holds Try.pinned (OpenSpec.ofChange weightPickWrong)

/-- 'ancepslaw16.WeightTexts': WHATEVER THE INPUT: true; the input reads as it did. -/
def weightTextsSpec : ChangeSpec := { name := "weightTexts", fn := fun _ => fun
  | [d1, d2] => { results := [.lit (.bool true)], args := [d1, d2] }
  | _ => none }
def weightTextsRow : OpenClaim := { program := "ytngkconohhikpaa", sum := "9d8f4b795904462e7883b52b94edcbfdfd8824319b5582b204dd07f56f085020", func := "anceps/ancepslaw16.WeightTexts", spec := "weightTexts", apart := false }
def WeightTextsSaid : Prop := weightTextsRow.holds Try.pinned (OpenSpec.ofChange weightTextsSpec)

/-- ITS FALSE NEIGHBOUR: 'it returns false'. Refute it at one input. -/
def weightTextsWrong : ChangeSpec := { name := "weightTexts", fn := fun _ => fun
  | [d1, d2] => { results := [.lit (.bool false)], args := [d1, d2] }
  | _ => none }
def WeightTextsWrongFalsely : Prop := weightTextsRow.holds Try.pinned (OpenSpec.ofChange weightTextsWrong)

/-- 'ancepslaw16.WeightAlways': WHATEVER THE INPUT: true; the input reads as it did. -/
def weightAlwaysSpec : ChangeSpec := { name := "weightAlways", fn := fun _ => fun
  | [d1, d2, d3] => { results := [.lit (.bool true)], args := [d1, d2, d3] }
  | _ => none }
def weightAlwaysRow : OpenClaim := { program := "ytngkconohhikpaa", sum := "9d8f4b795904462e7883b52b94edcbfdfd8824319b5582b204dd07f56f085020", func := "anceps/ancepslaw16.WeightAlways", spec := "weightAlways", apart := false }
def WeightAlwaysSaid : Prop := weightAlwaysRow.holds Try.pinned (OpenSpec.ofChange weightAlwaysSpec)

/-- ITS FALSE NEIGHBOUR: 'it returns false'. Refute it at one input. -/
def weightAlwaysWrong : ChangeSpec := { name := "weightAlways", fn := fun _ => fun
  | [d1, d2, d3] => { results := [.lit (.bool false)], args := [d1, d2, d3] }
  | _ => none }
def WeightAlwaysWrongFalsely : Prop := weightAlwaysRow.holds Try.pinned (OpenSpec.ofChange weightAlwaysWrong)

/-- 'ancepslaw16.WeightOpen': WHATEVER THE INPUT: true; the input reads as it did. -/
def weightOpenSpec : ChangeSpec := { name := "weightOpen", fn := fun _ => fun
  | [d1, d2, d3] => { results := [.lit (.bool true)], args := [d1, d2, d3] }
  | _ => none }
def weightOpenRow : OpenClaim := { program := "ytngkconohhikpaa", sum := "9d8f4b795904462e7883b52b94edcbfdfd8824319b5582b204dd07f56f085020", func := "anceps/ancepslaw16.WeightOpen", spec := "weightOpen", apart := false }
def WeightOpenSaid : Prop := weightOpenRow.holds Try.pinned (OpenSpec.ofChange weightOpenSpec)

/-- ITS FALSE NEIGHBOUR: 'it returns false'. Refute it at one input. -/
def weightOpenWrong : ChangeSpec := { name := "weightOpen", fn := fun _ => fun
  | [d1, d2, d3] => { results := [.lit (.bool false)], args := [d1, d2, d3] }
  | _ => none }
def WeightOpenWrongFalsely : Prop := weightOpenRow.holds Try.pinned (OpenSpec.ofChange weightOpenWrong)

/-- 'ancepslaw16.WeightAllowed': WHATEVER THE INPUT: true; the input reads as it did. -/
def weightAllowedSpec : ChangeSpec := { name := "weightAllowed", fn := fun _ => fun
  | [d1, d2, d3] => { results := [.lit (.bool true)], args := [d1, d2, d3] }
  | _ => none }
def weightAllowedRow : OpenClaim := { program := "ytngkconohhikpaa", sum := "9d8f4b795904462e7883b52b94edcbfdfd8824319b5582b204dd07f56f085020", func := "anceps/ancepslaw16.WeightAllowed", spec := "weightAllowed", apart := false }
def WeightAllowedSaid : Prop := weightAllowedRow.holds Try.pinned (OpenSpec.ofChange weightAllowedSpec)

/-- ITS FALSE NEIGHBOUR: 'it returns false'. Refute it at one input. -/
def weightAllowedWrong : ChangeSpec := { name := "weightAllowed", fn := fun _ => fun
  | [d1, d2, d3] => { results := [.lit (.bool false)], args := [d1, d2, d3] }
  | _ => none }
def WeightAllowedWrongFalsely : Prop := weightAllowedRow.holds Try.pinned (OpenSpec.ofChange weightAllowedWrong)

/- THE SECOND FORM. 'bulk': how many values and letters a reading holds, each counted each time it is reached (what is shared counts as often as it is met; a slice's spare places count too). A statement '..UptoSaid' is the law's where the arguments, and the package variables that the reading takes, are together of bulk at most 1048576: NARROWER than '..Said'. Prove '..Said' where nothing that the law and all that it calls make is longer than what came in: it says more and counts as full. Else prove '..UptoSaid'. A law counts once. -/
mutual
def uptoBulk {H : Type} : DataW H → Nat
  | .lit (.string bytes) => bytes.length + 1
  | .lit _ => 1
  | .nil => 1
  | .ptr d => uptoBulk d + 1
  | .slice elems spare => uptoBulkAll elems + uptoBulkAll spare + 1
  | .agg parts => uptoBulkAll parts + 1
  | .iface _ d => uptoBulk d + 1
  | .map entries => uptoBulkEntries entries + 1
  | .held _ => 1
def uptoBulkAll {H : Type} : List (DataW H) → Nat
  | [] => 0
  | d :: r => uptoBulk d + uptoBulkAll r
def uptoBulkEntries {H : Type} : List (Lit × DataW H) → Nat
  | [] => 0
  | x :: r => uptoBulkEntry x + uptoBulkEntries r
def uptoBulkEntry {H : Type} : Lit × DataW H → Nat
  | (.string bytes, d) => bytes.length + uptoBulk d + 1
  | (_, d) => uptoBulk d + 1
 end
def uptoSmall : (H : Type) → List (DataW H) → Bool := fun _ ds => decide (uptoBulkAll ds ≤ 1048576)
def OpenSpec.upto (s : _root_.Go.ChangeSpec) : _root_.Go.OpenSpec := { _root_.Go.OpenSpec.ofChange s with cond := some uptoSmall }

/-- 'ancepslaw16.WeightOptions', WHERE WHAT IT READS IS OF BULK AT MOST 1048576: true; the input reads as it did. -/
def weightOptionsUptoRow : OpenClaim := { program := "ytngkconohhikpaa", sum := "9d8f4b795904462e7883b52b94edcbfdfd8824319b5582b204dd07f56f085020", func := "anceps/ancepslaw16.WeightOptions", spec := "weightOptions", apart := false, narrowed := true }
def WeightOptionsUptoSaid : Prop := weightOptionsUptoRow.holds Try.pinned (OpenSpec.upto weightOptionsSpec)

/-- 'ancepslaw16.WeightFinal', WHERE WHAT IT READS IS OF BULK AT MOST 1048576: true; the input reads as it did. -/
def weightFinalUptoRow : OpenClaim := { program := "ytngkconohhikpaa", sum := "9d8f4b795904462e7883b52b94edcbfdfd8824319b5582b204dd07f56f085020", func := "anceps/ancepslaw16.WeightFinal", spec := "weightFinal", apart := false, narrowed := true }
def WeightFinalUptoSaid : Prop := weightFinalUptoRow.holds Try.pinned (OpenSpec.upto weightFinalSpec)

/-- 'ancepslaw16.WeightOnce', WHERE WHAT IT READS IS OF BULK AT MOST 1048576: true; the input reads as it did. -/
def weightOnceUptoRow : OpenClaim := { program := "ytngkconohhikpaa", sum := "9d8f4b795904462e7883b52b94edcbfdfd8824319b5582b204dd07f56f085020", func := "anceps/ancepslaw16.WeightOnce", spec := "weightOnce", apart := false, narrowed := true }
def WeightOnceUptoSaid : Prop := weightOnceUptoRow.holds Try.pinned (OpenSpec.upto weightOnceSpec)

/-- 'ancepslaw16.WeightPick', WHERE WHAT IT READS IS OF BULK AT MOST 1048576: true; the input reads as it did. -/
def weightPickUptoRow : OpenClaim := { program := "ytngkconohhikpaa", sum := "9d8f4b795904462e7883b52b94edcbfdfd8824319b5582b204dd07f56f085020", func := "anceps/ancepslaw16.WeightPick", spec := "weightPick", unfollowed := true, recurses := true, apart := false, narrowed := true }
def WeightPickUptoSaid : Prop := weightPickUptoRow.holds Try.pinned (OpenSpec.upto weightPickSpec)

/-- 'ancepslaw16.WeightTexts', WHERE WHAT IT READS IS OF BULK AT MOST 1048576: true; the input reads as it did. -/
def weightTextsUptoRow : OpenClaim := { program := "ytngkconohhikpaa", sum := "9d8f4b795904462e7883b52b94edcbfdfd8824319b5582b204dd07f56f085020", func := "anceps/ancepslaw16.WeightTexts", spec := "weightTexts", apart := false, narrowed := true }
def WeightTextsUptoSaid : Prop := weightTextsUptoRow.holds Try.pinned (OpenSpec.upto weightTextsSpec)

/-- 'ancepslaw16.WeightAlways', WHERE WHAT IT READS IS OF BULK AT MOST 1048576: true; the input reads as it did. -/
def weightAlwaysUptoRow : OpenClaim := { program := "ytngkconohhikpaa", sum := "9d8f4b795904462e7883b52b94edcbfdfd8824319b5582b204dd07f56f085020", func := "anceps/ancepslaw16.WeightAlways", spec := "weightAlways", apart := false, narrowed := true }
def WeightAlwaysUptoSaid : Prop := weightAlwaysUptoRow.holds Try.pinned (OpenSpec.upto weightAlwaysSpec)

/-- 'ancepslaw16.WeightOpen', WHERE WHAT IT READS IS OF BULK AT MOST 1048576: true; the input reads as it did. -/
def weightOpenUptoRow : OpenClaim := { program := "ytngkconohhikpaa", sum := "9d8f4b795904462e7883b52b94edcbfdfd8824319b5582b204dd07f56f085020", func := "anceps/ancepslaw16.WeightOpen", spec := "weightOpen", apart := false, narrowed := true }
def WeightOpenUptoSaid : Prop := weightOpenUptoRow.holds Try.pinned (OpenSpec.upto weightOpenSpec)

/-- 'ancepslaw16.WeightAllowed', WHERE WHAT IT READS IS OF BULK AT MOST 1048576: true; the input reads as it did. -/
def weightAllowedUptoRow : OpenClaim := { program := "ytngkconohhikpaa", sum := "9d8f4b795904462e7883b52b94edcbfdfd8824319b5582b204dd07f56f085020", func := "anceps/ancepslaw16.WeightAllowed", spec := "weightAllowed", apart := false, narrowed := true }
def WeightAllowedUptoSaid : Prop := weightAllowedUptoRow.holds Try.pinned (OpenSpec.upto weightAllowedSpec)

end Rows
end Go.Proofs.Ytngkconohhikpaa
