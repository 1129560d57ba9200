/-
  No cell of these rows narrows 'for every input' (looked for: loops, veiled, ifaces, maps, wideKeys, modest, calm, conditions, laid).
  DERIVED. THE GIVEN ROWS OF THIS SEAT. 8 by the template 'for every input the law returns true; each argument reads behind the call as it read before'; 0 by the template 'total and deterministic' (their statements: YtooiookccchmeaaGreatTotals.lean).
  GIVEN WITH THE SEED: the statements are not yours to turn. If you find one false, say at which input.
  Laid BY PROGRAM, IN A SANDBOX (cutbox-rows.mjs): the forced cells as the released guide's own fill.sh prints them over the translation ab331ef26b6318b2… (all of the seat's roots in one cut). By AI agents, Wed Nov 11 2026. No macro, syntax, notation, axiom, sorry.
-/
import Derived.Test.YtooiookccchmeaaGreatChecked
import GoSem.Claim
import GoSem.ClaimJoined
import GoSem.ClaimMapViews
import Derived.JoinedTies
import Derived.KernelRfl
namespace Go.Proofs.YtooiookccchmeaaGreat
/- THE CELL 'sum', in the pinned program and in every row, IS THE sha256 OF THE DUMP (.gsa) THAT YtooiookccchmeaaGreatProg.lean LOADS. Nothing in Lean hashes anything: it is a label: what it is worth is what the hold of that sum in a sandbox is worth. -/
noncomputable def Tryz.pinned : Pinned := { name := "ytooiookccchmeaagreat", sum := "ab331ef26b6318b2a40d53b0040bd9d4cadca58d8f6074ad6db851ce3b1577cd", checked := Tryz.checked }
namespace Rows
def none {H : Type} : Left H := { results := [], args := [] }

/-- 'ancepslaw13.DivisionBest': WHATEVER THE INPUT: true; the input reads as it did. -/
def divisionBestSpec : ChangeSpec := { name := "divisionBest", fn := fun _ => fun
  | [d1, d2] => { results := [.lit (.bool true)], args := [d1, d2] }
  | _ => none }
def divisionBestRow : OpenClaim := { program := "ytooiookccchmeaagreat", sum := "ab331ef26b6318b2a40d53b0040bd9d4cadca58d8f6074ad6db851ce3b1577cd", func := "anceps/ancepslaw13.DivisionBest", spec := "divisionBest", inPlace := ["internal/bytealg.IndexByteString", "internal/abi.NoEscape", "internal/bytealg.MakeNoZero"], unfollowed := true, recurses := true, plainKeys := false, apart := false }
def DivisionBestSaid : Prop := divisionBestRow.holds Tryz.pinned (OpenSpec.ofChange divisionBestSpec)

/-- ITS FALSE NEIGHBOUR: 'it returns false'. Refute it at one input. -/
def divisionBestWrong : ChangeSpec := { name := "divisionBest", fn := fun _ => fun
  | [d1, d2] => { results := [.lit (.bool false)], args := [d1, d2] }
  | _ => none }
def DivisionBestWrongFalsely : Prop := divisionBestRow.holds Tryz.pinned (OpenSpec.ofChange divisionBestWrong)

/-- 'ancepslaw13.DivisionAll': WHATEVER THE INPUT: true; the input reads as it did. -/
def divisionAllSpec : ChangeSpec := { name := "divisionAll", fn := fun _ => fun
  | [d1, d2] => { results := [.lit (.bool true)], args := [d1, d2] }
  | _ => none }
def divisionAllRow : OpenClaim := { program := "ytooiookccchmeaagreat", sum := "ab331ef26b6318b2a40d53b0040bd9d4cadca58d8f6074ad6db851ce3b1577cd", func := "anceps/ancepslaw13.DivisionAll", spec := "divisionAll", inPlace := ["internal/bytealg.IndexByteString", "internal/abi.NoEscape", "internal/bytealg.MakeNoZero"], unfollowed := true, recurses := true, plainKeys := false, apart := false }
def DivisionAllSaid : Prop := divisionAllRow.holds Tryz.pinned (OpenSpec.ofChange divisionAllSpec)

/-- ITS FALSE NEIGHBOUR: 'it returns false'. Refute it at one input. -/
def divisionAllWrong : ChangeSpec := { name := "divisionAll", fn := fun _ => fun
  | [d1, d2] => { results := [.lit (.bool false)], args := [d1, d2] }
  | _ => none }
def DivisionAllWrongFalsely : Prop := divisionAllRow.holds Tryz.pinned (OpenSpec.ofChange divisionAllWrong)

/-- 'ancepslaw13.DivisionReached': WHATEVER THE INPUT: true; the input reads as it did. -/
def divisionReachedSpec : ChangeSpec := { name := "divisionReached", fn := fun _ => fun
  | [d1, d2] => { results := [.lit (.bool true)], args := [d1, d2] }
  | _ => none }
def divisionReachedRow : OpenClaim := { program := "ytooiookccchmeaagreat", sum := "ab331ef26b6318b2a40d53b0040bd9d4cadca58d8f6074ad6db851ce3b1577cd", func := "anceps/ancepslaw13.DivisionReached", spec := "divisionReached", inPlace := ["internal/bytealg.IndexByteString", "internal/abi.NoEscape", "internal/bytealg.MakeNoZero"], unfollowed := true, recurses := true, plainKeys := false, apart := false }
def DivisionReachedSaid : Prop := divisionReachedRow.holds Tryz.pinned (OpenSpec.ofChange divisionReachedSpec)

/-- ITS FALSE NEIGHBOUR: 'it returns false'. Refute it at one input. -/
def divisionReachedWrong : ChangeSpec := { name := "divisionReached", fn := fun _ => fun
  | [d1, d2] => { results := [.lit (.bool false)], args := [d1, d2] }
  | _ => none }
def DivisionReachedWrongFalsely : Prop := divisionReachedRow.holds Tryz.pinned (OpenSpec.ofChange divisionReachedWrong)

/-- 'ancepslaw13.DivisionMany': WHATEVER THE INPUT: true; the input reads as it did. -/
def divisionManySpec : ChangeSpec := { name := "divisionMany", fn := fun _ => fun
  | [d1, d2] => { results := [.lit (.bool true)], args := [d1, d2] }
  | _ => none }
def divisionManyRow : OpenClaim := { program := "ytooiookccchmeaagreat", sum := "ab331ef26b6318b2a40d53b0040bd9d4cadca58d8f6074ad6db851ce3b1577cd", func := "anceps/ancepslaw13.DivisionMany", spec := "divisionMany", inPlace := ["internal/bytealg.IndexByteString", "internal/abi.NoEscape", "internal/bytealg.MakeNoZero"], unfollowed := true, recurses := true, plainKeys := false, apart := false }
def DivisionManySaid : Prop := divisionManyRow.holds Tryz.pinned (OpenSpec.ofChange divisionManySpec)

/-- ITS FALSE NEIGHBOUR: 'it returns false'. Refute it at one input. -/
def divisionManyWrong : ChangeSpec := { name := "divisionMany", fn := fun _ => fun
  | [d1, d2] => { results := [.lit (.bool false)], args := [d1, d2] }
  | _ => none }
def DivisionManyWrongFalsely : Prop := divisionManyRow.holds Tryz.pinned (OpenSpec.ofChange divisionManyWrong)

/-- 'ancepslaw13.DivisionSounds': WHATEVER THE INPUT: true; the input reads as it did. -/
def divisionSoundsSpec : ChangeSpec := { name := "divisionSounds", fn := fun _ => fun
  | [d1, d2] => { results := [.lit (.bool true)], args := [d1, d2] }
  | _ => none }
def divisionSoundsRow : OpenClaim := { program := "ytooiookccchmeaagreat", sum := "ab331ef26b6318b2a40d53b0040bd9d4cadca58d8f6074ad6db851ce3b1577cd", func := "anceps/ancepslaw13.DivisionSounds", spec := "divisionSounds", inPlace := ["internal/bytealg.IndexByteString", "internal/abi.NoEscape", "internal/bytealg.MakeNoZero"], unfollowed := true, recurses := true, plainKeys := false, apart := false }
def DivisionSoundsSaid : Prop := divisionSoundsRow.holds Tryz.pinned (OpenSpec.ofChange divisionSoundsSpec)

/-- ITS FALSE NEIGHBOUR: 'it returns false'. Refute it at one input. -/
def divisionSoundsWrong : ChangeSpec := { name := "divisionSounds", fn := fun _ => fun
  | [d1, d2] => { results := [.lit (.bool false)], args := [d1, d2] }
  | _ => none }
def DivisionSoundsWrongFalsely : Prop := divisionSoundsRow.holds Tryz.pinned (OpenSpec.ofChange divisionSoundsWrong)

/-- 'ancepslaw13.DivisionCheck': WHATEVER THE INPUT: true; the input reads as it did. -/
def divisionCheckSpec : ChangeSpec := { name := "divisionCheck", fn := fun _ => fun
  | [d1, d2, d3] => { results := [.lit (.bool true)], args := [d1, d2, d3] }
  | _ => none }
def divisionCheckRow : OpenClaim := { program := "ytooiookccchmeaagreat", sum := "ab331ef26b6318b2a40d53b0040bd9d4cadca58d8f6074ad6db851ce3b1577cd", func := "anceps/ancepslaw13.DivisionCheck", spec := "divisionCheck", inPlace := ["internal/bytealg.IndexByteString", "internal/abi.NoEscape", "internal/bytealg.MakeNoZero"], unfollowed := true, recurses := true, plainKeys := false, apart := false }
def DivisionCheckSaid : Prop := divisionCheckRow.holds Tryz.pinned (OpenSpec.ofChange divisionCheckSpec)

/-- ITS FALSE NEIGHBOUR: 'it returns false'. Refute it at one input. -/
def divisionCheckWrong : ChangeSpec := { name := "divisionCheck", fn := fun _ => fun
  | [d1, d2, d3] => { results := [.lit (.bool false)], args := [d1, d2, d3] }
  | _ => none }
def DivisionCheckWrongFalsely : Prop := divisionCheckRow.holds Tryz.pinned (OpenSpec.ofChange divisionCheckWrong)

/-- 'ancepslaw13.DivisionMore': WHATEVER THE INPUT: true; the input reads as it did. -/
def divisionMoreSpec : ChangeSpec := { name := "divisionMore", fn := fun _ => fun
  | [d1, d2, d3] => { results := [.lit (.bool true)], args := [d1, d2, d3] }
  | _ => none }
def divisionMoreRow : OpenClaim := { program := "ytooiookccchmeaagreat", sum := "ab331ef26b6318b2a40d53b0040bd9d4cadca58d8f6074ad6db851ce3b1577cd", func := "anceps/ancepslaw13.DivisionMore", spec := "divisionMore", inPlace := ["internal/bytealg.IndexByteString", "internal/abi.NoEscape", "internal/bytealg.MakeNoZero"], unfollowed := true, recurses := true, plainKeys := false, apart := false }
def DivisionMoreSaid : Prop := divisionMoreRow.holds Tryz.pinned (OpenSpec.ofChange divisionMoreSpec)

/-- ITS FALSE NEIGHBOUR: 'it returns false'. Refute it at one input. -/
def divisionMoreWrong : ChangeSpec := { name := "divisionMore", fn := fun _ => fun
  | [d1, d2, d3] => { results := [.lit (.bool false)], args := [d1, d2, d3] }
  | _ => none }
def DivisionMoreWrongFalsely : Prop := divisionMoreRow.holds Tryz.pinned (OpenSpec.ofChange divisionMoreWrong)

/-- 'ancepslaw13.DivisionTexts': WHATEVER THE INPUT: true; the input reads as it did. -/
def divisionTextsSpec : ChangeSpec := { name := "divisionTexts", fn := fun _ => fun
  | [d1, d2] => { results := [.lit (.bool true)], args := [d1, d2] }
  | _ => none }
def divisionTextsRow : OpenClaim := { program := "ytooiookccchmeaagreat", sum := "ab331ef26b6318b2a40d53b0040bd9d4cadca58d8f6074ad6db851ce3b1577cd", func := "anceps/ancepslaw13.DivisionTexts", spec := "divisionTexts", inPlace := ["internal/bytealg.IndexByteString", "internal/abi.NoEscape", "internal/bytealg.MakeNoZero"], unfollowed := true, recurses := true, plainKeys := false, apart := false }
def DivisionTextsSaid : Prop := divisionTextsRow.holds Tryz.pinned (OpenSpec.ofChange divisionTextsSpec)

/-- ITS FALSE NEIGHBOUR: 'it returns false'. Refute it at one input. -/
def divisionTextsWrong : ChangeSpec := { name := "divisionTexts", fn := fun _ => fun
  | [d1, d2] => { results := [.lit (.bool false)], args := [d1, d2] }
  | _ => none }
def DivisionTextsWrongFalsely : Prop := divisionTextsRow.holds Tryz.pinned (OpenSpec.ofChange divisionTextsWrong)

/- THE SECOND FORM. 'bulk': how many values and letters a reading holds, each counted each time it is reached (what is shared counts as often as it is met; a slice's spare places count too). A statement '..UptoSaid' is the law's where the arguments, and the package variables that the reading takes, are together of bulk at most 1048576: NARROWER than '..Said'. Prove '..Said' where nothing that the law and all that it calls make is longer than what came in: it says more and counts as full. Else prove '..UptoSaid'. A law counts once. -/
mutual
def uptoBulk {H : Type} : DataW H → Nat
  | .lit (.string bytes) => bytes.length + 1
  | .lit _ => 1
  | .nil => 1
  | .ptr d => uptoBulk d + 1
  | .slice elems spare => uptoBulkAll elems + uptoBulkAll spare + 1
  | .agg parts => uptoBulkAll parts + 1
  | .iface _ d => uptoBulk d + 1
  | .map entries => uptoBulkEntries entries + 1
  | .held _ => 1
def uptoBulkAll {H : Type} : List (DataW H) → Nat
  | [] => 0
  | d :: r => uptoBulk d + uptoBulkAll r
def uptoBulkEntries {H : Type} : List (Lit × DataW H) → Nat
  | [] => 0
  | x :: r => uptoBulkEntry x + uptoBulkEntries r
def uptoBulkEntry {H : Type} : Lit × DataW H → Nat
  | (.string bytes, d) => bytes.length + uptoBulk d + 1
  | (_, d) => uptoBulk d + 1
 end
def uptoSmall : (H : Type) → List (DataW H) → Bool := fun _ ds => decide (uptoBulkAll ds ≤ 1048576)
def OpenSpec.upto (s : _root_.Go.ChangeSpec) : _root_.Go.OpenSpec := { _root_.Go.OpenSpec.ofChange s with cond := some uptoSmall }

/-- 'ancepslaw13.DivisionBest', WHERE WHAT IT READS IS OF BULK AT MOST 1048576: true; the input reads as it did. -/
def divisionBestUptoRow : OpenClaim := { program := "ytooiookccchmeaagreat", sum := "ab331ef26b6318b2a40d53b0040bd9d4cadca58d8f6074ad6db851ce3b1577cd", func := "anceps/ancepslaw13.DivisionBest", spec := "divisionBest", inPlace := ["internal/bytealg.IndexByteString", "internal/abi.NoEscape", "internal/bytealg.MakeNoZero"], unfollowed := true, recurses := true, plainKeys := false, apart := false, narrowed := true }
def DivisionBestUptoSaid : Prop := divisionBestUptoRow.holds Tryz.pinned (OpenSpec.upto divisionBestSpec)

/-- 'ancepslaw13.DivisionAll', WHERE WHAT IT READS IS OF BULK AT MOST 1048576: true; the input reads as it did. -/
def divisionAllUptoRow : OpenClaim := { program := "ytooiookccchmeaagreat", sum := "ab331ef26b6318b2a40d53b0040bd9d4cadca58d8f6074ad6db851ce3b1577cd", func := "anceps/ancepslaw13.DivisionAll", spec := "divisionAll", inPlace := ["internal/bytealg.IndexByteString", "internal/abi.NoEscape", "internal/bytealg.MakeNoZero"], unfollowed := true, recurses := true, plainKeys := false, apart := false, narrowed := true }
def DivisionAllUptoSaid : Prop := divisionAllUptoRow.holds Tryz.pinned (OpenSpec.upto divisionAllSpec)

/-- 'ancepslaw13.DivisionReached', WHERE WHAT IT READS IS OF BULK AT MOST 1048576: true; the input reads as it did. -/
def divisionReachedUptoRow : OpenClaim := { program := "ytooiookccchmeaagreat", sum := "ab331ef26b6318b2a40d53b0040bd9d4cadca58d8f6074ad6db851ce3b1577cd", func := "anceps/ancepslaw13.DivisionReached", spec := "divisionReached", inPlace := ["internal/bytealg.IndexByteString", "internal/abi.NoEscape", "internal/bytealg.MakeNoZero"], unfollowed := true, recurses := true, plainKeys := false, apart := false, narrowed := true }
def DivisionReachedUptoSaid : Prop := divisionReachedUptoRow.holds Tryz.pinned (OpenSpec.upto divisionReachedSpec)

/-- 'ancepslaw13.DivisionMany', WHERE WHAT IT READS IS OF BULK AT MOST 1048576: true; the input reads as it did. -/
def divisionManyUptoRow : OpenClaim := { program := "ytooiookccchmeaagreat", sum := "ab331ef26b6318b2a40d53b0040bd9d4cadca58d8f6074ad6db851ce3b1577cd", func := "anceps/ancepslaw13.DivisionMany", spec := "divisionMany", inPlace := ["internal/bytealg.IndexByteString", "internal/abi.NoEscape", "internal/bytealg.MakeNoZero"], unfollowed := true, recurses := true, plainKeys := false, apart := false, narrowed := true }
def DivisionManyUptoSaid : Prop := divisionManyUptoRow.holds Tryz.pinned (OpenSpec.upto divisionManySpec)

/-- 'ancepslaw13.DivisionSounds', WHERE WHAT IT READS IS OF BULK AT MOST 1048576: true; the input reads as it did. -/
def divisionSoundsUptoRow : OpenClaim := { program := "ytooiookccchmeaagreat", sum := "ab331ef26b6318b2a40d53b0040bd9d4cadca58d8f6074ad6db851ce3b1577cd", func := "anceps/ancepslaw13.DivisionSounds", spec := "divisionSounds", inPlace := ["internal/bytealg.IndexByteString", "internal/abi.NoEscape", "internal/bytealg.MakeNoZero"], unfollowed := true, recurses := true, plainKeys := false, apart := false, narrowed := true }
def DivisionSoundsUptoSaid : Prop := divisionSoundsUptoRow.holds Tryz.pinned (OpenSpec.upto divisionSoundsSpec)

/-- 'ancepslaw13.DivisionCheck', WHERE WHAT IT READS IS OF BULK AT MOST 1048576: true; the input reads as it did. -/
def divisionCheckUptoRow : OpenClaim := { program := "ytooiookccchmeaagreat", sum := "ab331ef26b6318b2a40d53b0040bd9d4cadca58d8f6074ad6db851ce3b1577cd", func := "anceps/ancepslaw13.DivisionCheck", spec := "divisionCheck", inPlace := ["internal/bytealg.IndexByteString", "internal/abi.NoEscape", "internal/bytealg.MakeNoZero"], unfollowed := true, recurses := true, plainKeys := false, apart := false, narrowed := true }
def DivisionCheckUptoSaid : Prop := divisionCheckUptoRow.holds Tryz.pinned (OpenSpec.upto divisionCheckSpec)

/-- 'ancepslaw13.DivisionMore', WHERE WHAT IT READS IS OF BULK AT MOST 1048576: true; the input reads as it did. -/
def divisionMoreUptoRow : OpenClaim := { program := "ytooiookccchmeaagreat", sum := "ab331ef26b6318b2a40d53b0040bd9d4cadca58d8f6074ad6db851ce3b1577cd", func := "anceps/ancepslaw13.DivisionMore", spec := "divisionMore", inPlace := ["internal/bytealg.IndexByteString", "internal/abi.NoEscape", "internal/bytealg.MakeNoZero"], unfollowed := true, recurses := true, plainKeys := false, apart := false, narrowed := true }
def DivisionMoreUptoSaid : Prop := divisionMoreUptoRow.holds Tryz.pinned (OpenSpec.upto divisionMoreSpec)

/-- 'ancepslaw13.DivisionTexts', WHERE WHAT IT READS IS OF BULK AT MOST 1048576: true; the input reads as it did. -/
def divisionTextsUptoRow : OpenClaim := { program := "ytooiookccchmeaagreat", sum := "ab331ef26b6318b2a40d53b0040bd9d4cadca58d8f6074ad6db851ce3b1577cd", func := "anceps/ancepslaw13.DivisionTexts", spec := "divisionTexts", inPlace := ["internal/bytealg.IndexByteString", "internal/abi.NoEscape", "internal/bytealg.MakeNoZero"], unfollowed := true, recurses := true, plainKeys := false, apart := false, narrowed := true }
def DivisionTextsUptoSaid : Prop := divisionTextsUptoRow.holds Tryz.pinned (OpenSpec.upto divisionTextsSpec)

end Rows
end Go.Proofs.YtooiookccchmeaaGreat
