import Derived.Test.YtngkconohhikpaaFwL16
import Derived.Test.YtngkconohhikpaaFwS24
import Derived.Test.YtngkconohhikpaaProg
set_option linter.unusedVariables false
set_option linter.unusedSimpArgs false
namespace Go.Fw.L16
open Go Go.Fw
theorem ok5 : okF Go.Proofs.Try.prog 5 d5 = true := by decide +kernel
theorem ok6 : okF Go.Proofs.Try.prog 6 d6 = true := by decide +kernel
theorem ok8 : okF Go.Proofs.Try.prog 8 d8 = true := by decide +kernel
theorem ok9 : okF Go.Proofs.Try.prog 9 d9 = true := by decide +kernel
theorem ok10 : okF Go.Proofs.Try.prog 10 d10 = true := by decide +kernel
theorem ok11 : okF Go.Proofs.Try.prog 11 d11 = true := by decide +kernel
theorem ok12 : okF Go.Proofs.Try.prog 12 d12 = true := by decide +kernel
theorem ok14 : okF Go.Proofs.Try.prog 14 d14 = true := by decide +kernel
theorem ok15 : okF Go.Proofs.Try.prog 15 d15 = true := by decide +kernel
theorem ok17 : okF Go.Proofs.Try.prog 17 d17 = true := by decide +kernel
theorem ok18 : okF Go.Proofs.Try.prog 18 d18 = true := by decide +kernel
theorem ok19 : okF Go.Proofs.Try.prog 19 d19 = true := by decide +kernel
theorem ok20 : okF Go.Proofs.Try.prog 20 d20 = true := by decide +kernel
theorem ok25 : okF Go.Proofs.Try.prog 25 d25 = true := by decide +kernel
theorem ok26 : okF Go.Proofs.Try.prog 26 d26 = true := by decide +kernel
theorem ok29 : okF Go.Proofs.Try.prog 29 d29 = true := by decide +kernel
theorem ok30 : okF Go.Proofs.Try.prog 30 d30 = true := by decide +kernel
theorem ok31 : okF Go.Proofs.Try.prog 31 d31 = true := by decide +kernel
theorem ok32 : okF Go.Proofs.Try.prog 32 d32 = true := by decide +kernel
theorem ok35 : okF Go.Proofs.Try.prog 35 d35 = true := by decide +kernel
theorem ok36 : okF Go.Proofs.Try.prog 36 d36 = true := by decide +kernel
theorem ok40 : okF Go.Proofs.Try.prog 40 d40 = true := by decide +kernel
theorem ok41 : okF Go.Proofs.Try.prog 41 d41 = true := by decide +kernel
theorem ok42 : okF Go.Proofs.Try.prog 42 d42 = true := by decide +kernel
theorem tab_ok : ∀ (f : FuncId) (fd : FD), table f = some fd → okF Go.Proofs.Try.prog f fd = true := by
  intro f fd h
  unfold table at h
  split at h
  · cases h; exact ok5
  · cases h; exact ok6
  · cases h; exact ok8
  · cases h; exact ok9
  · cases h; exact ok10
  · cases h; exact ok11
  · cases h; exact ok12
  · cases h; exact ok14
  · cases h; exact ok15
  · cases h; exact ok17
  · cases h; exact ok18
  · cases h; exact ok19
  · cases h; exact ok20
  · cases h; exact ok25
  · cases h; exact ok26
  · cases h; exact ok29
  · cases h; exact ok30
  · cases h; exact ok31
  · cases h; exact ok32
  · cases h; exact ok35
  · cases h; exact ok36
  · cases h; exact ok40
  · cases h; exact ok41
  · cases h; exact ok42
  · cases h
end Go.Fw.L16
