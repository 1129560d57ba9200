/- Printed by an own program for this claim: the machine's code of functions, or their typed forms with their equations; no conditions. -/
import Derived.Test.YtnobiophckdjfaaFwLs51
import Derived.Test.YtnobiophckdjfaaFwB5
import Derived.Test.YtnobiophckdjfaaProg
set_option linter.unusedVariables false
set_option linter.unusedSimpArgs false
namespace Go.Fw.L51
open Go Go.Fw Go.Proofs
theorem ok9 : okF Try.prog 9 d9 = true := by decide +kernel
theorem ok11 : okF Try.prog 11 d11 = true := by decide +kernel
theorem ok13 : okF Try.prog 13 d13 = true := by decide +kernel
theorem ok19 : okF Try.prog 19 d19 = true := by decide +kernel
theorem ok21 : okF Try.prog 21 d21 = true := by decide +kernel
theorem ok22 : okF Try.prog 22 d22 = true := by decide +kernel
theorem ok23 : okF Try.prog 23 d23 = true := by decide +kernel
theorem ok25 : okF Try.prog 25 d25 = true := by decide +kernel
theorem ok26 : okF Try.prog 26 d26 = true := by decide +kernel
theorem ok27 : okF Try.prog 27 d27 = true := by decide +kernel
theorem ok31 : okF Try.prog 31 d31 = true := by decide +kernel
theorem ok32 : okF Try.prog 32 d32 = true := by decide +kernel
theorem ok33 : okF Try.prog 33 d33 = true := by decide +kernel
theorem ok34 : okF Try.prog 34 d34 = true := by decide +kernel
theorem ok35 : okF Try.prog 35 d35 = true := by decide +kernel
theorem ok40 : okF Try.prog 40 d40 = true := by decide +kernel
theorem ok41 : okF Try.prog 41 d41 = true := by decide +kernel
theorem ok43 : okF Try.prog 43 d43 = true := by decide +kernel
theorem ok44 : okF Try.prog 44 d44 = true := by decide +kernel
theorem ok45 : okF Try.prog 45 d45 = true := by decide +kernel
theorem ok46 : okF Try.prog 46 d46 = true := by decide +kernel
theorem ok49 : okF Try.prog 49 d49 = true := by decide +kernel
theorem ok50 : okF Try.prog 50 d50 = true := by decide +kernel
theorem ok51 : okF Try.prog 51 d51 = true := by decide +kernel
theorem ok52 : okF Try.prog 52 d52 = true := by decide +kernel
theorem ok53 : okF Try.prog 53 d53 = true := by decide +kernel
theorem ok54 : okF Try.prog 54 d54 = true := by decide +kernel
theorem ok56 : okF Try.prog 56 d56 = true := by decide +kernel
theorem ok57 : okF Try.prog 57 d57 = true := by decide +kernel
theorem ok58 : okF Try.prog 58 d58 = true := by decide +kernel
theorem ok59 : okF Try.prog 59 d59 = true := by decide +kernel
theorem ok60 : okF Try.prog 60 d60 = true := by decide +kernel
theorem ok61 : okF Try.prog 61 d61 = true := by decide +kernel
theorem ok62 : okF Try.prog 62 d62 = true := by decide +kernel
theorem ok63 : okF Try.prog 63 d63 = true := by decide +kernel
theorem ok64 : okF Try.prog 64 d64 = true := by decide +kernel
theorem ok67 : okF Try.prog 67 d67 = true := by decide +kernel
theorem ok68 : okF Try.prog 68 d68 = true := by decide +kernel
theorem ok69 : okF Try.prog 69 d69 = true := by decide +kernel
theorem ok70 : okF Try.prog 70 d70 = true := by decide +kernel
theorem ok73 : okF Try.prog 73 d73 = true := by decide +kernel
theorem ok74 : okF Try.prog 74 d74 = true := by decide +kernel
theorem ok75 : okF Try.prog 75 d75 = true := by decide +kernel
theorem ok76 : okF Try.prog 76 d76 = true := by decide +kernel
theorem ok77 : okF Try.prog 77 d77 = true := by decide +kernel
theorem ok78 : okF Try.prog 78 d78 = true := by decide +kernel
theorem ok81 : okF Try.prog 81 d81 = true := by decide +kernel
theorem ok82 : okF Try.prog 82 d82 = true := by decide +kernel
theorem ok83 : okF Try.prog 83 d83 = true := by decide +kernel
theorem ok84 : okF Try.prog 84 d84 = true := by decide +kernel
theorem ok85 : okF Try.prog 85 d85 = true := by decide +kernel
theorem ok86 : okF Try.prog 86 d86 = true := by decide +kernel
theorem ok87 : okF Try.prog 87 d87 = true := by decide +kernel
theorem ok88 : okF Try.prog 88 d88 = true := by decide +kernel
theorem ok89 : okF Try.prog 89 d89 = true := by decide +kernel
theorem ok90 : okF Try.prog 90 d90 = true := by decide +kernel
theorem ok91 : okF Try.prog 91 d91 = true := by decide +kernel
theorem ok92 : okF Try.prog 92 d92 = true := by decide +kernel
theorem ok94 : okF Try.prog 94 d94 = true := by decide +kernel
theorem ok95 : okF Try.prog 95 d95 = true := by decide +kernel
theorem ok96 : okF Try.prog 96 d96 = true := by decide +kernel
theorem ok97 : okF Try.prog 97 d97 = true := by decide +kernel
theorem ok98 : okF Try.prog 98 d98 = true := by decide +kernel
theorem ok99 : okF Try.prog 99 d99 = true := by decide +kernel
theorem ok100 : okF Try.prog 100 d100 = true := by decide +kernel
theorem ok101 : okF Try.prog 101 d101 = true := by decide +kernel
theorem ok102 : okF Try.prog 102 d102 = true := by decide +kernel
theorem ok103 : okF Try.prog 103 d103 = true := by decide +kernel
theorem ok105 : okF Try.prog 105 d105 = true := by decide +kernel
theorem ok106 : okF Try.prog 106 d106 = true := by decide +kernel
theorem ok107 : okF Try.prog 107 d107 = true := by decide +kernel
theorem ok108 : okF Try.prog 108 d108 = true := by decide +kernel
theorem ok109 : okF Try.prog 109 d109 = true := by decide +kernel
theorem ok110 : okF Try.prog 110 d110 = true := by decide +kernel
theorem ok111 : okF Try.prog 111 d111 = true := by decide +kernel
theorem ok112 : okF Try.prog 112 d112 = true := by decide +kernel
theorem ok113 : okF Try.prog 113 d113 = true := by decide +kernel
theorem ok114 : okF Try.prog 114 d114 = true := by decide +kernel
theorem ok115 : okF Try.prog 115 d115 = true := by decide +kernel
theorem ok116 : okF Try.prog 116 d116 = true := by decide +kernel
theorem ok118 : okF Try.prog 118 d118 = true := by decide +kernel
theorem ok119 : okF Try.prog 119 d119 = true := by decide +kernel
theorem tab_ok : ∀ (f : FuncId) (fd : FD), table f = some fd → okF Try.prog f fd = true := by
 intro f fd h
 unfold table at h
 split at h
 ·cases h; exact ok9
 ·cases h; exact ok11
 ·cases h; exact ok13
 ·cases h; exact ok19
 ·cases h; exact ok21
 ·cases h; exact ok22
 ·cases h; exact ok23
 ·cases h; exact ok25
 ·cases h; exact ok26
 ·cases h; exact ok27
 ·cases h; exact ok31
 ·cases h; exact ok32
 ·cases h; exact ok33
 ·cases h; exact ok34
 ·cases h; exact ok35
 ·cases h; exact ok40
 ·cases h; exact ok41
 ·cases h; exact ok43
 ·cases h; exact ok44
 ·cases h; exact ok45
 ·cases h; exact ok46
 ·cases h; exact ok49
 ·cases h; exact ok50
 ·cases h; exact ok51
 ·cases h; exact ok52
 ·cases h; exact ok53
 ·cases h; exact ok54
 ·cases h; exact ok56
 ·cases h; exact ok57
 ·cases h; exact ok58
 ·cases h; exact ok59
 ·cases h; exact ok60
 ·cases h; exact ok61
 ·cases h; exact ok62
 ·cases h; exact ok63
 ·cases h; exact ok64
 ·cases h; exact ok67
 ·cases h; exact ok68
 ·cases h; exact ok69
 ·cases h; exact ok73
 ·cases h; exact ok74
 ·cases h; exact ok75
 ·cases h; exact ok76
 ·cases h; exact ok77
 ·cases h; exact ok78
 ·cases h; exact ok81
 ·cases h; exact ok82
 ·cases h; exact ok83
 ·cases h; exact ok84
 ·cases h; exact ok85
 ·cases h; exact ok86
 ·cases h; exact ok87
 ·cases h; exact ok88
 ·cases h; exact ok89
 ·cases h; exact ok90
 ·cases h; exact ok91
 ·cases h; exact ok92
 ·cases h; exact ok94
 ·cases h; exact ok95
 ·cases h; exact ok96
 ·cases h; exact ok97
 ·cases h; exact ok98
 ·cases h; exact ok99
 ·cases h; exact ok100
 ·cases h; exact ok101
 ·cases h; exact ok102
 ·cases h; exact ok103
 ·cases h; exact ok105
 ·cases h; exact ok106
 ·cases h; exact ok107
 ·cases h; exact ok108
 ·cases h; exact ok109
 ·cases h; exact ok110
 ·cases h; exact ok111
 ·cases h; exact ok112
 ·cases h; exact ok113
 ·cases h; exact ok114
 ·cases h; exact ok115
 ·cases h; exact ok116
 ·cases h; exact ok118
 ·cases h; exact ok119
 ·cases h
end Go.Fw.L51
