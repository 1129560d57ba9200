/- Own work. -/
import Derived.Test.YtbdlccajpcomjaaFwLo17
import Derived.Test.YtbdlccajpcomjaaFwB6
import Derived.Test.YtbdlccajpcomjaaProg
set_option linter.unusedVariables false
set_option linter.unusedSimpArgs false
namespace Go.Fw.L19
open Go Go.Fw
theorem ok6:okF Go.Proofs.Try.prog 6 d6=true:=by decide+kernel
theorem ok7:okF Go.Proofs.Try.prog 7 d7=true:=by decide+kernel
theorem ok8:okF Go.Proofs.Try.prog 8 d8=true:=by decide+kernel
theorem ok9:okF Go.Proofs.Try.prog 9 d9=true:=by decide+kernel
theorem ok11:okF Go.Proofs.Try.prog 11 d11=true:=by decide+kernel
theorem ok13:okF Go.Proofs.Try.prog 13 d13=true:=by decide+kernel
theorem ok14:okF Go.Proofs.Try.prog 14 d14=true:=by decide+kernel
theorem ok16:okF Go.Proofs.Try.prog 16 d16=true:=by decide+kernel
theorem ok17:okF Go.Proofs.Try.prog 17 d17=true:=by decide+kernel
theorem ok19:okF Go.Proofs.Try.prog 19 d19=true:=by decide+kernel
theorem ok21:okF Go.Proofs.Try.prog 21 d21=true:=by decide+kernel
theorem ok22:okF Go.Proofs.Try.prog 22 d22=true:=by decide+kernel
theorem ok23:okF Go.Proofs.Try.prog 23 d23=true:=by decide+kernel
theorem ok24:okF Go.Proofs.Try.prog 24 d24=true:=by decide+kernel
theorem ok25:okF Go.Proofs.Try.prog 25 d25=true:=by decide+kernel
theorem ok26:okF Go.Proofs.Try.prog 26 d26=true:=by decide+kernel
theorem ok27:okF Go.Proofs.Try.prog 27 d27=true:=by decide+kernel
theorem ok28:okF Go.Proofs.Try.prog 28 d28=true:=by decide+kernel
theorem ok29:okF Go.Proofs.Try.prog 29 d29=true:=by decide+kernel
theorem ok31:okF Go.Proofs.Try.prog 31 d31=true:=by decide+kernel
theorem ok32:okF Go.Proofs.Try.prog 32 d32=true:=by decide+kernel
theorem ok33:okF Go.Proofs.Try.prog 33 d33=true:=by decide+kernel
theorem ok35:okF Go.Proofs.Try.prog 35 d35=true:=by decide+kernel
theorem ok36:okF Go.Proofs.Try.prog 36 d36=true:=by decide+kernel
theorem ok37:okF Go.Proofs.Try.prog 37 d37=true:=by decide+kernel
theorem ok38:okF Go.Proofs.Try.prog 38 d38=true:=by decide+kernel
theorem ok39:okF Go.Proofs.Try.prog 39 d39=true:=by decide+kernel
theorem ok40:okF Go.Proofs.Try.prog 40 d40=true:=by decide+kernel
theorem ok41:okF Go.Proofs.Try.prog 41 d41=true:=by decide+kernel
theorem ok42:okF Go.Proofs.Try.prog 42 d42=true:=by decide+kernel
theorem ok43:okF Go.Proofs.Try.prog 43 d43=true:=by decide+kernel
theorem ok44:okF Go.Proofs.Try.prog 44 d44=true:=by decide+kernel
theorem ok45:okF Go.Proofs.Try.prog 45 d45=true:=by decide+kernel
theorem ok46:okF Go.Proofs.Try.prog 46 d46=true:=by decide+kernel
theorem ok49:okF Go.Proofs.Try.prog 49 d49=true:=by decide+kernel
theorem ok50:okF Go.Proofs.Try.prog 50 d50=true:=by decide+kernel
theorem ok52:okF Go.Proofs.Try.prog 52 d52=true:=by decide+kernel
theorem ok53:okF Go.Proofs.Try.prog 53 d53=true:=by decide+kernel
theorem ok54:okF Go.Proofs.Try.prog 54 d54=true:=by decide+kernel
theorem ok55:okF Go.Proofs.Try.prog 55 d55=true:=by decide+kernel
theorem ok56:okF Go.Proofs.Try.prog 56 d56=true:=by decide+kernel
theorem ok57:okF Go.Proofs.Try.prog 57 d57=true:=by decide+kernel
theorem ok58:okF Go.Proofs.Try.prog 58 d58=true:=by decide+kernel
theorem ok59:okF Go.Proofs.Try.prog 59 d59=true:=by decide+kernel
theorem ok61:okF Go.Proofs.Try.prog 61 d61=true:=by decide+kernel
theorem ok62:okF Go.Proofs.Try.prog 62 d62=true:=by decide+kernel
theorem ok63:okF Go.Proofs.Try.prog 63 d63=true:=by decide+kernel
theorem ok64:okF Go.Proofs.Try.prog 64 d64=true:=by decide+kernel
theorem ok65:okF Go.Proofs.Try.prog 65 d65=true:=by decide+kernel
theorem ok66:okF Go.Proofs.Try.prog 66 d66=true:=by decide+kernel
theorem ok67:okF Go.Proofs.Try.prog 67 d67=true:=by decide+kernel
theorem ok69:okF Go.Proofs.Try.prog 69 d69=true:=by decide+kernel
theorem ok70:okF Go.Proofs.Try.prog 70 d70=true:=by decide+kernel
theorem ok71:okF Go.Proofs.Try.prog 71 d71=true:=by decide+kernel
theorem ok72:okF Go.Proofs.Try.prog 72 d72=true:=by decide+kernel
theorem ok73:okF Go.Proofs.Try.prog 73 d73=true:=by decide+kernel
theorem ok74:okF Go.Proofs.Try.prog 74 d74=true:=by decide+kernel
theorem ok75:okF Go.Proofs.Try.prog 75 d75=true:=by decide+kernel
theorem ok76:okF Go.Proofs.Try.prog 76 d76=true:=by decide+kernel
theorem ok77:okF Go.Proofs.Try.prog 77 d77=true:=by decide+kernel
theorem ok78:okF Go.Proofs.Try.prog 78 d78=true:=by decide+kernel
theorem ok79:okF Go.Proofs.Try.prog 79 d79=true:=by decide+kernel
theorem ok80:okF Go.Proofs.Try.prog 80 d80=true:=by decide+kernel
theorem ok81:okF Go.Proofs.Try.prog 81 d81=true:=by decide+kernel
theorem ok82:okF Go.Proofs.Try.prog 82 d82=true:=by decide+kernel
theorem ok83:okF Go.Proofs.Try.prog 83 d83=true:=by decide+kernel
theorem ok84:okF Go.Proofs.Try.prog 84 d84=true:=by decide+kernel
theorem ok85:okF Go.Proofs.Try.prog 85 d85=true:=by decide+kernel
theorem ok87:okF Go.Proofs.Try.prog 87 d87=true:=by decide+kernel
theorem ok88:okF Go.Proofs.Try.prog 88 d88=true:=by decide+kernel
theorem ok89:okF Go.Proofs.Try.prog 89 d89=true:=by decide+kernel
theorem ok90:okF Go.Proofs.Try.prog 90 d90=true:=by decide+kernel
theorem ok92:okF Go.Proofs.Try.prog 92 d92=true:=by decide+kernel
theorem tab_ok:∀ (f:FuncId) (fd:FD),table f=some fd→okF Go.Proofs.Try.prog f fd=true:=by
 intro f fd h
 unfold table at h
 split at h
 ·cases h; exact ok6
 ·cases h; exact ok7
 ·cases h; exact ok8
 ·cases h; exact ok9
 ·cases h; exact ok11
 ·cases h; exact ok13
 ·cases h; exact ok14
 ·cases h; exact ok16
 ·cases h; exact ok17
 ·cases h; exact ok19
 ·cases h; exact ok21
 ·cases h; exact ok22
 ·cases h; exact ok23
 ·cases h; exact ok24
 ·cases h; exact ok25
 ·cases h; exact ok26
 ·cases h; exact ok27
 ·cases h; exact ok28
 ·cases h; exact ok29
 ·cases h; exact ok31
 ·cases h; exact ok32
 ·cases h; exact ok33
 ·cases h; exact ok35
 ·cases h; exact ok36
 ·cases h; exact ok37
 ·cases h; exact ok38
 ·cases h; exact ok39
 ·cases h; exact ok40
 ·cases h; exact ok41
 ·cases h; exact ok42
 ·cases h; exact ok43
 ·cases h; exact ok44
 ·cases h; exact ok45
 ·cases h; exact ok46
 ·cases h; exact ok49
 ·cases h; exact ok50
 ·cases h; exact ok52
 ·cases h; exact ok53
 ·cases h; exact ok54
 ·cases h; exact ok55
 ·cases h; exact ok56
 ·cases h; exact ok57
 ·cases h; exact ok58
 ·cases h; exact ok59
 ·cases h; exact ok61
 ·cases h; exact ok62
 ·cases h; exact ok63
 ·cases h; exact ok64
 ·cases h; exact ok65
 ·cases h; exact ok66
 ·cases h; exact ok67
 ·cases h; exact ok69
 ·cases h; exact ok70
 ·cases h; exact ok71
 ·cases h; exact ok72
 ·cases h; exact ok73
 ·cases h; exact ok74
 ·cases h; exact ok75
 ·cases h; exact ok76
 ·cases h; exact ok77
 ·cases h; exact ok78
 ·cases h; exact ok79
 ·cases h; exact ok80
 ·cases h; exact ok81
 ·cases h; exact ok82
 ·cases h; exact ok83
 ·cases h; exact ok84
 ·cases h; exact ok85
 ·cases h; exact ok87
 ·cases h; exact ok88
 ·cases h; exact ok89
 ·cases h; exact ok90
 ·cases h; exact ok92
 ·cases h
end Go.Fw.L19
