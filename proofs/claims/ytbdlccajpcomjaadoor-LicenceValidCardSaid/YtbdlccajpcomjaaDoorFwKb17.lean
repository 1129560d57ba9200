/- Own work. -/
import Derived.Test.YtbdlccajpcomjaaDoorFwLb17
import Derived.Test.YtbdlccajpcomjaaDoorFwB6
import Derived.Test.YtbdlccajpcomjaaDoorProg
set_option linter.unusedVariables false
set_option linter.unusedSimpArgs false
namespace Go.Fw.L19
open Go Go.Fw
theorem ok3:okF Go.Proofs.Tryd.prog 3 d3=true:=by decide+kernel
theorem ok4:okF Go.Proofs.Tryd.prog 4 d4=true:=by decide+kernel
theorem ok5:okF Go.Proofs.Tryd.prog 5 d5=true:=by decide+kernel
theorem ok6:okF Go.Proofs.Tryd.prog 6 d6=true:=by decide+kernel
theorem ok7:okF Go.Proofs.Tryd.prog 7 d7=true:=by decide+kernel
theorem ok8:okF Go.Proofs.Tryd.prog 8 d8=true:=by decide+kernel
theorem ok9:okF Go.Proofs.Tryd.prog 9 d9=true:=by decide+kernel
theorem awV:okF Go.Proofs.Tryd.prog 10 d10=true:=by decide+kernel
theorem awW:okF Go.Proofs.Tryd.prog 11 d11=true:=by decide+kernel
theorem awX:okF Go.Proofs.Tryd.prog 12 d12=true:=by decide+kernel
theorem awY:okF Go.Proofs.Tryd.prog 13 d13=true:=by decide+kernel
theorem awZ:okF Go.Proofs.Tryd.prog 14 d14=true:=by decide+kernel
theorem aw0:okF Go.Proofs.Tryd.prog 15 d15=true:=by decide+kernel
theorem aw1:okF Go.Proofs.Tryd.prog 16 d16=true:=by decide+kernel
theorem aw2:okF Go.Proofs.Tryd.prog 17 d17=true:=by decide+kernel
theorem aw3:okF Go.Proofs.Tryd.prog 18 d18=true:=by decide+kernel
theorem aw4:okF Go.Proofs.Tryd.prog 19 d19=true:=by decide+kernel
theorem aw5:okF Go.Proofs.Tryd.prog 20 d20=true:=by decide+kernel
theorem aw6:okF Go.Proofs.Tryd.prog 21 d21=true:=by decide+kernel
theorem aw7:okF Go.Proofs.Tryd.prog 22 d22=true:=by decide+kernel
theorem aw8:okF Go.Proofs.Tryd.prog 23 d23=true:=by decide+kernel
theorem aw9:okF Go.Proofs.Tryd.prog 24 d24=true:=by decide+kernel
theorem axa:okF Go.Proofs.Tryd.prog 25 d25=true:=by decide+kernel
theorem axb:okF Go.Proofs.Tryd.prog 26 d26=true:=by decide+kernel
theorem axc:okF Go.Proofs.Tryd.prog 27 d27=true:=by decide+kernel
theorem axd:okF Go.Proofs.Tryd.prog 28 d28=true:=by decide+kernel
theorem axe:okF Go.Proofs.Tryd.prog 29 d29=true:=by decide+kernel
theorem axg:okF Go.Proofs.Tryd.prog 31 d31=true:=by decide+kernel
theorem axh:okF Go.Proofs.Tryd.prog 34 d34=true:=by decide+kernel
theorem axi:okF Go.Proofs.Tryd.prog 37 d37=true:=by decide+kernel
theorem axj:okF Go.Proofs.Tryd.prog 38 d38=true:=by decide+kernel
theorem axk:okF Go.Proofs.Tryd.prog 39 d39=true:=by decide+kernel
theorem axm:okF Go.Proofs.Tryd.prog 40 d40=true:=by decide+kernel
theorem axn:okF Go.Proofs.Tryd.prog 41 d41=true:=by decide+kernel
theorem axo:okF Go.Proofs.Tryd.prog 42 d42=true:=by decide+kernel
theorem axp:okF Go.Proofs.Tryd.prog 43 d43=true:=by decide+kernel
theorem axq:okF Go.Proofs.Tryd.prog 44 d44=true:=by decide+kernel
theorem axr:okF Go.Proofs.Tryd.prog 45 d45=true:=by decide+kernel
theorem axs:okF Go.Proofs.Tryd.prog 46 d46=true:=by decide+kernel
theorem axt:okF Go.Proofs.Tryd.prog 47 d47=true:=by decide+kernel
theorem axu:okF Go.Proofs.Tryd.prog 48 d48=true:=by decide+kernel
theorem axv:okF Go.Proofs.Tryd.prog 49 d49=true:=by decide+kernel
theorem axx:okF Go.Proofs.Tryd.prog 50 d50=true:=by decide+kernel
theorem axy:okF Go.Proofs.Tryd.prog 52 d52=true:=by decide+kernel
theorem axz:okF Go.Proofs.Tryd.prog 53 d53=true:=by decide+kernel
theorem axA:okF Go.Proofs.Tryd.prog 55 d55=true:=by decide+kernel
theorem axB:okF Go.Proofs.Tryd.prog 56 d56=true:=by decide+kernel
theorem axC:okF Go.Proofs.Tryd.prog 57 d57=true:=by decide+kernel
theorem axD:okF Go.Proofs.Tryd.prog 58 d58=true:=by decide+kernel
theorem axE:okF Go.Proofs.Tryd.prog 59 d59=true:=by decide+kernel
theorem axG:okF Go.Proofs.Tryd.prog 60 d60=true:=by decide+kernel
theorem axH:okF Go.Proofs.Tryd.prog 61 d61=true:=by decide+kernel
theorem axI:okF Go.Proofs.Tryd.prog 62 d62=true:=by decide+kernel
theorem axJ:okF Go.Proofs.Tryd.prog 63 d63=true:=by decide+kernel
theorem axK:okF Go.Proofs.Tryd.prog 64 d64=true:=by decide+kernel
theorem axL:okF Go.Proofs.Tryd.prog 65 d65=true:=by decide+kernel
theorem axM:okF Go.Proofs.Tryd.prog 66 d66=true:=by decide+kernel
theorem axN:okF Go.Proofs.Tryd.prog 67 d67=true:=by decide+kernel
theorem axO:okF Go.Proofs.Tryd.prog 68 d68=true:=by decide+kernel
theorem axQ:okF Go.Proofs.Tryd.prog 71 d71=true:=by decide+kernel
theorem axR:okF Go.Proofs.Tryd.prog 72 d72=true:=by decide+kernel
theorem axS:okF Go.Proofs.Tryd.prog 73 d73=true:=by decide+kernel
theorem axT:okF Go.Proofs.Tryd.prog 74 d74=true:=by decide+kernel
theorem axU:okF Go.Proofs.Tryd.prog 75 d75=true:=by decide+kernel
theorem axV:okF Go.Proofs.Tryd.prog 76 d76=true:=by decide+kernel
theorem axW:okF Go.Proofs.Tryd.prog 77 d77=true:=by decide+kernel
theorem axX:okF Go.Proofs.Tryd.prog 79 d79=true:=by decide+kernel
theorem axZ:okF Go.Proofs.Tryd.prog 84 d84=true:=by decide+kernel
theorem ax0:okF Go.Proofs.Tryd.prog 85 d85=true:=by decide+kernel
theorem ax1:okF Go.Proofs.Tryd.prog 86 d86=true:=by decide+kernel
theorem ax2:okF Go.Proofs.Tryd.prog 87 d87=true:=by decide+kernel
theorem ax4:okF Go.Proofs.Tryd.prog 94 d94=true:=by decide+kernel
theorem ahR:∀ (f:FuncId) (fd:FD),table f=some fd→okF Go.Proofs.Tryd.prog f fd=true:=by
 intro f fd h
 unfold table at h
 split at h
 ·cases h; exact ok3
 ·cases h; exact ok4
 ·cases h; exact ok5
 ·cases h; exact ok6
 ·cases h; exact ok7
 ·cases h; exact ok8
 ·cases h; exact ok9
 ·cases h; exact awV
 ·cases h; exact awW
 ·cases h; exact awX
 ·cases h; exact awY
 ·cases h; exact awZ
 ·cases h; exact aw0
 ·cases h; exact aw1
 ·cases h; exact aw2
 ·cases h; exact aw3
 ·cases h; exact aw4
 ·cases h; exact aw5
 ·cases h; exact aw6
 ·cases h; exact aw7
 ·cases h; exact aw8
 ·cases h; exact aw9
 ·cases h; exact axa
 ·cases h; exact axb
 ·cases h; exact axc
 ·cases h; exact axd
 ·cases h; exact axe
 ·cases h; exact axg
 ·cases h; exact axh
 ·cases h; exact axj
 ·cases h; exact axk
 ·cases h; exact axm
 ·cases h; exact axn
 ·cases h; exact axo
 ·cases h; exact axp
 ·cases h; exact axq
 ·cases h; exact axr
 ·cases h; exact axs
 ·cases h; exact axt
 ·cases h; exact axu
 ·cases h; exact axv
 ·cases h; exact axx
 ·cases h; exact axy
 ·cases h; exact axz
 ·cases h; exact axA
 ·cases h; exact axB
 ·cases h; exact axC
 ·cases h; exact axD
 ·cases h; exact axE
 ·cases h; exact axG
 ·cases h; exact axH
 ·cases h; exact axI
 ·cases h; exact axJ
 ·cases h; exact axK
 ·cases h; exact axL
 ·cases h; exact axM
 ·cases h; exact axN
 ·cases h; exact axO
 ·cases h; exact axQ
 ·cases h; exact axR
 ·cases h; exact axS
 ·cases h; exact axT
 ·cases h; exact axU
 ·cases h; exact axV
 ·cases h; exact axW
 ·cases h; exact axX
 ·cases h; exact axZ
 ·cases h; exact ax0
 ·cases h; exact ax1
 ·cases h; exact ax2
 ·cases h; exact ax4
 ·cases h
end Go.Fw.L19
