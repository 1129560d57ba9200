/- Own work. -/
import Derived.Test.YtooiookccchmeaaGreatFwLm13
import Derived.Test.YtooiookccchmeaaGreatFwB6
import Derived.Test.YtooiookccchmeaaGreatProg
set_option linter.unusedVariables false
set_option linter.unusedSimpArgs false
namespace Go.Fw.L19
open Go Go.Fw
theorem ok6:okF Go.Proofs.Tryz.prog 6 d6=true:=by decide+kernel
theorem abZ:okF Go.Proofs.Tryz.prog 11 d11=true:=by decide+kernel
theorem acg:okF Go.Proofs.Tryz.prog 13 d13=true:=by decide+kernel
theorem acv:okF Go.Proofs.Tryz.prog 15 d15=true:=by decide+kernel
theorem acE:okF Go.Proofs.Tryz.prog 16 d16=true:=by decide+kernel
theorem acG:okF Go.Proofs.Tryz.prog 18 d18=true:=by decide+kernel
theorem acH:okF Go.Proofs.Tryz.prog 19 d19=true:=by decide+kernel
theorem acI:okF Go.Proofs.Tryz.prog 20 d20=true:=by decide+kernel
theorem acJ:okF Go.Proofs.Tryz.prog 24 d24=true:=by decide+kernel
theorem acK:okF Go.Proofs.Tryz.prog 28 d28=true:=by decide+kernel
theorem acL:okF Go.Proofs.Tryz.prog 37 d37=true:=by decide+kernel
theorem acM:okF Go.Proofs.Tryz.prog 38 d38=true:=by decide+kernel
theorem acN:okF Go.Proofs.Tryz.prog 40 d40=true:=by decide+kernel
theorem acO:okF Go.Proofs.Tryz.prog 41 d41=true:=by decide+kernel
theorem acP:okF Go.Proofs.Tryz.prog 42 d42=true:=by decide+kernel
theorem acQ:okF Go.Proofs.Tryz.prog 44 d44=true:=by decide+kernel
theorem acR:okF Go.Proofs.Tryz.prog 45 d45=true:=by decide+kernel
theorem acS:okF Go.Proofs.Tryz.prog 46 d46=true:=by decide+kernel
theorem acT:okF Go.Proofs.Tryz.prog 47 d47=true:=by decide+kernel
theorem acU:okF Go.Proofs.Tryz.prog 53 d53=true:=by decide+kernel
theorem acV:okF Go.Proofs.Tryz.prog 54 d54=true:=by decide+kernel
theorem acW:okF Go.Proofs.Tryz.prog 55 d55=true:=by decide+kernel
theorem acX:okF Go.Proofs.Tryz.prog 57 d57=true:=by decide+kernel
theorem acY:okF Go.Proofs.Tryz.prog 59 d59=true:=by decide+kernel
theorem ac0:okF Go.Proofs.Tryz.prog 60 d60=true:=by decide+kernel
theorem ac1:okF Go.Proofs.Tryz.prog 67 d67=true:=by decide+kernel
theorem ac2:okF Go.Proofs.Tryz.prog 69 d69=true:=by decide+kernel
theorem ac3:okF Go.Proofs.Tryz.prog 70 d70=true:=by decide+kernel
theorem ac4:okF Go.Proofs.Tryz.prog 71 d71=true:=by decide+kernel
theorem ac5:okF Go.Proofs.Tryz.prog 72 d72=true:=by decide+kernel
theorem ac6:okF Go.Proofs.Tryz.prog 73 d73=true:=by decide+kernel
theorem ac7:okF Go.Proofs.Tryz.prog 74 d74=true:=by decide+kernel
theorem ac8:okF Go.Proofs.Tryz.prog 77 d77=true:=by decide+kernel
theorem ac9:okF Go.Proofs.Tryz.prog 83 d83=true:=by decide+kernel
theorem ada:okF Go.Proofs.Tryz.prog 86 d86=true:=by decide+kernel
theorem adb:okF Go.Proofs.Tryz.prog 87 d87=true:=by decide+kernel
theorem ade:okF Go.Proofs.Tryz.prog 90 d90=true:=by decide+kernel
theorem adf:okF Go.Proofs.Tryz.prog 91 d91=true:=by decide+kernel
theorem adg:okF Go.Proofs.Tryz.prog 92 d92=true:=by decide+kernel
theorem adh:okF Go.Proofs.Tryz.prog 93 d93=true:=by decide+kernel
theorem adi:okF Go.Proofs.Tryz.prog 94 d94=true:=by decide+kernel
theorem adj:okF Go.Proofs.Tryz.prog 95 d95=true:=by decide+kernel
theorem adk:okF Go.Proofs.Tryz.prog 96 d96=true:=by decide+kernel
theorem adl:okF Go.Proofs.Tryz.prog 97 d97=true:=by decide+kernel
theorem adm:okF Go.Proofs.Tryz.prog 98 d98=true:=by decide+kernel
theorem adn:okF Go.Proofs.Tryz.prog 99 d99=true:=by decide+kernel
theorem ab0:okF Go.Proofs.Tryz.prog 111 d111=true:=by decide+kernel
theorem ab1:okF Go.Proofs.Tryz.prog 114 d114=true:=by decide+kernel
theorem ab2:okF Go.Proofs.Tryz.prog 115 d115=true:=by decide+kernel
theorem ab3:okF Go.Proofs.Tryz.prog 116 d116=true:=by decide+kernel
theorem ab4:okF Go.Proofs.Tryz.prog 117 d117=true:=by decide+kernel
theorem ab5:okF Go.Proofs.Tryz.prog 118 d118=true:=by decide+kernel
theorem ab6:okF Go.Proofs.Tryz.prog 119 d119=true:=by decide+kernel
theorem ab7:okF Go.Proofs.Tryz.prog 120 d120=true:=by decide+kernel
theorem ab8:okF Go.Proofs.Tryz.prog 121 d121=true:=by decide+kernel
theorem ab9:okF Go.Proofs.Tryz.prog 122 d122=true:=by decide+kernel
theorem aca:okF Go.Proofs.Tryz.prog 123 d123=true:=by decide+kernel
theorem acb:okF Go.Proofs.Tryz.prog 124 d124=true:=by decide+kernel
theorem acd:okF Go.Proofs.Tryz.prog 125 d125=true:=by decide+kernel
theorem ace:okF Go.Proofs.Tryz.prog 126 d126=true:=by decide+kernel
theorem acf:okF Go.Proofs.Tryz.prog 127 d127=true:=by decide+kernel
theorem ach:okF Go.Proofs.Tryz.prog 135 d135=true:=by decide+kernel
theorem aci:okF Go.Proofs.Tryz.prog 136 d136=true:=by decide+kernel
theorem acj:okF Go.Proofs.Tryz.prog 137 d137=true:=by decide+kernel
theorem ack:okF Go.Proofs.Tryz.prog 138 d138=true:=by decide+kernel
theorem acm:okF Go.Proofs.Tryz.prog 139 d139=true:=by decide+kernel
theorem acn:okF Go.Proofs.Tryz.prog 140 d140=true:=by decide+kernel
theorem aco:okF Go.Proofs.Tryz.prog 141 d141=true:=by decide+kernel
theorem acp:okF Go.Proofs.Tryz.prog 142 d142=true:=by decide+kernel
theorem acq:okF Go.Proofs.Tryz.prog 143 d143=true:=by decide+kernel
theorem acr:okF Go.Proofs.Tryz.prog 144 d144=true:=by decide+kernel
theorem acs:okF Go.Proofs.Tryz.prog 148 d148=true:=by decide+kernel
theorem acu:okF Go.Proofs.Tryz.prog 149 d149=true:=by decide+kernel
theorem acw:okF Go.Proofs.Tryz.prog 150 d150=true:=by decide+kernel
theorem acx:okF Go.Proofs.Tryz.prog 151 d151=true:=by decide+kernel
theorem acy:okF Go.Proofs.Tryz.prog 152 d152=true:=by decide+kernel
theorem acz:okF Go.Proofs.Tryz.prog 153 d153=true:=by decide+kernel
theorem acA:okF Go.Proofs.Tryz.prog 154 d154=true:=by decide+kernel
theorem acB:okF Go.Proofs.Tryz.prog 155 d155=true:=by decide+kernel
theorem acC:okF Go.Proofs.Tryz.prog 158 d158=true:=by decide+kernel
theorem acD:okF Go.Proofs.Tryz.prog 159 d159=true:=by decide+kernel
theorem acF:okF Go.Proofs.Tryz.prog 160 d160=true:=by decide+kernel
theorem I0:∀ (f:FuncId) (fd:FD),table f=some fd→okF Go.Proofs.Tryz.prog f fd=true:=by
 intro f fd h
 unfold table at h
 split at h
 ·cases h; exact ok6
 ·cases h; exact abZ
 ·cases h; exact acg
 ·cases h; exact acv
 ·cases h; exact acE
 ·cases h; exact acG
 ·cases h; exact acH
 ·cases h; exact acI
 ·cases h; exact acJ
 ·cases h; exact acK
 ·cases h; exact acL
 ·cases h; exact acM
 ·cases h; exact acN
 ·cases h; exact acQ
 ·cases h; exact acR
 ·cases h; exact acS
 ·cases h; exact acT
 ·cases h; exact acU
 ·cases h; exact acV
 ·cases h; exact acW
 ·cases h; exact acX
 ·cases h; exact acY
 ·cases h; exact ac0
 ·cases h; exact ac1
 ·cases h; exact ac2
 ·cases h; exact ac3
 ·cases h; exact ac4
 ·cases h; exact ac5
 ·cases h; exact ac6
 ·cases h; exact ac7
 ·cases h; exact ac8
 ·cases h; exact ac9
 ·cases h; exact ada
 ·cases h; exact adb
 ·cases h; exact ade
 ·cases h; exact adf
 ·cases h; exact adg
 ·cases h; exact adh
 ·cases h; exact adi
 ·cases h; exact adj
 ·cases h; exact adk
 ·cases h; exact adl
 ·cases h; exact adm
 ·cases h; exact adn
 ·cases h; exact ab0
 ·cases h; exact ab1
 ·cases h; exact ab2
 ·cases h; exact ab3
 ·cases h; exact ab4
 ·cases h; exact ab5
 ·cases h; exact ab6
 ·cases h; exact ab7
 ·cases h; exact ab8
 ·cases h; exact ab9
 ·cases h; exact aca
 ·cases h; exact acb
 ·cases h; exact acd
 ·cases h; exact ace
 ·cases h; exact acf
 ·cases h; exact ach
 ·cases h; exact aci
 ·cases h; exact acj
 ·cases h; exact ack
 ·cases h; exact acm
 ·cases h; exact acn
 ·cases h; exact aco
 ·cases h; exact acp
 ·cases h; exact acq
 ·cases h; exact acr
 ·cases h; exact acs
 ·cases h; exact acu
 ·cases h; exact acw
 ·cases h; exact acx
 ·cases h; exact acy
 ·cases h; exact acz
 ·cases h; exact acA
 ·cases h; exact acB
 ·cases h; exact acC
 ·cases h; exact acD
 ·cases h; exact acF
 ·cases h
end Go.Fw.L19
