/- Own work. -/
import Derived.Test.YtooiookccchmeaaGreatFwLx13
import Derived.Test.YtooiookccchmeaaGreatFwB6
import Derived.Test.YtooiookccchmeaaGreatProg
set_option linter.unusedVariables false
set_option linter.unusedSimpArgs false
namespace Go.Fw.L19
open Go Go.Fw
theorem afv:okF Go.Proofs.Tryz.prog 10 d10=true:=by decide+kernel
theorem afw:okF Go.Proofs.Tryz.prog 11 d11=true:=by decide+kernel
theorem afM:okF Go.Proofs.Tryz.prog 13 d13=true:=by decide+kernel
theorem afZ:okF Go.Proofs.Tryz.prog 15 d15=true:=by decide+kernel
theorem af9:okF Go.Proofs.Tryz.prog 16 d16=true:=by decide+kernel
theorem agb:okF Go.Proofs.Tryz.prog 19 d19=true:=by decide+kernel
theorem agc:okF Go.Proofs.Tryz.prog 20 d20=true:=by decide+kernel
theorem agd:okF Go.Proofs.Tryz.prog 22 d22=true:=by decide+kernel
theorem age:okF Go.Proofs.Tryz.prog 24 d24=true:=by decide+kernel
theorem agf:okF Go.Proofs.Tryz.prog 26 d26=true:=by decide+kernel
theorem agh:okF Go.Proofs.Tryz.prog 28 d28=true:=by decide+kernel
theorem agi:okF Go.Proofs.Tryz.prog 29 d29=true:=by decide+kernel
theorem agj:okF Go.Proofs.Tryz.prog 32 d32=true:=by decide+kernel
theorem agk:okF Go.Proofs.Tryz.prog 35 d35=true:=by decide+kernel
theorem agl:okF Go.Proofs.Tryz.prog 36 d36=true:=by decide+kernel
theorem agm:okF Go.Proofs.Tryz.prog 37 d37=true:=by decide+kernel
theorem agn:okF Go.Proofs.Tryz.prog 38 d38=true:=by decide+kernel
theorem ago:okF Go.Proofs.Tryz.prog 40 d40=true:=by decide+kernel
theorem agp:okF Go.Proofs.Tryz.prog 41 d41=true:=by decide+kernel
theorem agq:okF Go.Proofs.Tryz.prog 42 d42=true:=by decide+kernel
theorem agr:okF Go.Proofs.Tryz.prog 44 d44=true:=by decide+kernel
theorem ags:okF Go.Proofs.Tryz.prog 45 d45=true:=by decide+kernel
theorem agt:okF Go.Proofs.Tryz.prog 46 d46=true:=by decide+kernel
theorem agu:okF Go.Proofs.Tryz.prog 47 d47=true:=by decide+kernel
theorem agv:okF Go.Proofs.Tryz.prog 53 d53=true:=by decide+kernel
theorem agw:okF Go.Proofs.Tryz.prog 54 d54=true:=by decide+kernel
theorem agx:okF Go.Proofs.Tryz.prog 55 d55=true:=by decide+kernel
theorem agy:okF Go.Proofs.Tryz.prog 57 d57=true:=by decide+kernel
theorem agz:okF Go.Proofs.Tryz.prog 59 d59=true:=by decide+kernel
theorem agA:okF Go.Proofs.Tryz.prog 60 d60=true:=by decide+kernel
theorem agB:okF Go.Proofs.Tryz.prog 64 d64=true:=by decide+kernel
theorem agC:okF Go.Proofs.Tryz.prog 67 d67=true:=by decide+kernel
theorem agD:okF Go.Proofs.Tryz.prog 68 d68=true:=by decide+kernel
theorem agE:okF Go.Proofs.Tryz.prog 69 d69=true:=by decide+kernel
theorem agF:okF Go.Proofs.Tryz.prog 70 d70=true:=by decide+kernel
theorem agG:okF Go.Proofs.Tryz.prog 71 d71=true:=by decide+kernel
theorem agH:okF Go.Proofs.Tryz.prog 72 d72=true:=by decide+kernel
theorem agI:okF Go.Proofs.Tryz.prog 73 d73=true:=by decide+kernel
theorem agJ:okF Go.Proofs.Tryz.prog 74 d74=true:=by decide+kernel
theorem agK:okF Go.Proofs.Tryz.prog 77 d77=true:=by decide+kernel
theorem agL:okF Go.Proofs.Tryz.prog 83 d83=true:=by decide+kernel
theorem agM:okF Go.Proofs.Tryz.prog 86 d86=true:=by decide+kernel
theorem agN:okF Go.Proofs.Tryz.prog 87 d87=true:=by decide+kernel
theorem agO:okF Go.Proofs.Tryz.prog 90 d90=true:=by decide+kernel
theorem agP:okF Go.Proofs.Tryz.prog 91 d91=true:=by decide+kernel
theorem agQ:okF Go.Proofs.Tryz.prog 92 d92=true:=by decide+kernel
theorem agR:okF Go.Proofs.Tryz.prog 93 d93=true:=by decide+kernel
theorem agS:okF Go.Proofs.Tryz.prog 94 d94=true:=by decide+kernel
theorem agT:okF Go.Proofs.Tryz.prog 95 d95=true:=by decide+kernel
theorem agU:okF Go.Proofs.Tryz.prog 96 d96=true:=by decide+kernel
theorem agV:okF Go.Proofs.Tryz.prog 97 d97=true:=by decide+kernel
theorem agW:okF Go.Proofs.Tryz.prog 98 d98=true:=by decide+kernel
theorem agX:okF Go.Proofs.Tryz.prog 99 d99=true:=by decide+kernel
theorem afx:okF Go.Proofs.Tryz.prog 111 d111=true:=by decide+kernel
theorem afy:okF Go.Proofs.Tryz.prog 114 d114=true:=by decide+kernel
theorem afz:okF Go.Proofs.Tryz.prog 115 d115=true:=by decide+kernel
theorem afA:okF Go.Proofs.Tryz.prog 116 d116=true:=by decide+kernel
theorem afB:okF Go.Proofs.Tryz.prog 117 d117=true:=by decide+kernel
theorem afC:okF Go.Proofs.Tryz.prog 118 d118=true:=by decide+kernel
theorem afD:okF Go.Proofs.Tryz.prog 119 d119=true:=by decide+kernel
theorem afE:okF Go.Proofs.Tryz.prog 120 d120=true:=by decide+kernel
theorem afF:okF Go.Proofs.Tryz.prog 121 d121=true:=by decide+kernel
theorem afG:okF Go.Proofs.Tryz.prog 122 d122=true:=by decide+kernel
theorem afH:okF Go.Proofs.Tryz.prog 123 d123=true:=by decide+kernel
theorem afI:okF Go.Proofs.Tryz.prog 124 d124=true:=by decide+kernel
theorem afJ:okF Go.Proofs.Tryz.prog 125 d125=true:=by decide+kernel
theorem afK:okF Go.Proofs.Tryz.prog 126 d126=true:=by decide+kernel
theorem afL:okF Go.Proofs.Tryz.prog 127 d127=true:=by decide+kernel
theorem afN:okF Go.Proofs.Tryz.prog 135 d135=true:=by decide+kernel
theorem afO:okF Go.Proofs.Tryz.prog 136 d136=true:=by decide+kernel
theorem afP:okF Go.Proofs.Tryz.prog 137 d137=true:=by decide+kernel
theorem afQ:okF Go.Proofs.Tryz.prog 138 d138=true:=by decide+kernel
theorem afR:okF Go.Proofs.Tryz.prog 139 d139=true:=by decide+kernel
theorem afS:okF Go.Proofs.Tryz.prog 140 d140=true:=by decide+kernel
theorem afT:okF Go.Proofs.Tryz.prog 141 d141=true:=by decide+kernel
theorem afU:okF Go.Proofs.Tryz.prog 142 d142=true:=by decide+kernel
theorem afV:okF Go.Proofs.Tryz.prog 143 d143=true:=by decide+kernel
theorem afW:okF Go.Proofs.Tryz.prog 144 d144=true:=by decide+kernel
theorem afX:okF Go.Proofs.Tryz.prog 148 d148=true:=by decide+kernel
theorem afY:okF Go.Proofs.Tryz.prog 149 d149=true:=by decide+kernel
theorem af0:okF Go.Proofs.Tryz.prog 150 d150=true:=by decide+kernel
theorem af1:okF Go.Proofs.Tryz.prog 151 d151=true:=by decide+kernel
theorem af3:okF Go.Proofs.Tryz.prog 152 d152=true:=by decide+kernel
theorem af4:okF Go.Proofs.Tryz.prog 153 d153=true:=by decide+kernel
theorem af5:okF Go.Proofs.Tryz.prog 154 d154=true:=by decide+kernel
theorem af6:okF Go.Proofs.Tryz.prog 155 d155=true:=by decide+kernel
theorem af7:okF Go.Proofs.Tryz.prog 158 d158=true:=by decide+kernel
theorem af8:okF Go.Proofs.Tryz.prog 159 d159=true:=by decide+kernel
theorem aga:okF Go.Proofs.Tryz.prog 160 d160=true:=by decide+kernel
theorem K8:∀ (f:FuncId) (fd:FD),table f=some fd→okF Go.Proofs.Tryz.prog f fd=true:=by
 intro f fd h
 unfold table at h
 split at h
 ·cases h; exact afv
 ·cases h; exact afw
 ·cases h; exact afM
 ·cases h; exact afZ
 ·cases h; exact af9
 ·cases h; exact agb
 ·cases h; exact agc
 ·cases h; exact agd
 ·cases h; exact age
 ·cases h; exact agf
 ·cases h; exact agh
 ·cases h; exact agi
 ·cases h; exact agj
 ·cases h; exact agk
 ·cases h; exact agl
 ·cases h; exact agm
 ·cases h; exact agn
 ·cases h; exact ago
 ·cases h; exact agr
 ·cases h; exact ags
 ·cases h; exact agt
 ·cases h; exact agu
 ·cases h; exact agv
 ·cases h; exact agw
 ·cases h; exact agx
 ·cases h; exact agy
 ·cases h; exact agz
 ·cases h; exact agA
 ·cases h; exact agB
 ·cases h; exact agC
 ·cases h; exact agD
 ·cases h; exact agE
 ·cases h; exact agF
 ·cases h; exact agG
 ·cases h; exact agH
 ·cases h; exact agI
 ·cases h; exact agJ
 ·cases h; exact agK
 ·cases h; exact agL
 ·cases h; exact agM
 ·cases h; exact agN
 ·cases h; exact agO
 ·cases h; exact agP
 ·cases h; exact agQ
 ·cases h; exact agR
 ·cases h; exact agS
 ·cases h; exact agT
 ·cases h; exact agU
 ·cases h; exact agV
 ·cases h; exact agW
 ·cases h; exact agX
 ·cases h; exact afx
 ·cases h; exact afy
 ·cases h; exact afz
 ·cases h; exact afA
 ·cases h; exact afB
 ·cases h; exact afC
 ·cases h; exact afD
 ·cases h; exact afE
 ·cases h; exact afF
 ·cases h; exact afG
 ·cases h; exact afH
 ·cases h; exact afI
 ·cases h; exact afJ
 ·cases h; exact afK
 ·cases h; exact afL
 ·cases h; exact afN
 ·cases h; exact afO
 ·cases h; exact afP
 ·cases h; exact afQ
 ·cases h; exact afR
 ·cases h; exact afS
 ·cases h; exact afT
 ·cases h; exact afU
 ·cases h; exact afV
 ·cases h; exact afW
 ·cases h; exact afX
 ·cases h; exact afY
 ·cases h; exact af0
 ·cases h; exact af1
 ·cases h; exact af3
 ·cases h; exact af4
 ·cases h; exact af5
 ·cases h; exact af6
 ·cases h; exact af7
 ·cases h; exact af8
 ·cases h; exact aga
 ·cases h
end Go.Fw.L19
