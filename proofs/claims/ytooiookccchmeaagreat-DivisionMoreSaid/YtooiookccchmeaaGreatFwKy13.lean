/- Own work. -/
import Derived.Test.YtooiookccchmeaaGreatFwLy13
import Derived.Test.YtooiookccchmeaaGreatFwB6
import Derived.Test.YtooiookccchmeaaGreatProg
set_option linter.unusedVariables false
set_option linter.unusedSimpArgs false
namespace Go.Fw.L19
open Go Go.Fw
theorem ok9:okF Go.Proofs.Tryz.prog 9 d9=true:=by decide+kernel
theorem agd:okF Go.Proofs.Tryz.prog 11 d11=true:=by decide+kernel
theorem agu:okF Go.Proofs.Tryz.prog 13 d13=true:=by decide+kernel
theorem agH:okF Go.Proofs.Tryz.prog 15 d15=true:=by decide+kernel
theorem agQ:okF Go.Proofs.Tryz.prog 16 d16=true:=by decide+kernel
theorem agS:okF Go.Proofs.Tryz.prog 19 d19=true:=by decide+kernel
theorem agT:okF Go.Proofs.Tryz.prog 20 d20=true:=by decide+kernel
theorem agU:okF Go.Proofs.Tryz.prog 24 d24=true:=by decide+kernel
theorem agV:okF Go.Proofs.Tryz.prog 28 d28=true:=by decide+kernel
theorem agW:okF Go.Proofs.Tryz.prog 31 d31=true:=by decide+kernel
theorem agX:okF Go.Proofs.Tryz.prog 32 d32=true:=by decide+kernel
theorem agY:okF Go.Proofs.Tryz.prog 33 d33=true:=by decide+kernel
theorem agZ:okF Go.Proofs.Tryz.prog 34 d34=true:=by decide+kernel
theorem ag0:okF Go.Proofs.Tryz.prog 35 d35=true:=by decide+kernel
theorem ag1:okF Go.Proofs.Tryz.prog 37 d37=true:=by decide+kernel
theorem ag2:okF Go.Proofs.Tryz.prog 38 d38=true:=by decide+kernel
theorem ag3:okF Go.Proofs.Tryz.prog 40 d40=true:=by decide+kernel
theorem ag4:okF Go.Proofs.Tryz.prog 41 d41=true:=by decide+kernel
theorem ag5:okF Go.Proofs.Tryz.prog 42 d42=true:=by decide+kernel
theorem ag6:okF Go.Proofs.Tryz.prog 44 d44=true:=by decide+kernel
theorem ag7:okF Go.Proofs.Tryz.prog 45 d45=true:=by decide+kernel
theorem ag8:okF Go.Proofs.Tryz.prog 46 d46=true:=by decide+kernel
theorem ag9:okF Go.Proofs.Tryz.prog 47 d47=true:=by decide+kernel
theorem aha:okF Go.Proofs.Tryz.prog 53 d53=true:=by decide+kernel
theorem ahb:okF Go.Proofs.Tryz.prog 54 d54=true:=by decide+kernel
theorem ahc:okF Go.Proofs.Tryz.prog 55 d55=true:=by decide+kernel
theorem ahd:okF Go.Proofs.Tryz.prog 57 d57=true:=by decide+kernel
theorem ahe:okF Go.Proofs.Tryz.prog 59 d59=true:=by decide+kernel
theorem ahf:okF Go.Proofs.Tryz.prog 60 d60=true:=by decide+kernel
theorem ahg:okF Go.Proofs.Tryz.prog 64 d64=true:=by decide+kernel
theorem ahh:okF Go.Proofs.Tryz.prog 66 d66=true:=by decide+kernel
theorem ahi:okF Go.Proofs.Tryz.prog 67 d67=true:=by decide+kernel
theorem ahj:okF Go.Proofs.Tryz.prog 69 d69=true:=by decide+kernel
theorem ahk:okF Go.Proofs.Tryz.prog 70 d70=true:=by decide+kernel
theorem ahl:okF Go.Proofs.Tryz.prog 71 d71=true:=by decide+kernel
theorem ahm:okF Go.Proofs.Tryz.prog 72 d72=true:=by decide+kernel
theorem ahn:okF Go.Proofs.Tryz.prog 73 d73=true:=by decide+kernel
theorem aho:okF Go.Proofs.Tryz.prog 74 d74=true:=by decide+kernel
theorem ahp:okF Go.Proofs.Tryz.prog 77 d77=true:=by decide+kernel
theorem ahq:okF Go.Proofs.Tryz.prog 83 d83=true:=by decide+kernel
theorem ahr:okF Go.Proofs.Tryz.prog 86 d86=true:=by decide+kernel
theorem ahs:okF Go.Proofs.Tryz.prog 87 d87=true:=by decide+kernel
theorem ahu:okF Go.Proofs.Tryz.prog 90 d90=true:=by decide+kernel
theorem ahv:okF Go.Proofs.Tryz.prog 91 d91=true:=by decide+kernel
theorem ahw:okF Go.Proofs.Tryz.prog 92 d92=true:=by decide+kernel
theorem ahx:okF Go.Proofs.Tryz.prog 93 d93=true:=by decide+kernel
theorem ahy:okF Go.Proofs.Tryz.prog 94 d94=true:=by decide+kernel
theorem ahz:okF Go.Proofs.Tryz.prog 95 d95=true:=by decide+kernel
theorem ahA:okF Go.Proofs.Tryz.prog 96 d96=true:=by decide+kernel
theorem ahB:okF Go.Proofs.Tryz.prog 97 d97=true:=by decide+kernel
theorem ahC:okF Go.Proofs.Tryz.prog 98 d98=true:=by decide+kernel
theorem ahD:okF Go.Proofs.Tryz.prog 99 d99=true:=by decide+kernel
theorem age:okF Go.Proofs.Tryz.prog 111 d111=true:=by decide+kernel
theorem agf:okF Go.Proofs.Tryz.prog 114 d114=true:=by decide+kernel
theorem agh:okF Go.Proofs.Tryz.prog 115 d115=true:=by decide+kernel
theorem agi:okF Go.Proofs.Tryz.prog 116 d116=true:=by decide+kernel
theorem agj:okF Go.Proofs.Tryz.prog 117 d117=true:=by decide+kernel
theorem agk:okF Go.Proofs.Tryz.prog 118 d118=true:=by decide+kernel
theorem agl:okF Go.Proofs.Tryz.prog 119 d119=true:=by decide+kernel
theorem agm:okF Go.Proofs.Tryz.prog 120 d120=true:=by decide+kernel
theorem agn:okF Go.Proofs.Tryz.prog 121 d121=true:=by decide+kernel
theorem ago:okF Go.Proofs.Tryz.prog 122 d122=true:=by decide+kernel
theorem agp:okF Go.Proofs.Tryz.prog 123 d123=true:=by decide+kernel
theorem agq:okF Go.Proofs.Tryz.prog 124 d124=true:=by decide+kernel
theorem agr:okF Go.Proofs.Tryz.prog 125 d125=true:=by decide+kernel
theorem ags:okF Go.Proofs.Tryz.prog 126 d126=true:=by decide+kernel
theorem agt:okF Go.Proofs.Tryz.prog 127 d127=true:=by decide+kernel
theorem agv:okF Go.Proofs.Tryz.prog 135 d135=true:=by decide+kernel
theorem agw:okF Go.Proofs.Tryz.prog 136 d136=true:=by decide+kernel
theorem agx:okF Go.Proofs.Tryz.prog 137 d137=true:=by decide+kernel
theorem agy:okF Go.Proofs.Tryz.prog 138 d138=true:=by decide+kernel
theorem agz:okF Go.Proofs.Tryz.prog 139 d139=true:=by decide+kernel
theorem agA:okF Go.Proofs.Tryz.prog 140 d140=true:=by decide+kernel
theorem agB:okF Go.Proofs.Tryz.prog 141 d141=true:=by decide+kernel
theorem agC:okF Go.Proofs.Tryz.prog 142 d142=true:=by decide+kernel
theorem agD:okF Go.Proofs.Tryz.prog 143 d143=true:=by decide+kernel
theorem agE:okF Go.Proofs.Tryz.prog 144 d144=true:=by decide+kernel
theorem agF:okF Go.Proofs.Tryz.prog 148 d148=true:=by decide+kernel
theorem agG:okF Go.Proofs.Tryz.prog 149 d149=true:=by decide+kernel
theorem agI:okF Go.Proofs.Tryz.prog 150 d150=true:=by decide+kernel
theorem agJ:okF Go.Proofs.Tryz.prog 151 d151=true:=by decide+kernel
theorem agK:okF Go.Proofs.Tryz.prog 152 d152=true:=by decide+kernel
theorem agL:okF Go.Proofs.Tryz.prog 153 d153=true:=by decide+kernel
theorem agM:okF Go.Proofs.Tryz.prog 154 d154=true:=by decide+kernel
theorem agN:okF Go.Proofs.Tryz.prog 155 d155=true:=by decide+kernel
theorem agO:okF Go.Proofs.Tryz.prog 158 d158=true:=by decide+kernel
theorem agP:okF Go.Proofs.Tryz.prog 159 d159=true:=by decide+kernel
theorem agR:okF Go.Proofs.Tryz.prog 160 d160=true:=by decide+kernel
theorem Ls:∀ (f:FuncId) (fd:FD),table f=some fd→okF Go.Proofs.Tryz.prog f fd=true:=by
 intro f fd h
 unfold table at h
 split at h
 ·cases h; exact ok9
 ·cases h; exact agd
 ·cases h; exact agu
 ·cases h; exact agH
 ·cases h; exact agQ
 ·cases h; exact agS
 ·cases h; exact agT
 ·cases h; exact agU
 ·cases h; exact agV
 ·cases h; exact agW
 ·cases h; exact agX
 ·cases h; exact agY
 ·cases h; exact agZ
 ·cases h; exact ag0
 ·cases h; exact ag1
 ·cases h; exact ag2
 ·cases h; exact ag3
 ·cases h; exact ag6
 ·cases h; exact ag7
 ·cases h; exact ag8
 ·cases h; exact ag9
 ·cases h; exact aha
 ·cases h; exact ahb
 ·cases h; exact ahc
 ·cases h; exact ahd
 ·cases h; exact ahe
 ·cases h; exact ahf
 ·cases h; exact ahg
 ·cases h; exact ahh
 ·cases h; exact ahi
 ·cases h; exact ahj
 ·cases h; exact ahk
 ·cases h; exact ahl
 ·cases h; exact ahm
 ·cases h; exact ahn
 ·cases h; exact aho
 ·cases h; exact ahp
 ·cases h; exact ahq
 ·cases h; exact ahr
 ·cases h; exact ahs
 ·cases h; exact ahu
 ·cases h; exact ahv
 ·cases h; exact ahw
 ·cases h; exact ahx
 ·cases h; exact ahy
 ·cases h; exact ahz
 ·cases h; exact ahA
 ·cases h; exact ahB
 ·cases h; exact ahC
 ·cases h; exact ahD
 ·cases h; exact age
 ·cases h; exact agf
 ·cases h; exact agh
 ·cases h; exact agi
 ·cases h; exact agj
 ·cases h; exact agk
 ·cases h; exact agl
 ·cases h; exact agm
 ·cases h; exact agn
 ·cases h; exact ago
 ·cases h; exact agp
 ·cases h; exact agq
 ·cases h; exact agr
 ·cases h; exact ags
 ·cases h; exact agt
 ·cases h; exact agv
 ·cases h; exact agw
 ·cases h; exact agx
 ·cases h; exact agy
 ·cases h; exact agz
 ·cases h; exact agA
 ·cases h; exact agB
 ·cases h; exact agC
 ·cases h; exact agD
 ·cases h; exact agE
 ·cases h; exact agF
 ·cases h; exact agG
 ·cases h; exact agI
 ·cases h; exact agJ
 ·cases h; exact agK
 ·cases h; exact agL
 ·cases h; exact agM
 ·cases h; exact agN
 ·cases h; exact agO
 ·cases h; exact agP
 ·cases h; exact agR
 ·cases h
end Go.Fw.L19
