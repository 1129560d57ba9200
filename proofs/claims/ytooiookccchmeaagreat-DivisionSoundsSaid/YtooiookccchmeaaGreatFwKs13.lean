/- Own work. -/
import Derived.Test.YtooiookccchmeaaGreatFwLs13
import Derived.Test.YtooiookccchmeaaGreatFwB6
import Derived.Test.YtooiookccchmeaaGreatProg
set_option linter.unusedVariables false
set_option linter.unusedSimpArgs false
namespace Go.Fw.L19
open Go Go.Fw
theorem ok7:okF Go.Proofs.Tryz.prog 7 d7=true:=by decide+kernel
theorem aeo:okF Go.Proofs.Tryz.prog 11 d11=true:=by decide+kernel
theorem aew:okF Go.Proofs.Tryz.prog 12 d12=true:=by decide+kernel
theorem aeF:okF Go.Proofs.Tryz.prog 13 d13=true:=by decide+kernel
theorem aeS:okF Go.Proofs.Tryz.prog 15 d15=true:=by decide+kernel
theorem ae1:okF Go.Proofs.Tryz.prog 16 d16=true:=by decide+kernel
theorem ae3:okF Go.Proofs.Tryz.prog 19 d19=true:=by decide+kernel
theorem ae4:okF Go.Proofs.Tryz.prog 20 d20=true:=by decide+kernel
theorem ae5:okF Go.Proofs.Tryz.prog 22 d22=true:=by decide+kernel
theorem ae6:okF Go.Proofs.Tryz.prog 23 d23=true:=by decide+kernel
theorem ae7:okF Go.Proofs.Tryz.prog 24 d24=true:=by decide+kernel
theorem ae8:okF Go.Proofs.Tryz.prog 25 d25=true:=by decide+kernel
theorem ae9:okF Go.Proofs.Tryz.prog 26 d26=true:=by decide+kernel
theorem afa:okF Go.Proofs.Tryz.prog 27 d27=true:=by decide+kernel
theorem afb:okF Go.Proofs.Tryz.prog 28 d28=true:=by decide+kernel
theorem afc:okF Go.Proofs.Tryz.prog 34 d34=true:=by decide+kernel
theorem afd:okF Go.Proofs.Tryz.prog 35 d35=true:=by decide+kernel
theorem afe:okF Go.Proofs.Tryz.prog 37 d37=true:=by decide+kernel
theorem aff:okF Go.Proofs.Tryz.prog 38 d38=true:=by decide+kernel
theorem afg:okF Go.Proofs.Tryz.prog 40 d40=true:=by decide+kernel
theorem afh:okF Go.Proofs.Tryz.prog 41 d41=true:=by decide+kernel
theorem afi:okF Go.Proofs.Tryz.prog 42 d42=true:=by decide+kernel
theorem afj:okF Go.Proofs.Tryz.prog 44 d44=true:=by decide+kernel
theorem afk:okF Go.Proofs.Tryz.prog 45 d45=true:=by decide+kernel
theorem afl:okF Go.Proofs.Tryz.prog 46 d46=true:=by decide+kernel
theorem afm:okF Go.Proofs.Tryz.prog 47 d47=true:=by decide+kernel
theorem afn:okF Go.Proofs.Tryz.prog 53 d53=true:=by decide+kernel
theorem afo:okF Go.Proofs.Tryz.prog 54 d54=true:=by decide+kernel
theorem afp:okF Go.Proofs.Tryz.prog 55 d55=true:=by decide+kernel
theorem afq:okF Go.Proofs.Tryz.prog 56 d56=true:=by decide+kernel
theorem afr:okF Go.Proofs.Tryz.prog 57 d57=true:=by decide+kernel
theorem afs:okF Go.Proofs.Tryz.prog 58 d58=true:=by decide+kernel
theorem aft:okF Go.Proofs.Tryz.prog 59 d59=true:=by decide+kernel
theorem afu:okF Go.Proofs.Tryz.prog 60 d60=true:=by decide+kernel
theorem afv:okF Go.Proofs.Tryz.prog 61 d61=true:=by decide+kernel
theorem afw:okF Go.Proofs.Tryz.prog 66 d66=true:=by decide+kernel
theorem afx:okF Go.Proofs.Tryz.prog 67 d67=true:=by decide+kernel
theorem afy:okF Go.Proofs.Tryz.prog 69 d69=true:=by decide+kernel
theorem afA:okF Go.Proofs.Tryz.prog 70 d70=true:=by decide+kernel
theorem afB:okF Go.Proofs.Tryz.prog 71 d71=true:=by decide+kernel
theorem afC:okF Go.Proofs.Tryz.prog 72 d72=true:=by decide+kernel
theorem afD:okF Go.Proofs.Tryz.prog 73 d73=true:=by decide+kernel
theorem afE:okF Go.Proofs.Tryz.prog 74 d74=true:=by decide+kernel
theorem afF:okF Go.Proofs.Tryz.prog 77 d77=true:=by decide+kernel
theorem afG:okF Go.Proofs.Tryz.prog 83 d83=true:=by decide+kernel
theorem afH:okF Go.Proofs.Tryz.prog 86 d86=true:=by decide+kernel
theorem afI:okF Go.Proofs.Tryz.prog 87 d87=true:=by decide+kernel
theorem afJ:okF Go.Proofs.Tryz.prog 90 d90=true:=by decide+kernel
theorem afK:okF Go.Proofs.Tryz.prog 91 d91=true:=by decide+kernel
theorem afL:okF Go.Proofs.Tryz.prog 92 d92=true:=by decide+kernel
theorem afM:okF Go.Proofs.Tryz.prog 93 d93=true:=by decide+kernel
theorem afN:okF Go.Proofs.Tryz.prog 94 d94=true:=by decide+kernel
theorem afO:okF Go.Proofs.Tryz.prog 95 d95=true:=by decide+kernel
theorem afP:okF Go.Proofs.Tryz.prog 96 d96=true:=by decide+kernel
theorem afQ:okF Go.Proofs.Tryz.prog 97 d97=true:=by decide+kernel
theorem afR:okF Go.Proofs.Tryz.prog 98 d98=true:=by decide+kernel
theorem afS:okF Go.Proofs.Tryz.prog 99 d99=true:=by decide+kernel
theorem aep:okF Go.Proofs.Tryz.prog 111 d111=true:=by decide+kernel
theorem aeq:okF Go.Proofs.Tryz.prog 114 d114=true:=by decide+kernel
theorem aer:okF Go.Proofs.Tryz.prog 115 d115=true:=by decide+kernel
theorem aes:okF Go.Proofs.Tryz.prog 116 d116=true:=by decide+kernel
theorem aet:okF Go.Proofs.Tryz.prog 117 d117=true:=by decide+kernel
theorem aeu:okF Go.Proofs.Tryz.prog 118 d118=true:=by decide+kernel
theorem aev:okF Go.Proofs.Tryz.prog 119 d119=true:=by decide+kernel
theorem aex:okF Go.Proofs.Tryz.prog 120 d120=true:=by decide+kernel
theorem aey:okF Go.Proofs.Tryz.prog 121 d121=true:=by decide+kernel
theorem aez:okF Go.Proofs.Tryz.prog 122 d122=true:=by decide+kernel
theorem aeA:okF Go.Proofs.Tryz.prog 123 d123=true:=by decide+kernel
theorem aeB:okF Go.Proofs.Tryz.prog 124 d124=true:=by decide+kernel
theorem aeC:okF Go.Proofs.Tryz.prog 125 d125=true:=by decide+kernel
theorem aeD:okF Go.Proofs.Tryz.prog 126 d126=true:=by decide+kernel
theorem aeE:okF Go.Proofs.Tryz.prog 127 d127=true:=by decide+kernel
theorem aeG:okF Go.Proofs.Tryz.prog 135 d135=true:=by decide+kernel
theorem aeH:okF Go.Proofs.Tryz.prog 136 d136=true:=by decide+kernel
theorem aeI:okF Go.Proofs.Tryz.prog 137 d137=true:=by decide+kernel
theorem aeJ:okF Go.Proofs.Tryz.prog 138 d138=true:=by decide+kernel
theorem aeK:okF Go.Proofs.Tryz.prog 139 d139=true:=by decide+kernel
theorem aeL:okF Go.Proofs.Tryz.prog 140 d140=true:=by decide+kernel
theorem aeM:okF Go.Proofs.Tryz.prog 141 d141=true:=by decide+kernel
theorem aeN:okF Go.Proofs.Tryz.prog 142 d142=true:=by decide+kernel
theorem aeO:okF Go.Proofs.Tryz.prog 143 d143=true:=by decide+kernel
theorem aeP:okF Go.Proofs.Tryz.prog 144 d144=true:=by decide+kernel
theorem aeQ:okF Go.Proofs.Tryz.prog 148 d148=true:=by decide+kernel
theorem aeR:okF Go.Proofs.Tryz.prog 149 d149=true:=by decide+kernel
theorem aeT:okF Go.Proofs.Tryz.prog 150 d150=true:=by decide+kernel
theorem aeU:okF Go.Proofs.Tryz.prog 151 d151=true:=by decide+kernel
theorem aeV:okF Go.Proofs.Tryz.prog 152 d152=true:=by decide+kernel
theorem aeW:okF Go.Proofs.Tryz.prog 153 d153=true:=by decide+kernel
theorem aeX:okF Go.Proofs.Tryz.prog 154 d154=true:=by decide+kernel
theorem aeY:okF Go.Proofs.Tryz.prog 155 d155=true:=by decide+kernel
theorem aeZ:okF Go.Proofs.Tryz.prog 158 d158=true:=by decide+kernel
theorem ae0:okF Go.Proofs.Tryz.prog 159 d159=true:=by decide+kernel
theorem ae2:okF Go.Proofs.Tryz.prog 160 d160=true:=by decide+kernel
theorem Ji:∀ (f:FuncId) (fd:FD),table f=some fd→okF Go.Proofs.Tryz.prog f fd=true:=by
 intro f fd h
 unfold table at h
 split at h
 ·cases h; exact ok7
 ·cases h; exact aeo
 ·cases h; exact aew
 ·cases h; exact aeF
 ·cases h; exact aeS
 ·cases h; exact ae1
 ·cases h; exact ae3
 ·cases h; exact ae4
 ·cases h; exact ae5
 ·cases h; exact ae6
 ·cases h; exact ae7
 ·cases h; exact ae8
 ·cases h; exact ae9
 ·cases h; exact afa
 ·cases h; exact afb
 ·cases h; exact afc
 ·cases h; exact afd
 ·cases h; exact afe
 ·cases h; exact aff
 ·cases h; exact afg
 ·cases h; exact afj
 ·cases h; exact afk
 ·cases h; exact afl
 ·cases h; exact afm
 ·cases h; exact afn
 ·cases h; exact afo
 ·cases h; exact afp
 ·cases h; exact afq
 ·cases h; exact afr
 ·cases h; exact afs
 ·cases h; exact aft
 ·cases h; exact afu
 ·cases h; exact afv
 ·cases h; exact afw
 ·cases h; exact afx
 ·cases h; exact afy
 ·cases h; exact afA
 ·cases h; exact afB
 ·cases h; exact afC
 ·cases h; exact afD
 ·cases h; exact afE
 ·cases h; exact afF
 ·cases h; exact afG
 ·cases h; exact afH
 ·cases h; exact afI
 ·cases h; exact afJ
 ·cases h; exact afK
 ·cases h; exact afL
 ·cases h; exact afM
 ·cases h; exact afN
 ·cases h; exact afO
 ·cases h; exact afP
 ·cases h; exact afQ
 ·cases h; exact afR
 ·cases h; exact afS
 ·cases h; exact aep
 ·cases h; exact aeq
 ·cases h; exact aer
 ·cases h; exact aes
 ·cases h; exact aet
 ·cases h; exact aeu
 ·cases h; exact aev
 ·cases h; exact aex
 ·cases h; exact aey
 ·cases h; exact aez
 ·cases h; exact aeA
 ·cases h; exact aeB
 ·cases h; exact aeC
 ·cases h; exact aeD
 ·cases h; exact aeE
 ·cases h; exact aeG
 ·cases h; exact aeH
 ·cases h; exact aeI
 ·cases h; exact aeJ
 ·cases h; exact aeK
 ·cases h; exact aeL
 ·cases h; exact aeM
 ·cases h; exact aeN
 ·cases h; exact aeO
 ·cases h; exact aeP
 ·cases h; exact aeQ
 ·cases h; exact aeR
 ·cases h; exact aeT
 ·cases h; exact aeU
 ·cases h; exact aeV
 ·cases h; exact aeW
 ·cases h; exact aeX
 ·cases h; exact aeY
 ·cases h; exact aeZ
 ·cases h; exact ae0
 ·cases h; exact ae2
 ·cases h
end Go.Fw.L19
