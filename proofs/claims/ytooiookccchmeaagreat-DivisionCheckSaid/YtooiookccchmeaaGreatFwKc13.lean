/- Own work. -/
import Derived.Test.YtooiookccchmeaaGreatFwLc13
import Derived.Test.YtooiookccchmeaaGreatFwB6
import Derived.Test.YtooiookccchmeaaGreatProg
set_option linter.unusedVariables false
set_option linter.unusedSimpArgs false
namespace Go.Fw.L19
open Go Go.Fw
theorem ok8:okF Go.Proofs.Tryz.prog 8 d8=true:=by decide+kernel
theorem ahG:okF Go.Proofs.Tryz.prog 11 d11=true:=by decide+kernel
theorem ahP:okF Go.Proofs.Tryz.prog 12 d12=true:=by decide+kernel
theorem ahY:okF Go.Proofs.Tryz.prog 13 d13=true:=by decide+kernel
theorem aib:okF Go.Proofs.Tryz.prog 15 d15=true:=by decide+kernel
theorem ail:okF Go.Proofs.Tryz.prog 16 d16=true:=by decide+kernel
theorem ain:okF Go.Proofs.Tryz.prog 19 d19=true:=by decide+kernel
theorem aio:okF Go.Proofs.Tryz.prog 20 d20=true:=by decide+kernel
theorem aip:okF Go.Proofs.Tryz.prog 24 d24=true:=by decide+kernel
theorem aiq:okF Go.Proofs.Tryz.prog 28 d28=true:=by decide+kernel
theorem air:okF Go.Proofs.Tryz.prog 29 d29=true:=by decide+kernel
theorem ais:okF Go.Proofs.Tryz.prog 30 d30=true:=by decide+kernel
theorem ait:okF Go.Proofs.Tryz.prog 31 d31=true:=by decide+kernel
theorem aiu:okF Go.Proofs.Tryz.prog 34 d34=true:=by decide+kernel
theorem aiv:okF Go.Proofs.Tryz.prog 35 d35=true:=by decide+kernel
theorem aiw:okF Go.Proofs.Tryz.prog 37 d37=true:=by decide+kernel
theorem aix:okF Go.Proofs.Tryz.prog 38 d38=true:=by decide+kernel
theorem aiy:okF Go.Proofs.Tryz.prog 39 d39=true:=by decide+kernel
theorem aiz:okF Go.Proofs.Tryz.prog 40 d40=true:=by decide+kernel
theorem aiA:okF Go.Proofs.Tryz.prog 41 d41=true:=by decide+kernel
theorem aiB:okF Go.Proofs.Tryz.prog 42 d42=true:=by decide+kernel
theorem aiC:okF Go.Proofs.Tryz.prog 44 d44=true:=by decide+kernel
theorem aiD:okF Go.Proofs.Tryz.prog 45 d45=true:=by decide+kernel
theorem aiE:okF Go.Proofs.Tryz.prog 46 d46=true:=by decide+kernel
theorem aiF:okF Go.Proofs.Tryz.prog 47 d47=true:=by decide+kernel
theorem aiG:okF Go.Proofs.Tryz.prog 48 d48=true:=by decide+kernel
theorem aiH:okF Go.Proofs.Tryz.prog 53 d53=true:=by decide+kernel
theorem aiI:okF Go.Proofs.Tryz.prog 54 d54=true:=by decide+kernel
theorem aiJ:okF Go.Proofs.Tryz.prog 55 d55=true:=by decide+kernel
theorem aiK:okF Go.Proofs.Tryz.prog 57 d57=true:=by decide+kernel
theorem aiL:okF Go.Proofs.Tryz.prog 58 d58=true:=by decide+kernel
theorem aiM:okF Go.Proofs.Tryz.prog 59 d59=true:=by decide+kernel
theorem aiN:okF Go.Proofs.Tryz.prog 60 d60=true:=by decide+kernel
theorem aiO:okF Go.Proofs.Tryz.prog 61 d61=true:=by decide+kernel
theorem aiP:okF Go.Proofs.Tryz.prog 62 d62=true:=by decide+kernel
theorem aiQ:okF Go.Proofs.Tryz.prog 63 d63=true:=by decide+kernel
theorem aiR:okF Go.Proofs.Tryz.prog 66 d66=true:=by decide+kernel
theorem aiS:okF Go.Proofs.Tryz.prog 67 d67=true:=by decide+kernel
theorem aiT:okF Go.Proofs.Tryz.prog 69 d69=true:=by decide+kernel
theorem aiU:okF Go.Proofs.Tryz.prog 70 d70=true:=by decide+kernel
theorem aiV:okF Go.Proofs.Tryz.prog 71 d71=true:=by decide+kernel
theorem aiW:okF Go.Proofs.Tryz.prog 72 d72=true:=by decide+kernel
theorem aiX:okF Go.Proofs.Tryz.prog 73 d73=true:=by decide+kernel
theorem aiY:okF Go.Proofs.Tryz.prog 74 d74=true:=by decide+kernel
theorem aiZ:okF Go.Proofs.Tryz.prog 77 d77=true:=by decide+kernel
theorem ai0:okF Go.Proofs.Tryz.prog 78 d78=true:=by decide+kernel
theorem ai2:okF Go.Proofs.Tryz.prog 83 d83=true:=by decide+kernel
theorem ai3:okF Go.Proofs.Tryz.prog 86 d86=true:=by decide+kernel
theorem ai4:okF Go.Proofs.Tryz.prog 87 d87=true:=by decide+kernel
theorem ai5:okF Go.Proofs.Tryz.prog 88 d88=true:=by decide+kernel
theorem ai6:okF Go.Proofs.Tryz.prog 89 d89=true:=by decide+kernel
theorem ai7:okF Go.Proofs.Tryz.prog 90 d90=true:=by decide+kernel
theorem ai8:okF Go.Proofs.Tryz.prog 91 d91=true:=by decide+kernel
theorem ai9:okF Go.Proofs.Tryz.prog 92 d92=true:=by decide+kernel
theorem aja:okF Go.Proofs.Tryz.prog 93 d93=true:=by decide+kernel
theorem ajb:okF Go.Proofs.Tryz.prog 94 d94=true:=by decide+kernel
theorem ajc:okF Go.Proofs.Tryz.prog 95 d95=true:=by decide+kernel
theorem ajd:okF Go.Proofs.Tryz.prog 96 d96=true:=by decide+kernel
theorem aje:okF Go.Proofs.Tryz.prog 97 d97=true:=by decide+kernel
theorem ajf:okF Go.Proofs.Tryz.prog 98 d98=true:=by decide+kernel
theorem ajg:okF Go.Proofs.Tryz.prog 99 d99=true:=by decide+kernel
theorem ahH:okF Go.Proofs.Tryz.prog 110 d110=true:=by decide+kernel
theorem ahI:okF Go.Proofs.Tryz.prog 111 d111=true:=by decide+kernel
theorem ahJ:okF Go.Proofs.Tryz.prog 114 d114=true:=by decide+kernel
theorem ahK:okF Go.Proofs.Tryz.prog 115 d115=true:=by decide+kernel
theorem ahL:okF Go.Proofs.Tryz.prog 116 d116=true:=by decide+kernel
theorem ahM:okF Go.Proofs.Tryz.prog 117 d117=true:=by decide+kernel
theorem ahN:okF Go.Proofs.Tryz.prog 118 d118=true:=by decide+kernel
theorem ahO:okF Go.Proofs.Tryz.prog 119 d119=true:=by decide+kernel
theorem ahQ:okF Go.Proofs.Tryz.prog 120 d120=true:=by decide+kernel
theorem ahR:okF Go.Proofs.Tryz.prog 121 d121=true:=by decide+kernel
theorem ahS:okF Go.Proofs.Tryz.prog 122 d122=true:=by decide+kernel
theorem ahT:okF Go.Proofs.Tryz.prog 123 d123=true:=by decide+kernel
theorem ahU:okF Go.Proofs.Tryz.prog 124 d124=true:=by decide+kernel
theorem ahV:okF Go.Proofs.Tryz.prog 125 d125=true:=by decide+kernel
theorem ahW:okF Go.Proofs.Tryz.prog 126 d126=true:=by decide+kernel
theorem ahX:okF Go.Proofs.Tryz.prog 127 d127=true:=by decide+kernel
theorem ahZ:okF Go.Proofs.Tryz.prog 135 d135=true:=by decide+kernel
theorem ah0:okF Go.Proofs.Tryz.prog 136 d136=true:=by decide+kernel
theorem ah1:okF Go.Proofs.Tryz.prog 137 d137=true:=by decide+kernel
theorem ah2:okF Go.Proofs.Tryz.prog 138 d138=true:=by decide+kernel
theorem ah3:okF Go.Proofs.Tryz.prog 139 d139=true:=by decide+kernel
theorem ah4:okF Go.Proofs.Tryz.prog 140 d140=true:=by decide+kernel
theorem ah5:okF Go.Proofs.Tryz.prog 141 d141=true:=by decide+kernel
theorem ah6:okF Go.Proofs.Tryz.prog 142 d142=true:=by decide+kernel
theorem ah7:okF Go.Proofs.Tryz.prog 143 d143=true:=by decide+kernel
theorem ah8:okF Go.Proofs.Tryz.prog 144 d144=true:=by decide+kernel
theorem ah9:okF Go.Proofs.Tryz.prog 148 d148=true:=by decide+kernel
theorem aia:okF Go.Proofs.Tryz.prog 149 d149=true:=by decide+kernel
theorem aic:okF Go.Proofs.Tryz.prog 150 d150=true:=by decide+kernel
theorem aid:okF Go.Proofs.Tryz.prog 151 d151=true:=by decide+kernel
theorem aie:okF Go.Proofs.Tryz.prog 152 d152=true:=by decide+kernel
theorem aif:okF Go.Proofs.Tryz.prog 153 d153=true:=by decide+kernel
theorem aih:okF Go.Proofs.Tryz.prog 154 d154=true:=by decide+kernel
theorem aii:okF Go.Proofs.Tryz.prog 155 d155=true:=by decide+kernel
theorem aij:okF Go.Proofs.Tryz.prog 158 d158=true:=by decide+kernel
theorem aik:okF Go.Proofs.Tryz.prog 159 d159=true:=by decide+kernel
theorem aim:okF Go.Proofs.Tryz.prog 160 d160=true:=by decide+kernel
theorem Mw:∀ (f:FuncId) (fd:FD),table f=some fd→okF Go.Proofs.Tryz.prog f fd=true:=by
 intro f fd h
 unfold table at h
 split at h
 ·cases h; exact ok8
 ·cases h; exact ahG
 ·cases h; exact ahP
 ·cases h; exact ahY
 ·cases h; exact aib
 ·cases h; exact ail
 ·cases h; exact ain
 ·cases h; exact aio
 ·cases h; exact aip
 ·cases h; exact aiq
 ·cases h; exact air
 ·cases h; exact ais
 ·cases h; exact ait
 ·cases h; exact aiu
 ·cases h; exact aiv
 ·cases h; exact aiw
 ·cases h; exact aix
 ·cases h; exact aiy
 ·cases h; exact aiz
 ·cases h; exact aiC
 ·cases h; exact aiD
 ·cases h; exact aiE
 ·cases h; exact aiF
 ·cases h; exact aiG
 ·cases h; exact aiH
 ·cases h; exact aiI
 ·cases h; exact aiJ
 ·cases h; exact aiK
 ·cases h; exact aiL
 ·cases h; exact aiM
 ·cases h; exact aiN
 ·cases h; exact aiO
 ·cases h; exact aiP
 ·cases h; exact aiQ
 ·cases h; exact aiR
 ·cases h; exact aiS
 ·cases h; exact aiT
 ·cases h; exact aiU
 ·cases h; exact aiV
 ·cases h; exact aiW
 ·cases h; exact aiX
 ·cases h; exact aiY
 ·cases h; exact aiZ
 ·cases h; exact ai0
 ·cases h; exact ai2
 ·cases h; exact ai3
 ·cases h; exact ai4
 ·cases h; exact ai5
 ·cases h; exact ai6
 ·cases h; exact ai7
 ·cases h; exact ai8
 ·cases h; exact ai9
 ·cases h; exact aja
 ·cases h; exact ajb
 ·cases h; exact ajc
 ·cases h; exact ajd
 ·cases h; exact aje
 ·cases h; exact ajf
 ·cases h; exact ajg
 ·cases h; exact ahH
 ·cases h; exact ahI
 ·cases h; exact ahJ
 ·cases h; exact ahK
 ·cases h; exact ahL
 ·cases h; exact ahM
 ·cases h; exact ahN
 ·cases h; exact ahO
 ·cases h; exact ahQ
 ·cases h; exact ahR
 ·cases h; exact ahS
 ·cases h; exact ahT
 ·cases h; exact ahU
 ·cases h; exact ahV
 ·cases h; exact ahW
 ·cases h; exact ahX
 ·cases h; exact ahZ
 ·cases h; exact ah0
 ·cases h; exact ah1
 ·cases h; exact ah2
 ·cases h; exact ah3
 ·cases h; exact ah4
 ·cases h; exact ah5
 ·cases h; exact ah6
 ·cases h; exact ah7
 ·cases h; exact ah8
 ·cases h; exact ah9
 ·cases h; exact aia
 ·cases h; exact aic
 ·cases h; exact aid
 ·cases h; exact aie
 ·cases h; exact aif
 ·cases h; exact aih
 ·cases h; exact aii
 ·cases h; exact aij
 ·cases h; exact aik
 ·cases h; exact aim
 ·cases h
end Go.Fw.L19
