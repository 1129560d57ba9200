/- Own work. -/
import Derived.Test.YtooiookccchmeaaGreatFwMc13b
import Derived.Test.YtooiookccchmeaaGreatFwB4
set_option linter.unusedVariables false
set_option linter.unusedSimpArgs false
namespace Go.Fw.L19
open Go Go.Fw
set_option maxRecDepth 100000
variable {N:Nat} {cl:aA} {R:Type} {K:KE R}
def Lb (gp:Option (Bool)) (hR:ae→V3→V0→Option (Bool)) (er:ae→V3→Option qL) (cK:ae→V3→Option nB) (ik:ae→V3→V0→Option V1) (il:ae→V3→V0→Option V1) (im:V7→V0→Option (Bool)) (k0:Bool→Option R) (k1:Bool→Option R) (k2:Bool→Option R) (k3:Bool→Option R) (x0:ae) (x1:V3) (x2:V0):Option R:=
(gp).bind fun r1716=>
ad (!r1716) ((gp).bind fun r1717=>
k0 r1717) ((hR x0 x1 x2).bind fun r1718=>
ad (!r1718) ((gp).bind fun r1719=>
k0 r1719) ((ik x0 x1 x2).bind fun r1720=>
(il x0 x1 x2).bind fun r1721=>
ad (r1720.2 != r1721.2) (k1 false) (ad (r1720.1 != r1721.1) (k1 false) ((cK x0 x1).bind fun r1724=>
ad (r1724.2 != (0:Int)) (ad (r1720.2 != (0:Int)) (k2 true) (k2 (r1724.2==(3:Int)))) ((er x0 x1).bind fun r1728=>
(im r1724.1 x2).bind fun r1729=>
ad (r1729==(r1720.2==(0:Int))) (ad (r1720.2 != (0:Int)) (k3 true) (k3 (decide (r1720.1≥r1728.2.1)))) (k3 false))))))
theorem atx (gp) (hR) (er) (cK) (ik) (il) (im) (h11:(Ci gp).holds cl) (h12:(IP hR).holds cl) (h13:(uM er).holds cl) (h16:(oV cK).holds cl) (h29:(I7 ik).holds cl) (h30:(I8 il).holds cl) (h31:(I9 im).holds cl) (x0 x1 x2):exec cl N RF (lJ x0 x1 x2) K=(Lb gp hR er cK ik il im (fun y0=>K .ret (SP y0)) (fun y0=>K .ret (SQ y0)) (fun y0=>K .ret (SR y0)) (fun y0=>K .ret [(6,.v .bool y0)]) x0 x1 x2):=by
 rw [←aJ h11]
 rw [←aJ h12]
 rw [←aJ h13]
 rw [←aJ h16]
 rw [←aJ h29]
 rw [←aJ h30]
 rw [←aJ h31]
 kernel_rfl
theorem alZ (y0):ag d8 .ret (SP y0)=some [.v .bool y0]:=by kernel_rfl
theorem al0 (y0):ag d8 .ret (SQ y0)=some [.v .bool y0]:=by kernel_rfl
theorem al6 (y0):ag d8 .ret (SR y0)=some [.v .bool y0]:=by kernel_rfl
theorem al7 (y0):ag d8 .ret [(6,.v .bool y0)]=some [.v .bool y0]:=by kernel_rfl
def g8 (gp:Option (Bool)) (hR:ae→V3→V0→Option (Bool)) (er:ae→V3→Option qL) (cK:ae→V3→Option nB) (ik:ae→V3→V0→Option V1) (il:ae→V3→V0→Option V1) (im:V7→V0→Option (Bool)) (x0:ae) (x1:V3) (x2:V0) (k:Bool→Option R):Option R:=
(Lb gp hR er cK ik il im k k k k x0 x1 x2)
theorem aaA (gp) (hR) (er) (cK) (ik) (il) (im) (h11:(Ci gp).holds cl) (h12:(IP hR).holds cl) (h13:(uM er).holds cl) (h16:(oV cK).holds cl) (h29:(I7 ik).holds cl) (h30:(I8 il).holds cl) (h31:(I9 im).holds cl) (x0 x1 x2) (k:List E→Option R):exec cl N c8 (lJ x0 x1 x2) (fun e env=>(ag d8 e env).bind k)=g8 gp hR er cK ik il im x0 x1 x2 (fun r0=>k [.v .bool r0]):=by
 simp only [c8,atx gp hR er cK ik il im h11 h12 h13 h16 h29 h30 h31,alZ,al0,al6,al7,Option.bind_some]
 rfl
def avm (S:ae→V3→V0→Option (Bool)):aN:=rA 8 ar .str U5 S fun b=> [.v .bool b]
def S8 (N:Nat) (x0:ae) (x1:V3) (x2:V0):Option (Bool):=g8 (gp N) (hR N) (er N) (cK N) (ik N) (il N) (im N) x0 x1 x2 (fun (r0:Bool)=>some (r0))
end Go.Fw.L19
