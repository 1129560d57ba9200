import Derived.Test.YtngkconohhikpaaFwL16
import Derived.Test.YtngkconohhikpaaFwS24
import Derived.KernelRfl
set_option linter.unusedVariables false
set_option linter.unusedSimpArgs false
namespace Go.Fw.L16
open Go Go.Fw
def noPrims : Prims := fun _ => none
def isTrue : Option (List E) → Bool
  | some [.v .bool true] => true
  | _ => false

def e0 (q c : Int) (b : Bool) : Env := params 0 [.v (.int .u8) q, .v (.int .u8) c, .v .bool b]
def e3 (x y : Int) (b : Bool) : Env := [(2, .v .bool b), (7, .v (.int .i64) (IntKind.i64.wrap (1 + IntKind.i64.wrap x))), (8, .v (.int .i64) (IntKind.i64.wrap (1 + IntKind.i64.wrap y)))]
theorem pre (X : AC) (K : KE (List E)) (q c : Int) (b : Bool) : exec (acall table noPrims 60 20) 60 (.seq (.reg [0, 1, 2] c8_r0) (.seq (.seq (.reg [0, 1, 2] c8_r1) (.cond (.t 16) (.seq (.reg [] c8_r2) .ret) .skip)) X)) (e0 q c b) K =
  exec (acall table noPrims 60 20) 60 X ((16, .v .bool false) :: (15, .v .bool true) :: keep [0, 1, 2] (e0 q c b)) K := by kernel_rfl
theorem mid (l : List AI) (Z : AC) (K : KE (List E)) (q c : Int) (b : Bool) : exec (acall table noPrims 60 20) 60 (.seq (.reg [0, 1, 2] c8_r3) (.seq (.reg [2, 7, 8] l) Z)) ((16, .v .bool false) :: (15, .v .bool true) :: keep [0, 1, 2] (e0 q c b)) K =
  exec (acall table noPrims 60 20) 60 (.seq (.reg [2, 7, 8] l) Z) (e3 (q.tmod 3) (c.tmod 4) b) K := by kernel_rfl

def rest8 : AC := (.seq (.reg [2, 7, 8, 9, 10, 29] c8_r5) (.seq (.seq (.reg [8, 9, 10, 11, 12, 29, 35] c8_r6) (.cond (.t 54) (.seq (.reg [] c8_r7) .ret) .skip)) (.seq (.reg [8, 9, 11, 29, 35] c8_r8) (.seq (.reg [8, 13, 14] c8_r9) .ret))))
def fin (x y : Int) (b : Bool) : Option (List E) := exec (acall table noPrims 60 20) 60 (.seq (.reg [2, 7, 8] c8_r4) rest8) (e3 x y b) (retK d8)
theorem fin_ok (b : Bool) : ∀ x ∈ [0, 1, 2], ∀ y ∈ [0, 1, 2, 3], isTrue (fin x y b) = true := by
  cases b <;> decide +kernel
theorem all8 (q c : Int) (b : Bool) : acall table noPrims 60 21 8 [.v (.int .u8) q, .v (.int .u8) c, .v .bool b] = fin (q.tmod 3) (c.tmod 4) b :=
  (pre (.seq (.reg [0, 1, 2] c8_r3) (.seq (.reg [2, 7, 8] c8_r4) rest8)) (retK d8) q c b).trans (mid c8_r4 rest8 (retK d8) q c b)
end Go.Fw.L16
