/- Printed by an own program for this claim: the machine's code of functions, or their typed forms with their equations; no conditions. -/
import Derived.Test.YtnobiophckdjfaaFwB5
import Derived.Test.YtnobiophckdjfaaFwYhy51
set_option linter.unusedVariables false
set_option linter.unusedSimpArgs false
namespace Go.Fw.L51
open Go Go.Fw
set_option maxRecDepth 100000
set_option linter.unusedVariables false
-- ancepsref02.Gcd
def fs_fc1 : List Fact := []
theorem fc1 (D : Nat) : (acall table prims 2000 (D + 4)).run 83 [.v (.pair (.sl (.int .i64)) .unit) ([1], ()), .v (.pair (.sl (.int .i64)) .unit) ([3], ())] = some [.v (.pair (.sl (.int .i64)) .unit) ([1], ()), .v (.int .i64) 0] :=
  fact_of fs_fc1 rfl rfl rfl rfl trivial (by kernel_rfl)
-- ancepsref02.divide
def fs_fc2 : List Fact := []
theorem fc2 (D : Nat) : (acall table prims 2000 (D + 4)).run 110 [.v (.sl (.int .i64)) [1], .v (.sl (.int .i64)) [1]] = some [.v (.sl (.int .i64)) [1], .v (.sl (.int .i64)) []] :=
  fact_of fs_fc2 rfl rfl rfl rfl trivial (by kernel_rfl)
-- ancepsref02.Div
def fs_fc3 : List Fact := [(110, [.v (.sl (.int .i64)) [1], .v (.sl (.int .i64)) [1]], [.v (.sl (.int .i64)) [1], .v (.sl (.int .i64)) []])]
theorem fc3 (D : Nat) : (acall table prims 2000 (D + 5)).run 84 [.v (.pair (.sl (.int .i64)) .unit) ([1], ()), .v (.pair (.sl (.int .i64)) .unit) ([1], ())] = some [.v (.pair (.sl (.int .i64)) .unit) ([1], ()), .v (.pair (.sl (.int .i64)) .unit) ([], ()), .v (.int .i64) 0] :=
  fact_of fs_fc3 rfl rfl rfl rfl ⟨fc2 (D + 0), trivial⟩ (by kernel_rfl)
-- ancepsref02.divide
def fs_fc4 : List Fact := []
theorem fc4 (D : Nat) : (acall table prims 2000 (D + 4)).run 110 [.v (.sl (.int .i64)) [3], .v (.sl (.int .i64)) [1]] = some [.v (.sl (.int .i64)) [3], .v (.sl (.int .i64)) []] :=
  fact_of fs_fc4 rfl rfl rfl rfl trivial (by kernel_rfl)
-- ancepsref02.Div
def fs_fc5 : List Fact := [(110, [.v (.sl (.int .i64)) [3], .v (.sl (.int .i64)) [1]], [.v (.sl (.int .i64)) [3], .v (.sl (.int .i64)) []])]
theorem fc5 (D : Nat) : (acall table prims 2000 (D + 5)).run 84 [.v (.pair (.sl (.int .i64)) .unit) ([3], ()), .v (.pair (.sl (.int .i64)) .unit) ([1], ())] = some [.v (.pair (.sl (.int .i64)) .unit) ([3], ()), .v (.pair (.sl (.int .i64)) .unit) ([], ()), .v (.int .i64) 0] :=
  fact_of fs_fc5 rfl rfl rfl rfl ⟨fc4 (D + 0), trivial⟩ (by kernel_rfl)
-- ancepsref03.lowest
def fs_fc6 : List Fact := [(83, [.v (.pair (.sl (.int .i64)) .unit) ([1], ()), .v (.pair (.sl (.int .i64)) .unit) ([3], ())], [.v (.pair (.sl (.int .i64)) .unit) ([1], ()), .v (.int .i64) 0]), (84, [.v (.pair (.sl (.int .i64)) .unit) ([1], ()), .v (.pair (.sl (.int .i64)) .unit) ([1], ())], [.v (.pair (.sl (.int .i64)) .unit) ([1], ()), .v (.pair (.sl (.int .i64)) .unit) ([], ()), .v (.int .i64) 0]), (84, [.v (.pair (.sl (.int .i64)) .unit) ([3], ()), .v (.pair (.sl (.int .i64)) .unit) ([1], ())], [.v (.pair (.sl (.int .i64)) .unit) ([3], ()), .v (.pair (.sl (.int .i64)) .unit) ([], ()), .v (.int .i64) 0])]
theorem fc6 (D : Nat) : (acall table prims 2000 (D + 6)).run 52 [.v .bool false, .v (.pair (.sl (.int .i64)) .unit) ([1], ()), .v (.pair (.sl (.int .i64)) .unit) ([3], ())] = some [.v (.pair .bool (.pair (.pair (.sl (.int .i64)) .unit) (.pair (.pair (.sl (.int .i64)) .unit) .unit))) (false, (([1], ()), (([3], ()), ())))] :=
  fact_of fs_fc6 rfl rfl rfl rfl ⟨fc1 (D + 1), fc3 (D + 0), fc5 (D + 0), trivial⟩ (by kernel_rfl)
-- ancepsref51.Made
def fs_fc7 : List Fact := [(52, [.v .bool false, .v (.pair (.sl (.int .i64)) .unit) ([1], ()), .v (.pair (.sl (.int .i64)) .unit) ([3], ())], [.v (.pair .bool (.pair (.pair (.sl (.int .i64)) .unit) (.pair (.pair (.sl (.int .i64)) .unit) .unit))) (false, (([1], ()), (([3], ()), ())))])]
theorem fc7 (D : Nat) : (acall table prims 2000 (D + 8)).run 22 [.v (.int .u8) 1, .v (.int .u8) 2] = some [.v (.pair .bool (.pair (.pair (.sl (.int .i64)) .unit) (.pair (.pair (.sl (.int .i64)) .unit) .unit))) (false, (([1], ()), (([3], ()), ())))] :=
  fact_of fs_fc7 rfl rfl rfl rfl ⟨fc6 (D + 1), trivial⟩ (by kernel_rfl)
-- natural.divide
def fs_fc8 : List Fact := []
theorem fc8 (D : Nat) : (acall table prims 2000 (D + 4)).run 115 [.v (.sl (.int .i64)) [1], .v (.sl (.int .i64)) [3]] = some [.v (.sl (.int .i64)) [], .v (.sl (.int .i64)) [1]] :=
  fact_of fs_fc8 rfl rfl rfl rfl trivial (by kernel_rfl)
-- natural.divide
def fs_fc9 : List Fact := []
theorem fc9 (D : Nat) : (acall table prims 2000 (D + 4)).run 115 [.v (.sl (.int .i64)) [3], .v (.sl (.int .i64)) [1]] = some [.v (.sl (.int .i64)) [3], .v (.sl (.int .i64)) []] :=
  fact_of fs_fc9 rfl rfl rfl rfl trivial (by kernel_rfl)
-- natural.Gcd
def fs_fc10 : List Fact := [(115, [.v (.sl (.int .i64)) [1], .v (.sl (.int .i64)) [3]], [.v (.sl (.int .i64)) [], .v (.sl (.int .i64)) [1]]), (115, [.v (.sl (.int .i64)) [3], .v (.sl (.int .i64)) [1]], [.v (.sl (.int .i64)) [3], .v (.sl (.int .i64)) []])]
theorem fc10 (D : Nat) : (acall table prims 2000 (D + 6)).run 101 [.v (.pair (.sl (.int .i64)) .unit) ([1], ()), .v (.pair (.sl (.int .i64)) .unit) ([3], ())] = some [.v (.pair (.sl (.int .i64)) .unit) ([1], ()), .v (.int .i64) 0] :=
  fact_of fs_fc10 rfl rfl rfl rfl ⟨fc8 (D + 1), fc9 (D + 1), trivial⟩ (by kernel_rfl)
-- fraction.Valid
def fs_fc11 : List Fact := [(101, [.v (.pair (.sl (.int .i64)) .unit) ([1], ()), .v (.pair (.sl (.int .i64)) .unit) ([3], ())], [.v (.pair (.sl (.int .i64)) .unit) ([1], ()), .v (.int .i64) 0])]
theorem fc11 (D : Nat) : (acall table prims 2000 (D + 7)).run 97 [.v (.pair .bool (.pair (.pair (.sl (.int .i64)) .unit) (.pair (.pair (.sl (.int .i64)) .unit) .unit))) (false, (([1], ()), (([3], ()), ())))] = some [.v .bool true] :=
  fact_of fs_fc11 rfl rfl rfl rfl ⟨fc10 (D + 0), trivial⟩ (by kernel_rfl)
-- binomial.given
def fs_fc12 : List Fact := [(97, [.v (.pair .bool (.pair (.pair (.sl (.int .i64)) .unit) (.pair (.pair (.sl (.int .i64)) .unit) .unit))) (false, (([1], ()), (([3], ()), ())))], [.v .bool true])]
theorem fc12 (D : Nat) : (acall table prims 2000 (D + 9)).run 43 [.v (.int .i64) 2, .v (.int .i64) 0, .v (.int .i64) 60, .v (.int .i64) 0, .v (.pair .bool (.pair (.pair (.sl (.int .i64)) .unit) (.pair (.pair (.sl (.int .i64)) .unit) .unit))) (false, (([1], ()), (([3], ()), ())))] = some [.v (.int .i64) 1, .v (.int .i64) 3, .v (.int .i64) 0] :=
  fact_of fs_fc12 rfl rfl rfl rfl ⟨fc11 (D + 1), trivial⟩ (by kernel_rfl)
-- natural.Binomial
def fs_fc13 : List Fact := []
theorem fc13 (D : Nat) : (acall table prims 2000 (D + 5)).run 92 [.v (.int .i64) 2, .v (.int .i64) 0] = some [.v (.pair (.sl (.int .i64)) .unit) ([1], ()), .v (.int .i64) 0] :=
  fact_of fs_fc13 rfl rfl rfl rfl trivial (by kernel_rfl)
-- binomial.share
def fs_fc14 : List Fact := [(92, [.v (.int .i64) 2, .v (.int .i64) 0], [.v (.pair (.sl (.int .i64)) .unit) ([1], ()), .v (.int .i64) 0])]
theorem fc14 (D : Nat) : (acall table prims 2000 (D + 9)).run 45 [.v (.int .i64) 2, .v (.int .i64) 0, .v (.int .i64) 1, .v (.int .i64) 3] = some [.v (.pair (.sl (.int .i64)) .unit) ([4], ())] :=
  fact_of fs_fc14 rfl rfl rfl rfl ⟨fc13 (D + 3), trivial⟩ (by kernel_rfl)
-- natural.divide
def fs_fc15 : List Fact := []
theorem fc15 (D : Nat) : (acall table prims 2000 (D + 4)).run 115 [.v (.sl (.int .i64)) [4], .v (.sl (.int .i64)) [9]] = some [.v (.sl (.int .i64)) [], .v (.sl (.int .i64)) [4]] :=
  fact_of fs_fc15 rfl rfl rfl rfl trivial (by kernel_rfl)
-- natural.divide
def fs_fc16 : List Fact := []
theorem fc16 (D : Nat) : (acall table prims 2000 (D + 4)).run 115 [.v (.sl (.int .i64)) [9], .v (.sl (.int .i64)) [4]] = some [.v (.sl (.int .i64)) [2], .v (.sl (.int .i64)) [1]] :=
  fact_of fs_fc16 rfl rfl rfl rfl trivial (by kernel_rfl)
-- natural.divide
def fs_fc17 : List Fact := []
theorem fc17 (D : Nat) : (acall table prims 2000 (D + 4)).run 115 [.v (.sl (.int .i64)) [4], .v (.sl (.int .i64)) [1]] = some [.v (.sl (.int .i64)) [4], .v (.sl (.int .i64)) []] :=
  fact_of fs_fc17 rfl rfl rfl rfl trivial (by kernel_rfl)
-- natural.Gcd
def fs_fc18 : List Fact := [(115, [.v (.sl (.int .i64)) [4], .v (.sl (.int .i64)) [9]], [.v (.sl (.int .i64)) [], .v (.sl (.int .i64)) [4]]), (115, [.v (.sl (.int .i64)) [9], .v (.sl (.int .i64)) [4]], [.v (.sl (.int .i64)) [2], .v (.sl (.int .i64)) [1]]), (115, [.v (.sl (.int .i64)) [4], .v (.sl (.int .i64)) [1]], [.v (.sl (.int .i64)) [4], .v (.sl (.int .i64)) []])]
theorem fc18 (D : Nat) : (acall table prims 2000 (D + 6)).run 101 [.v (.pair (.sl (.int .i64)) .unit) ([4], ()), .v (.pair (.sl (.int .i64)) .unit) ([9], ())] = some [.v (.pair (.sl (.int .i64)) .unit) ([1], ()), .v (.int .i64) 0] :=
  fact_of fs_fc18 rfl rfl rfl rfl ⟨fc15 (D + 1), fc16 (D + 1), fc17 (D + 1), trivial⟩ (by kernel_rfl)
-- natural.Div
def fs_fc19 : List Fact := [(115, [.v (.sl (.int .i64)) [4], .v (.sl (.int .i64)) [1]], [.v (.sl (.int .i64)) [4], .v (.sl (.int .i64)) []])]
theorem fc19 (D : Nat) : (acall table prims 2000 (D + 6)).run 102 [.v (.pair (.sl (.int .i64)) .unit) ([4], ()), .v (.pair (.sl (.int .i64)) .unit) ([1], ())] = some [.v (.pair (.sl (.int .i64)) .unit) ([4], ()), .v (.pair (.sl (.int .i64)) .unit) ([], ()), .v (.int .i64) 0] :=
  fact_of fs_fc19 rfl rfl rfl rfl ⟨fc17 (D + 1), trivial⟩ (by kernel_rfl)
-- natural.divide
def fs_fc20 : List Fact := []
theorem fc20 (D : Nat) : (acall table prims 2000 (D + 4)).run 115 [.v (.sl (.int .i64)) [9], .v (.sl (.int .i64)) [1]] = some [.v (.sl (.int .i64)) [9], .v (.sl (.int .i64)) []] :=
  fact_of fs_fc20 rfl rfl rfl rfl trivial (by kernel_rfl)
-- natural.Div
def fs_fc21 : List Fact := [(115, [.v (.sl (.int .i64)) [9], .v (.sl (.int .i64)) [1]], [.v (.sl (.int .i64)) [9], .v (.sl (.int .i64)) []])]
theorem fc21 (D : Nat) : (acall table prims 2000 (D + 6)).run 102 [.v (.pair (.sl (.int .i64)) .unit) ([9], ()), .v (.pair (.sl (.int .i64)) .unit) ([1], ())] = some [.v (.pair (.sl (.int .i64)) .unit) ([9], ()), .v (.pair (.sl (.int .i64)) .unit) ([], ()), .v (.int .i64) 0] :=
  fact_of fs_fc21 rfl rfl rfl rfl ⟨fc20 (D + 1), trivial⟩ (by kernel_rfl)
-- fraction.reduce
def fs_fc22 : List Fact := [(101, [.v (.pair (.sl (.int .i64)) .unit) ([4], ()), .v (.pair (.sl (.int .i64)) .unit) ([9], ())], [.v (.pair (.sl (.int .i64)) .unit) ([1], ()), .v (.int .i64) 0]), (102, [.v (.pair (.sl (.int .i64)) .unit) ([4], ()), .v (.pair (.sl (.int .i64)) .unit) ([1], ())], [.v (.pair (.sl (.int .i64)) .unit) ([4], ()), .v (.pair (.sl (.int .i64)) .unit) ([], ()), .v (.int .i64) 0]), (102, [.v (.pair (.sl (.int .i64)) .unit) ([9], ()), .v (.pair (.sl (.int .i64)) .unit) ([1], ())], [.v (.pair (.sl (.int .i64)) .unit) ([9], ()), .v (.pair (.sl (.int .i64)) .unit) ([], ()), .v (.int .i64) 0])]
theorem fc22 (D : Nat) : (acall table prims 2000 (D + 7)).run 77 [.v .bool false, .v (.pair (.sl (.int .i64)) .unit) ([4], ()), .v (.pair (.sl (.int .i64)) .unit) ([9], ())] = some [.v (.pair .bool (.pair (.pair (.sl (.int .i64)) .unit) (.pair (.pair (.sl (.int .i64)) .unit) .unit))) (false, (([4], ()), (([9], ()), ())))] :=
  fact_of fs_fc22 rfl rfl rfl rfl ⟨fc18 (D + 0), fc19 (D + 0), fc21 (D + 0), trivial⟩ (by kernel_rfl)
-- fraction.New
def fs_fc23 : List Fact := [(77, [.v .bool false, .v (.pair (.sl (.int .i64)) .unit) ([4], ()), .v (.pair (.sl (.int .i64)) .unit) ([9], ())], [.v (.pair .bool (.pair (.pair (.sl (.int .i64)) .unit) (.pair (.pair (.sl (.int .i64)) .unit) .unit))) (false, (([4], ()), (([9], ()), ())))])]
theorem fc23 (D : Nat) : (acall table prims 2000 (D + 8)).run 44 [.v (.pair (.sl (.int .i64)) .unit) ([4], ()), .v (.pair (.sl (.int .i64)) .unit) ([9], ())] = some [.v (.pair .bool (.pair (.pair (.sl (.int .i64)) .unit) (.pair (.pair (.sl (.int .i64)) .unit) .unit))) (false, (([4], ()), (([9], ()), ()))), .v (.int .i64) 0] :=
  fact_of fs_fc23 rfl rfl rfl rfl ⟨fc22 (D + 0), trivial⟩ (by kernel_rfl)
-- natural.divide
def fs_fc24 : List Fact := []
theorem fc24 (D : Nat) : (acall table prims 2000 (D + 4)).run 115 [.v (.sl (.int .i64)) [2], .v (.sl (.int .i64)) [1]] = some [.v (.sl (.int .i64)) [2], .v (.sl (.int .i64)) []] :=
  fact_of fs_fc24 rfl rfl rfl rfl trivial (by kernel_rfl)
-- natural.Binomial
def fs_fc25 : List Fact := [(115, [.v (.sl (.int .i64)) [2], .v (.sl (.int .i64)) [1]], [.v (.sl (.int .i64)) [2], .v (.sl (.int .i64)) []])]
theorem fc25 (D : Nat) : (acall table prims 2000 (D + 5)).run 92 [.v (.int .i64) 2, .v (.int .i64) 1] = some [.v (.pair (.sl (.int .i64)) .unit) ([2], ()), .v (.int .i64) 0] :=
  fact_of fs_fc25 rfl rfl rfl rfl ⟨fc24 (D + 0), trivial⟩ (by kernel_rfl)
-- binomial.share
def fs_fc26 : List Fact := [(92, [.v (.int .i64) 2, .v (.int .i64) 1], [.v (.pair (.sl (.int .i64)) .unit) ([2], ()), .v (.int .i64) 0])]
theorem fc26 (D : Nat) : (acall table prims 2000 (D + 9)).run 45 [.v (.int .i64) 2, .v (.int .i64) 1, .v (.int .i64) 1, .v (.int .i64) 3] = some [.v (.pair (.sl (.int .i64)) .unit) ([4], ())] :=
  fact_of fs_fc26 rfl rfl rfl rfl ⟨fc25 (D + 3), trivial⟩ (by kernel_rfl)
-- natural.Binomial
def fs_fc27 : List Fact := []
theorem fc27 (D : Nat) : (acall table prims 2000 (D + 5)).run 92 [.v (.int .i64) 2, .v (.int .i64) 2] = some [.v (.pair (.sl (.int .i64)) .unit) ([1], ()), .v (.int .i64) 0] :=
  fact_of fs_fc27 rfl rfl rfl rfl trivial (by kernel_rfl)
-- binomial.share
def fs_fc28 : List Fact := [(92, [.v (.int .i64) 2, .v (.int .i64) 2], [.v (.pair (.sl (.int .i64)) .unit) ([1], ()), .v (.int .i64) 0])]
theorem fc28 (D : Nat) : (acall table prims 2000 (D + 9)).run 45 [.v (.int .i64) 2, .v (.int .i64) 2, .v (.int .i64) 1, .v (.int .i64) 3] = some [.v (.pair (.sl (.int .i64)) .unit) ([1], ())] :=
  fact_of fs_fc28 rfl rfl rfl rfl ⟨fc27 (D + 3), trivial⟩ (by kernel_rfl)
-- natural.divide
def fs_fc29 : List Fact := []
theorem fc29 (D : Nat) : (acall table prims 2000 (D + 4)).run 115 [.v (.sl (.int .i64)) [1], .v (.sl (.int .i64)) [9]] = some [.v (.sl (.int .i64)) [], .v (.sl (.int .i64)) [1]] :=
  fact_of fs_fc29 rfl rfl rfl rfl trivial (by kernel_rfl)
-- natural.Gcd
def fs_fc30 : List Fact := [(115, [.v (.sl (.int .i64)) [1], .v (.sl (.int .i64)) [9]], [.v (.sl (.int .i64)) [], .v (.sl (.int .i64)) [1]]), (115, [.v (.sl (.int .i64)) [9], .v (.sl (.int .i64)) [1]], [.v (.sl (.int .i64)) [9], .v (.sl (.int .i64)) []])]
theorem fc30 (D : Nat) : (acall table prims 2000 (D + 6)).run 101 [.v (.pair (.sl (.int .i64)) .unit) ([1], ()), .v (.pair (.sl (.int .i64)) .unit) ([9], ())] = some [.v (.pair (.sl (.int .i64)) .unit) ([1], ()), .v (.int .i64) 0] :=
  fact_of fs_fc30 rfl rfl rfl rfl ⟨fc29 (D + 1), fc20 (D + 1), trivial⟩ (by kernel_rfl)
-- natural.divide
def fs_fc31 : List Fact := []
theorem fc31 (D : Nat) : (acall table prims 2000 (D + 4)).run 115 [.v (.sl (.int .i64)) [1], .v (.sl (.int .i64)) [1]] = some [.v (.sl (.int .i64)) [1], .v (.sl (.int .i64)) []] :=
  fact_of fs_fc31 rfl rfl rfl rfl trivial (by kernel_rfl)
-- natural.Div
def fs_fc32 : List Fact := [(115, [.v (.sl (.int .i64)) [1], .v (.sl (.int .i64)) [1]], [.v (.sl (.int .i64)) [1], .v (.sl (.int .i64)) []])]
theorem fc32 (D : Nat) : (acall table prims 2000 (D + 6)).run 102 [.v (.pair (.sl (.int .i64)) .unit) ([1], ()), .v (.pair (.sl (.int .i64)) .unit) ([1], ())] = some [.v (.pair (.sl (.int .i64)) .unit) ([1], ()), .v (.pair (.sl (.int .i64)) .unit) ([], ()), .v (.int .i64) 0] :=
  fact_of fs_fc32 rfl rfl rfl rfl ⟨fc31 (D + 1), trivial⟩ (by kernel_rfl)
-- fraction.reduce
def fs_fc33 : List Fact := [(101, [.v (.pair (.sl (.int .i64)) .unit) ([1], ()), .v (.pair (.sl (.int .i64)) .unit) ([9], ())], [.v (.pair (.sl (.int .i64)) .unit) ([1], ()), .v (.int .i64) 0]), (102, [.v (.pair (.sl (.int .i64)) .unit) ([1], ()), .v (.pair (.sl (.int .i64)) .unit) ([1], ())], [.v (.pair (.sl (.int .i64)) .unit) ([1], ()), .v (.pair (.sl (.int .i64)) .unit) ([], ()), .v (.int .i64) 0]), (102, [.v (.pair (.sl (.int .i64)) .unit) ([9], ()), .v (.pair (.sl (.int .i64)) .unit) ([1], ())], [.v (.pair (.sl (.int .i64)) .unit) ([9], ()), .v (.pair (.sl (.int .i64)) .unit) ([], ()), .v (.int .i64) 0])]
theorem fc33 (D : Nat) : (acall table prims 2000 (D + 7)).run 77 [.v .bool false, .v (.pair (.sl (.int .i64)) .unit) ([1], ()), .v (.pair (.sl (.int .i64)) .unit) ([9], ())] = some [.v (.pair .bool (.pair (.pair (.sl (.int .i64)) .unit) (.pair (.pair (.sl (.int .i64)) .unit) .unit))) (false, (([1], ()), (([9], ()), ())))] :=
  fact_of fs_fc33 rfl rfl rfl rfl ⟨fc30 (D + 0), fc32 (D + 0), fc21 (D + 0), trivial⟩ (by kernel_rfl)
-- fraction.New
def fs_fc34 : List Fact := [(77, [.v .bool false, .v (.pair (.sl (.int .i64)) .unit) ([1], ()), .v (.pair (.sl (.int .i64)) .unit) ([9], ())], [.v (.pair .bool (.pair (.pair (.sl (.int .i64)) .unit) (.pair (.pair (.sl (.int .i64)) .unit) .unit))) (false, (([1], ()), (([9], ()), ())))])]
theorem fc34 (D : Nat) : (acall table prims 2000 (D + 8)).run 44 [.v (.pair (.sl (.int .i64)) .unit) ([1], ()), .v (.pair (.sl (.int .i64)) .unit) ([9], ())] = some [.v (.pair .bool (.pair (.pair (.sl (.int .i64)) .unit) (.pair (.pair (.sl (.int .i64)) .unit) .unit))) (false, (([1], ()), (([9], ()), ()))), .v (.int .i64) 0] :=
  fact_of fs_fc34 rfl rfl rfl rfl ⟨fc33 (D + 0), trivial⟩ (by kernel_rfl)
-- binomial.Row
def fs_fc35 : List Fact := [(43, [.v (.int .i64) 2, .v (.int .i64) 0, .v (.int .i64) 60, .v (.int .i64) 0, .v (.pair .bool (.pair (.pair (.sl (.int .i64)) .unit) (.pair (.pair (.sl (.int .i64)) .unit) .unit))) (false, (([1], ()), (([3], ()), ())))], [.v (.int .i64) 1, .v (.int .i64) 3, .v (.int .i64) 0]), (45, [.v (.int .i64) 2, .v (.int .i64) 0, .v (.int .i64) 1, .v (.int .i64) 3], [.v (.pair (.sl (.int .i64)) .unit) ([4], ())]), (44, [.v (.pair (.sl (.int .i64)) .unit) ([4], ()), .v (.pair (.sl (.int .i64)) .unit) ([9], ())], [.v (.pair .bool (.pair (.pair (.sl (.int .i64)) .unit) (.pair (.pair (.sl (.int .i64)) .unit) .unit))) (false, (([4], ()), (([9], ()), ()))), .v (.int .i64) 0]), (45, [.v (.int .i64) 2, .v (.int .i64) 1, .v (.int .i64) 1, .v (.int .i64) 3], [.v (.pair (.sl (.int .i64)) .unit) ([4], ())]), (45, [.v (.int .i64) 2, .v (.int .i64) 2, .v (.int .i64) 1, .v (.int .i64) 3], [.v (.pair (.sl (.int .i64)) .unit) ([1], ())]), (44, [.v (.pair (.sl (.int .i64)) .unit) ([1], ()), .v (.pair (.sl (.int .i64)) .unit) ([9], ())], [.v (.pair .bool (.pair (.pair (.sl (.int .i64)) .unit) (.pair (.pair (.sl (.int .i64)) .unit) .unit))) (false, (([1], ()), (([9], ()), ()))), .v (.int .i64) 0])]
theorem fc35 (D : Nat) : (acall table prims 2000 (D + 10)).run 13 [.v (.int .i64) 2, .v (.pair .bool (.pair (.pair (.sl (.int .i64)) .unit) (.pair (.pair (.sl (.int .i64)) .unit) .unit))) (false, (([1], ()), (([3], ()), ())))] = some [.own true 26 (.pair .bool (.pair (.pair (.sl (.int .i64)) .unit) (.pair (.pair (.sl (.int .i64)) .unit) .unit))) .no [(false, (([4], ()), (([9], ()), ()))), (false, (([4], ()), (([9], ()), ()))), (false, (([1], ()), (([9], ()), ())))], .v (.int .i64) 0] :=
  fact_of fs_fc35 rfl rfl rfl rfl ⟨fc12 (D + 0), fc14 (D + 0), fc23 (D + 1), fc26 (D + 0), fc28 (D + 0), fc34 (D + 1), trivial⟩ (by kernel_rfl)
-- binomial.given
def fs_fc36 : List Fact := [(97, [.v (.pair .bool (.pair (.pair (.sl (.int .i64)) .unit) (.pair (.pair (.sl (.int .i64)) .unit) .unit))) (false, (([1], ()), (([3], ()), ())))], [.v .bool true])]
theorem fc36 (D : Nat) : (acall table prims 2000 (D + 9)).run 43 [.v (.int .i64) 2, .v (.int .i64) 1, .v (.int .i64) 200, .v (.int .i64) 2, .v (.pair .bool (.pair (.pair (.sl (.int .i64)) .unit) (.pair (.pair (.sl (.int .i64)) .unit) .unit))) (false, (([1], ()), (([3], ()), ())))] = some [.v (.int .i64) 1, .v (.int .i64) 3, .v (.int .i64) 0] :=
  fact_of fs_fc36 rfl rfl rfl rfl ⟨fc11 (D + 1), trivial⟩ (by kernel_rfl)
-- natural.divide
def fs_fc37 : List Fact := []
theorem fc37 (D : Nat) : (acall table prims 2000 (D + 4)).run 115 [.v (.sl (.int .i64)) [5], .v (.sl (.int .i64)) [9]] = some [.v (.sl (.int .i64)) [], .v (.sl (.int .i64)) [5]] :=
  fact_of fs_fc37 rfl rfl rfl rfl trivial (by kernel_rfl)
-- natural.divide
def fs_fc38 : List Fact := []
theorem fc38 (D : Nat) : (acall table prims 2000 (D + 4)).run 115 [.v (.sl (.int .i64)) [9], .v (.sl (.int .i64)) [5]] = some [.v (.sl (.int .i64)) [1], .v (.sl (.int .i64)) [4]] :=
  fact_of fs_fc38 rfl rfl rfl rfl trivial (by kernel_rfl)
-- natural.divide
def fs_fc39 : List Fact := []
theorem fc39 (D : Nat) : (acall table prims 2000 (D + 4)).run 115 [.v (.sl (.int .i64)) [5], .v (.sl (.int .i64)) [4]] = some [.v (.sl (.int .i64)) [1], .v (.sl (.int .i64)) [1]] :=
  fact_of fs_fc39 rfl rfl rfl rfl trivial (by kernel_rfl)
-- natural.Gcd
def fs_fc40 : List Fact := [(115, [.v (.sl (.int .i64)) [5], .v (.sl (.int .i64)) [9]], [.v (.sl (.int .i64)) [], .v (.sl (.int .i64)) [5]]), (115, [.v (.sl (.int .i64)) [9], .v (.sl (.int .i64)) [5]], [.v (.sl (.int .i64)) [1], .v (.sl (.int .i64)) [4]]), (115, [.v (.sl (.int .i64)) [5], .v (.sl (.int .i64)) [4]], [.v (.sl (.int .i64)) [1], .v (.sl (.int .i64)) [1]]), (115, [.v (.sl (.int .i64)) [4], .v (.sl (.int .i64)) [1]], [.v (.sl (.int .i64)) [4], .v (.sl (.int .i64)) []])]
theorem fc40 (D : Nat) : (acall table prims 2000 (D + 6)).run 101 [.v (.pair (.sl (.int .i64)) .unit) ([5], ()), .v (.pair (.sl (.int .i64)) .unit) ([9], ())] = some [.v (.pair (.sl (.int .i64)) .unit) ([1], ()), .v (.int .i64) 0] :=
  fact_of fs_fc40 rfl rfl rfl rfl ⟨fc37 (D + 1), fc38 (D + 1), fc39 (D + 1), fc17 (D + 1), trivial⟩ (by kernel_rfl)
-- natural.divide
def fs_fc41 : List Fact := []
theorem fc41 (D : Nat) : (acall table prims 2000 (D + 4)).run 115 [.v (.sl (.int .i64)) [5], .v (.sl (.int .i64)) [1]] = some [.v (.sl (.int .i64)) [5], .v (.sl (.int .i64)) []] :=
  fact_of fs_fc41 rfl rfl rfl rfl trivial (by kernel_rfl)
-- natural.Div
def fs_fc42 : List Fact := [(115, [.v (.sl (.int .i64)) [5], .v (.sl (.int .i64)) [1]], [.v (.sl (.int .i64)) [5], .v (.sl (.int .i64)) []])]
theorem fc42 (D : Nat) : (acall table prims 2000 (D + 6)).run 102 [.v (.pair (.sl (.int .i64)) .unit) ([5], ()), .v (.pair (.sl (.int .i64)) .unit) ([1], ())] = some [.v (.pair (.sl (.int .i64)) .unit) ([5], ()), .v (.pair (.sl (.int .i64)) .unit) ([], ()), .v (.int .i64) 0] :=
  fact_of fs_fc42 rfl rfl rfl rfl ⟨fc41 (D + 1), trivial⟩ (by kernel_rfl)
-- fraction.reduce
def fs_fc43 : List Fact := [(101, [.v (.pair (.sl (.int .i64)) .unit) ([5], ()), .v (.pair (.sl (.int .i64)) .unit) ([9], ())], [.v (.pair (.sl (.int .i64)) .unit) ([1], ()), .v (.int .i64) 0]), (102, [.v (.pair (.sl (.int .i64)) .unit) ([5], ()), .v (.pair (.sl (.int .i64)) .unit) ([1], ())], [.v (.pair (.sl (.int .i64)) .unit) ([5], ()), .v (.pair (.sl (.int .i64)) .unit) ([], ()), .v (.int .i64) 0]), (102, [.v (.pair (.sl (.int .i64)) .unit) ([9], ()), .v (.pair (.sl (.int .i64)) .unit) ([1], ())], [.v (.pair (.sl (.int .i64)) .unit) ([9], ()), .v (.pair (.sl (.int .i64)) .unit) ([], ()), .v (.int .i64) 0])]
theorem fc43 (D : Nat) : (acall table prims 2000 (D + 7)).run 77 [.v .bool false, .v (.pair (.sl (.int .i64)) .unit) ([5], ()), .v (.pair (.sl (.int .i64)) .unit) ([9], ())] = some [.v (.pair .bool (.pair (.pair (.sl (.int .i64)) .unit) (.pair (.pair (.sl (.int .i64)) .unit) .unit))) (false, (([5], ()), (([9], ()), ())))] :=
  fact_of fs_fc43 rfl rfl rfl rfl ⟨fc40 (D + 0), fc42 (D + 0), fc21 (D + 0), trivial⟩ (by kernel_rfl)
-- fraction.New
def fs_fc44 : List Fact := [(77, [.v .bool false, .v (.pair (.sl (.int .i64)) .unit) ([5], ()), .v (.pair (.sl (.int .i64)) .unit) ([9], ())], [.v (.pair .bool (.pair (.pair (.sl (.int .i64)) .unit) (.pair (.pair (.sl (.int .i64)) .unit) .unit))) (false, (([5], ()), (([9], ()), ())))])]
theorem fc44 (D : Nat) : (acall table prims 2000 (D + 8)).run 44 [.v (.pair (.sl (.int .i64)) .unit) ([5], ()), .v (.pair (.sl (.int .i64)) .unit) ([9], ())] = some [.v (.pair .bool (.pair (.pair (.sl (.int .i64)) .unit) (.pair (.pair (.sl (.int .i64)) .unit) .unit))) (false, (([5], ()), (([9], ()), ()))), .v (.int .i64) 0] :=
  fact_of fs_fc44 rfl rfl rfl rfl ⟨fc43 (D + 0), trivial⟩ (by kernel_rfl)
-- binomial.Tail
def fs_fc45 : List Fact := [(43, [.v (.int .i64) 2, .v (.int .i64) 1, .v (.int .i64) 200, .v (.int .i64) 2, .v (.pair .bool (.pair (.pair (.sl (.int .i64)) .unit) (.pair (.pair (.sl (.int .i64)) .unit) .unit))) (false, (([1], ()), (([3], ()), ())))], [.v (.int .i64) 1, .v (.int .i64) 3, .v (.int .i64) 0]), (45, [.v (.int .i64) 2, .v (.int .i64) 1, .v (.int .i64) 1, .v (.int .i64) 3], [.v (.pair (.sl (.int .i64)) .unit) ([4], ())]), (45, [.v (.int .i64) 2, .v (.int .i64) 2, .v (.int .i64) 1, .v (.int .i64) 3], [.v (.pair (.sl (.int .i64)) .unit) ([1], ())]), (44, [.v (.pair (.sl (.int .i64)) .unit) ([5], ()), .v (.pair (.sl (.int .i64)) .unit) ([9], ())], [.v (.pair .bool (.pair (.pair (.sl (.int .i64)) .unit) (.pair (.pair (.sl (.int .i64)) .unit) .unit))) (false, (([5], ()), (([9], ()), ()))), .v (.int .i64) 0])]
theorem fc45 (D : Nat) : (acall table prims 2000 (D + 10)).run 19 [.v (.int .i64) 2, .v (.int .i64) 1, .v (.pair .bool (.pair (.pair (.sl (.int .i64)) .unit) (.pair (.pair (.sl (.int .i64)) .unit) .unit))) (false, (([1], ()), (([3], ()), ())))] = some [.v (.pair .bool (.pair (.pair (.sl (.int .i64)) .unit) (.pair (.pair (.sl (.int .i64)) .unit) .unit))) (false, (([5], ()), (([9], ()), ()))), .v (.int .i64) 0] :=
  fact_of fs_fc45 rfl rfl rfl rfl ⟨fc36 (D + 0), fc26 (D + 0), fc28 (D + 0), fc44 (D + 1), trivial⟩ (by kernel_rfl)
-- natural.Binomial
def fs_fc46 : List Fact := [(115, [.v (.sl (.int .i64)) [3], .v (.sl (.int .i64)) [1]], [.v (.sl (.int .i64)) [3], .v (.sl (.int .i64)) []])]
theorem fc46 (D : Nat) : (acall table prims 2000 (D + 5)).run 92 [.v (.int .i64) 3, .v (.int .i64) 1] = some [.v (.pair (.sl (.int .i64)) .unit) ([3], ()), .v (.int .i64) 0] :=
  fact_of fs_fc46 rfl rfl rfl rfl ⟨fc9 (D + 0), trivial⟩ (by kernel_rfl)
-- natural.divide
def fs_fc47 : List Fact := []
theorem fc47 (D : Nat) : (acall table prims 2000 (D + 4)).run 115 [.v (.sl (.int .i64)) [20], .v (.sl (.int .i64)) [2]] = some [.v (.sl (.int .i64)) [10], .v (.sl (.int .i64)) []] :=
  fact_of fs_fc47 rfl rfl rfl rfl trivial (by kernel_rfl)
-- natural.Binomial
def fs_fc48 : List Fact := [(115, [.v (.sl (.int .i64)) [5], .v (.sl (.int .i64)) [1]], [.v (.sl (.int .i64)) [5], .v (.sl (.int .i64)) []]), (115, [.v (.sl (.int .i64)) [20], .v (.sl (.int .i64)) [2]], [.v (.sl (.int .i64)) [10], .v (.sl (.int .i64)) []])]
theorem fc48 (D : Nat) : (acall table prims 2000 (D + 5)).run 92 [.v (.int .i64) 5, .v (.int .i64) 2] = some [.v (.pair (.sl (.int .i64)) .unit) ([10], ()), .v (.int .i64) 0] :=
  fact_of fs_fc48 rfl rfl rfl rfl ⟨fc41 (D + 0), fc47 (D + 0), trivial⟩ (by kernel_rfl)
-- natural.divide
def fs_fc49 : List Fact := []
theorem fc49 (D : Nat) : (acall table prims 2000 (D + 4)).run 115 [.v (.sl (.int .i64)) [6], .v (.sl (.int .i64)) [10]] = some [.v (.sl (.int .i64)) [], .v (.sl (.int .i64)) [6]] :=
  fact_of fs_fc49 rfl rfl rfl rfl trivial (by kernel_rfl)
-- natural.divide
def fs_fc50 : List Fact := []
theorem fc50 (D : Nat) : (acall table prims 2000 (D + 4)).run 115 [.v (.sl (.int .i64)) [10], .v (.sl (.int .i64)) [6]] = some [.v (.sl (.int .i64)) [1], .v (.sl (.int .i64)) [4]] :=
  fact_of fs_fc50 rfl rfl rfl rfl trivial (by kernel_rfl)
-- natural.divide
def fs_fc51 : List Fact := []
theorem fc51 (D : Nat) : (acall table prims 2000 (D + 4)).run 115 [.v (.sl (.int .i64)) [6], .v (.sl (.int .i64)) [4]] = some [.v (.sl (.int .i64)) [1], .v (.sl (.int .i64)) [2]] :=
  fact_of fs_fc51 rfl rfl rfl rfl trivial (by kernel_rfl)
-- natural.divide
def fs_fc52 : List Fact := []
theorem fc52 (D : Nat) : (acall table prims 2000 (D + 4)).run 115 [.v (.sl (.int .i64)) [4], .v (.sl (.int .i64)) [2]] = some [.v (.sl (.int .i64)) [2], .v (.sl (.int .i64)) []] :=
  fact_of fs_fc52 rfl rfl rfl rfl trivial (by kernel_rfl)
-- natural.Gcd
def fs_fc53 : List Fact := [(115, [.v (.sl (.int .i64)) [6], .v (.sl (.int .i64)) [10]], [.v (.sl (.int .i64)) [], .v (.sl (.int .i64)) [6]]), (115, [.v (.sl (.int .i64)) [10], .v (.sl (.int .i64)) [6]], [.v (.sl (.int .i64)) [1], .v (.sl (.int .i64)) [4]]), (115, [.v (.sl (.int .i64)) [6], .v (.sl (.int .i64)) [4]], [.v (.sl (.int .i64)) [1], .v (.sl (.int .i64)) [2]]), (115, [.v (.sl (.int .i64)) [4], .v (.sl (.int .i64)) [2]], [.v (.sl (.int .i64)) [2], .v (.sl (.int .i64)) []])]
theorem fc53 (D : Nat) : (acall table prims 2000 (D + 6)).run 101 [.v (.pair (.sl (.int .i64)) .unit) ([6], ()), .v (.pair (.sl (.int .i64)) .unit) ([10], ())] = some [.v (.pair (.sl (.int .i64)) .unit) ([2], ()), .v (.int .i64) 0] :=
  fact_of fs_fc53 rfl rfl rfl rfl ⟨fc49 (D + 1), fc50 (D + 1), fc51 (D + 1), fc52 (D + 1), trivial⟩ (by kernel_rfl)
-- natural.divide
def fs_fc54 : List Fact := []
theorem fc54 (D : Nat) : (acall table prims 2000 (D + 4)).run 115 [.v (.sl (.int .i64)) [6], .v (.sl (.int .i64)) [2]] = some [.v (.sl (.int .i64)) [3], .v (.sl (.int .i64)) []] :=
  fact_of fs_fc54 rfl rfl rfl rfl trivial (by kernel_rfl)
-- natural.Div
def fs_fc55 : List Fact := [(115, [.v (.sl (.int .i64)) [6], .v (.sl (.int .i64)) [2]], [.v (.sl (.int .i64)) [3], .v (.sl (.int .i64)) []])]
theorem fc55 (D : Nat) : (acall table prims 2000 (D + 6)).run 102 [.v (.pair (.sl (.int .i64)) .unit) ([6], ()), .v (.pair (.sl (.int .i64)) .unit) ([2], ())] = some [.v (.pair (.sl (.int .i64)) .unit) ([3], ()), .v (.pair (.sl (.int .i64)) .unit) ([], ()), .v (.int .i64) 0] :=
  fact_of fs_fc55 rfl rfl rfl rfl ⟨fc54 (D + 1), trivial⟩ (by kernel_rfl)
-- natural.divide
def fs_fc56 : List Fact := []
theorem fc56 (D : Nat) : (acall table prims 2000 (D + 4)).run 115 [.v (.sl (.int .i64)) [10], .v (.sl (.int .i64)) [2]] = some [.v (.sl (.int .i64)) [5], .v (.sl (.int .i64)) []] :=
  fact_of fs_fc56 rfl rfl rfl rfl trivial (by kernel_rfl)
-- natural.Div
def fs_fc57 : List Fact := [(115, [.v (.sl (.int .i64)) [10], .v (.sl (.int .i64)) [2]], [.v (.sl (.int .i64)) [5], .v (.sl (.int .i64)) []])]
theorem fc57 (D : Nat) : (acall table prims 2000 (D + 6)).run 102 [.v (.pair (.sl (.int .i64)) .unit) ([10], ()), .v (.pair (.sl (.int .i64)) .unit) ([2], ())] = some [.v (.pair (.sl (.int .i64)) .unit) ([5], ()), .v (.pair (.sl (.int .i64)) .unit) ([], ()), .v (.int .i64) 0] :=
  fact_of fs_fc57 rfl rfl rfl rfl ⟨fc56 (D + 1), trivial⟩ (by kernel_rfl)
-- fraction.reduce
def fs_fc58 : List Fact := [(101, [.v (.pair (.sl (.int .i64)) .unit) ([6], ()), .v (.pair (.sl (.int .i64)) .unit) ([10], ())], [.v (.pair (.sl (.int .i64)) .unit) ([2], ()), .v (.int .i64) 0]), (102, [.v (.pair (.sl (.int .i64)) .unit) ([6], ()), .v (.pair (.sl (.int .i64)) .unit) ([2], ())], [.v (.pair (.sl (.int .i64)) .unit) ([3], ()), .v (.pair (.sl (.int .i64)) .unit) ([], ()), .v (.int .i64) 0]), (102, [.v (.pair (.sl (.int .i64)) .unit) ([10], ()), .v (.pair (.sl (.int .i64)) .unit) ([2], ())], [.v (.pair (.sl (.int .i64)) .unit) ([5], ()), .v (.pair (.sl (.int .i64)) .unit) ([], ()), .v (.int .i64) 0])]
theorem fc58 (D : Nat) : (acall table prims 2000 (D + 7)).run 77 [.v .bool false, .v (.pair (.sl (.int .i64)) .unit) ([6], ()), .v (.pair (.sl (.int .i64)) .unit) ([10], ())] = some [.v (.pair .bool (.pair (.pair (.sl (.int .i64)) .unit) (.pair (.pair (.sl (.int .i64)) .unit) .unit))) (false, (([3], ()), (([5], ()), ())))] :=
  fact_of fs_fc58 rfl rfl rfl rfl ⟨fc53 (D + 0), fc55 (D + 0), fc57 (D + 0), trivial⟩ (by kernel_rfl)
-- fraction.New
def fs_fc59 : List Fact := [(77, [.v .bool false, .v (.pair (.sl (.int .i64)) .unit) ([6], ()), .v (.pair (.sl (.int .i64)) .unit) ([10], ())], [.v (.pair .bool (.pair (.pair (.sl (.int .i64)) .unit) (.pair (.pair (.sl (.int .i64)) .unit) .unit))) (false, (([3], ()), (([5], ()), ())))])]
theorem fc59 (D : Nat) : (acall table prims 2000 (D + 8)).run 44 [.v (.pair (.sl (.int .i64)) .unit) ([6], ()), .v (.pair (.sl (.int .i64)) .unit) ([10], ())] = some [.v (.pair .bool (.pair (.pair (.sl (.int .i64)) .unit) (.pair (.pair (.sl (.int .i64)) .unit) .unit))) (false, (([3], ()), (([5], ()), ()))), .v (.int .i64) 0] :=
  fact_of fs_fc59 rfl rfl rfl rfl ⟨fc58 (D + 0), trivial⟩ (by kernel_rfl)
-- binomial.Hyper
def fs_fc60 : List Fact := [(92, [.v (.int .i64) 2, .v (.int .i64) 1], [.v (.pair (.sl (.int .i64)) .unit) ([2], ()), .v (.int .i64) 0]), (92, [.v (.int .i64) 3, .v (.int .i64) 1], [.v (.pair (.sl (.int .i64)) .unit) ([3], ()), .v (.int .i64) 0]), (92, [.v (.int .i64) 5, .v (.int .i64) 2], [.v (.pair (.sl (.int .i64)) .unit) ([10], ()), .v (.int .i64) 0]), (44, [.v (.pair (.sl (.int .i64)) .unit) ([6], ()), .v (.pair (.sl (.int .i64)) .unit) ([10], ())], [.v (.pair .bool (.pair (.pair (.sl (.int .i64)) .unit) (.pair (.pair (.sl (.int .i64)) .unit) .unit))) (false, (([3], ()), (([5], ()), ()))), .v (.int .i64) 0])]
theorem fc60 (D : Nat) : (acall table prims 2000 (D + 9)).run 27 [.v (.int .i64) 5, .v (.int .i64) 2, .v (.int .i64) 2, .v (.int .i64) 1] = some [.v (.pair .bool (.pair (.pair (.sl (.int .i64)) .unit) (.pair (.pair (.sl (.int .i64)) .unit) .unit))) (false, (([3], ()), (([5], ()), ()))), .v (.int .i64) 0] :=
  fact_of fs_fc60 rfl rfl rfl rfl ⟨fc25 (D + 3), fc46 (D + 3), fc48 (D + 3), fc59 (D + 0), trivial⟩ (by kernel_rfl)
-- ancepsref02.Gcd
def fs_fc61 : List Fact := []
theorem fc61 (D : Nat) : (acall table prims 2000 (D + 4)).run 83 [.v (.pair (.sl (.int .i64)) .unit) ([4], ()), .v (.pair (.sl (.int .i64)) .unit) ([9], ())] = some [.v (.pair (.sl (.int .i64)) .unit) ([1], ()), .v (.int .i64) 0] :=
  fact_of fs_fc61 rfl rfl rfl rfl trivial (by kernel_rfl)
-- ancepsref03.Valid
def fs_fc62 : List Fact := [(83, [.v (.pair (.sl (.int .i64)) .unit) ([4], ()), .v (.pair (.sl (.int .i64)) .unit) ([9], ())], [.v (.pair (.sl (.int .i64)) .unit) ([1], ()), .v (.int .i64) 0])]
theorem fc62 (D : Nat) : (acall table prims 2000 (D + 5)).run 54 [.v (.pair .bool (.pair (.pair (.sl (.int .i64)) .unit) (.pair (.pair (.sl (.int .i64)) .unit) .unit))) (false, (([4], ()), (([9], ()), ())))] = some [.v .bool true] :=
  fact_of fs_fc62 rfl rfl rfl rfl ⟨fc61 (D + 0), trivial⟩ (by kernel_rfl)
-- ancepsref02.Format
def fs_fc63 : List Fact := []
theorem fc63 (D : Nat) : (acall table prims 2000 (D + 3)).run 73 [.v (.pair (.sl (.int .i64)) .unit) ([4], ())] = some [.v .str [52], .v (.int .i64) 0] :=
  fact_of fs_fc63 rfl rfl rfl rfl trivial (by kernel_rfl)
-- ancepsref02.Format
def fs_fc64 : List Fact := []
theorem fc64 (D : Nat) : (acall table prims 2000 (D + 3)).run 73 [.v (.pair (.sl (.int .i64)) .unit) ([9], ())] = some [.v .str [57], .v (.int .i64) 0] :=
  fact_of fs_fc64 rfl rfl rfl rfl trivial (by kernel_rfl)
-- ancepsref03.Format
def fs_fc65 : List Fact := [(54, [.v (.pair .bool (.pair (.pair (.sl (.int .i64)) .unit) (.pair (.pair (.sl (.int .i64)) .unit) .unit))) (false, (([4], ()), (([9], ()), ())))], [.v .bool true]), (73, [.v (.pair (.sl (.int .i64)) .unit) ([4], ())], [.v .str [52], .v (.int .i64) 0]), (73, [.v (.pair (.sl (.int .i64)) .unit) ([9], ())], [.v .str [57], .v (.int .i64) 0])]
theorem fc65 (D : Nat) : (acall table prims 2000 (D + 6)).run 41 [.v (.pair .bool (.pair (.pair (.sl (.int .i64)) .unit) (.pair (.pair (.sl (.int .i64)) .unit) .unit))) (false, (([4], ()), (([9], ()), ())))] = some [.v .str [52, 47, 57], .v (.int .i64) 0] :=
  fact_of fs_fc65 rfl rfl rfl rfl ⟨fc62 (D + 0), fc63 (D + 2), fc64 (D + 2), trivial⟩ (by kernel_rfl)
-- ancepslaw51.awake$1
def fs_fc66 : List Fact := [(41, [.v (.pair .bool (.pair (.pair (.sl (.int .i64)) .unit) (.pair (.pair (.sl (.int .i64)) .unit) .unit))) (false, (([4], ()), (([9], ()), ())))], [.v .str [52, 47, 57], .v (.int .i64) 0])]
theorem fc66 (D : Nat) : (acall table prims 2000 (D + 7)).run 40 [.v (.pair .bool (.pair (.pair (.sl (.int .i64)) .unit) (.pair (.pair (.sl (.int .i64)) .unit) .unit))) (false, (([4], ()), (([9], ()), ())))] = some [.v .str [52, 47, 57]] :=
  fact_of fs_fc66 rfl rfl rfl rfl ⟨fc65 (D + 0), trivial⟩ (by kernel_rfl)
-- ancepsref02.Gcd
def fs_fc67 : List Fact := []
theorem fc67 (D : Nat) : (acall table prims 2000 (D + 4)).run 83 [.v (.pair (.sl (.int .i64)) .unit) ([1], ()), .v (.pair (.sl (.int .i64)) .unit) ([9], ())] = some [.v (.pair (.sl (.int .i64)) .unit) ([1], ()), .v (.int .i64) 0] :=
  fact_of fs_fc67 rfl rfl rfl rfl trivial (by kernel_rfl)
-- ancepsref03.Valid
def fs_fc68 : List Fact := [(83, [.v (.pair (.sl (.int .i64)) .unit) ([1], ()), .v (.pair (.sl (.int .i64)) .unit) ([9], ())], [.v (.pair (.sl (.int .i64)) .unit) ([1], ()), .v (.int .i64) 0])]
theorem fc68 (D : Nat) : (acall table prims 2000 (D + 5)).run 54 [.v (.pair .bool (.pair (.pair (.sl (.int .i64)) .unit) (.pair (.pair (.sl (.int .i64)) .unit) .unit))) (false, (([1], ()), (([9], ()), ())))] = some [.v .bool true] :=
  fact_of fs_fc68 rfl rfl rfl rfl ⟨fc67 (D + 0), trivial⟩ (by kernel_rfl)
-- ancepsref02.Format
def fs_fc69 : List Fact := []
theorem fc69 (D : Nat) : (acall table prims 2000 (D + 3)).run 73 [.v (.pair (.sl (.int .i64)) .unit) ([1], ())] = some [.v .str [49], .v (.int .i64) 0] :=
  fact_of fs_fc69 rfl rfl rfl rfl trivial (by kernel_rfl)
-- ancepsref03.Format
def fs_fc70 : List Fact := [(54, [.v (.pair .bool (.pair (.pair (.sl (.int .i64)) .unit) (.pair (.pair (.sl (.int .i64)) .unit) .unit))) (false, (([1], ()), (([9], ()), ())))], [.v .bool true]), (73, [.v (.pair (.sl (.int .i64)) .unit) ([1], ())], [.v .str [49], .v (.int .i64) 0]), (73, [.v (.pair (.sl (.int .i64)) .unit) ([9], ())], [.v .str [57], .v (.int .i64) 0])]
theorem fc70 (D : Nat) : (acall table prims 2000 (D + 6)).run 41 [.v (.pair .bool (.pair (.pair (.sl (.int .i64)) .unit) (.pair (.pair (.sl (.int .i64)) .unit) .unit))) (false, (([1], ()), (([9], ()), ())))] = some [.v .str [49, 47, 57], .v (.int .i64) 0] :=
  fact_of fs_fc70 rfl rfl rfl rfl ⟨fc68 (D + 0), fc69 (D + 2), fc64 (D + 2), trivial⟩ (by kernel_rfl)
-- ancepslaw51.awake$1
def fs_fc71 : List Fact := [(41, [.v (.pair .bool (.pair (.pair (.sl (.int .i64)) .unit) (.pair (.pair (.sl (.int .i64)) .unit) .unit))) (false, (([1], ()), (([9], ()), ())))], [.v .str [49, 47, 57], .v (.int .i64) 0])]
theorem fc71 (D : Nat) : (acall table prims 2000 (D + 7)).run 40 [.v (.pair .bool (.pair (.pair (.sl (.int .i64)) .unit) (.pair (.pair (.sl (.int .i64)) .unit) .unit))) (false, (([1], ()), (([9], ()), ())))] = some [.v .str [49, 47, 57]] :=
  fact_of fs_fc71 rfl rfl rfl rfl ⟨fc70 (D + 0), trivial⟩ (by kernel_rfl)
-- ancepsref02.Gcd
def fs_fc72 : List Fact := []
theorem fc72 (D : Nat) : (acall table prims 2000 (D + 4)).run 83 [.v (.pair (.sl (.int .i64)) .unit) ([5], ()), .v (.pair (.sl (.int .i64)) .unit) ([9], ())] = some [.v (.pair (.sl (.int .i64)) .unit) ([1], ()), .v (.int .i64) 0] :=
  fact_of fs_fc72 rfl rfl rfl rfl trivial (by kernel_rfl)
-- ancepsref03.Valid
def fs_fc73 : List Fact := [(83, [.v (.pair (.sl (.int .i64)) .unit) ([5], ()), .v (.pair (.sl (.int .i64)) .unit) ([9], ())], [.v (.pair (.sl (.int .i64)) .unit) ([1], ()), .v (.int .i64) 0])]
theorem fc73 (D : Nat) : (acall table prims 2000 (D + 5)).run 54 [.v (.pair .bool (.pair (.pair (.sl (.int .i64)) .unit) (.pair (.pair (.sl (.int .i64)) .unit) .unit))) (false, (([5], ()), (([9], ()), ())))] = some [.v .bool true] :=
  fact_of fs_fc73 rfl rfl rfl rfl ⟨fc72 (D + 0), trivial⟩ (by kernel_rfl)
-- ancepsref02.Format
def fs_fc74 : List Fact := []
theorem fc74 (D : Nat) : (acall table prims 2000 (D + 3)).run 73 [.v (.pair (.sl (.int .i64)) .unit) ([5], ())] = some [.v .str [53], .v (.int .i64) 0] :=
  fact_of fs_fc74 rfl rfl rfl rfl trivial (by kernel_rfl)
-- ancepsref03.Format
def fs_fc75 : List Fact := [(54, [.v (.pair .bool (.pair (.pair (.sl (.int .i64)) .unit) (.pair (.pair (.sl (.int .i64)) .unit) .unit))) (false, (([5], ()), (([9], ()), ())))], [.v .bool true]), (73, [.v (.pair (.sl (.int .i64)) .unit) ([5], ())], [.v .str [53], .v (.int .i64) 0]), (73, [.v (.pair (.sl (.int .i64)) .unit) ([9], ())], [.v .str [57], .v (.int .i64) 0])]
theorem fc75 (D : Nat) : (acall table prims 2000 (D + 6)).run 41 [.v (.pair .bool (.pair (.pair (.sl (.int .i64)) .unit) (.pair (.pair (.sl (.int .i64)) .unit) .unit))) (false, (([5], ()), (([9], ()), ())))] = some [.v .str [53, 47, 57], .v (.int .i64) 0] :=
  fact_of fs_fc75 rfl rfl rfl rfl ⟨fc73 (D + 0), fc74 (D + 2), fc64 (D + 2), trivial⟩ (by kernel_rfl)
-- ancepslaw51.awake$1
def fs_fc76 : List Fact := [(41, [.v (.pair .bool (.pair (.pair (.sl (.int .i64)) .unit) (.pair (.pair (.sl (.int .i64)) .unit) .unit))) (false, (([5], ()), (([9], ()), ())))], [.v .str [53, 47, 57], .v (.int .i64) 0])]
theorem fc76 (D : Nat) : (acall table prims 2000 (D + 7)).run 40 [.v (.pair .bool (.pair (.pair (.sl (.int .i64)) .unit) (.pair (.pair (.sl (.int .i64)) .unit) .unit))) (false, (([5], ()), (([9], ()), ())))] = some [.v .str [53, 47, 57]] :=
  fact_of fs_fc76 rfl rfl rfl rfl ⟨fc75 (D + 0), trivial⟩ (by kernel_rfl)
-- ancepsref02.Gcd
def fs_fc77 : List Fact := []
theorem fc77 (D : Nat) : (acall table prims 2000 (D + 4)).run 83 [.v (.pair (.sl (.int .i64)) .unit) ([3], ()), .v (.pair (.sl (.int .i64)) .unit) ([5], ())] = some [.v (.pair (.sl (.int .i64)) .unit) ([1], ()), .v (.int .i64) 0] :=
  fact_of fs_fc77 rfl rfl rfl rfl trivial (by kernel_rfl)
-- ancepsref03.Valid
def fs_fc78 : List Fact := [(83, [.v (.pair (.sl (.int .i64)) .unit) ([3], ()), .v (.pair (.sl (.int .i64)) .unit) ([5], ())], [.v (.pair (.sl (.int .i64)) .unit) ([1], ()), .v (.int .i64) 0])]
theorem fc78 (D : Nat) : (acall table prims 2000 (D + 5)).run 54 [.v (.pair .bool (.pair (.pair (.sl (.int .i64)) .unit) (.pair (.pair (.sl (.int .i64)) .unit) .unit))) (false, (([3], ()), (([5], ()), ())))] = some [.v .bool true] :=
  fact_of fs_fc78 rfl rfl rfl rfl ⟨fc77 (D + 0), trivial⟩ (by kernel_rfl)
-- ancepsref02.Format
def fs_fc79 : List Fact := []
theorem fc79 (D : Nat) : (acall table prims 2000 (D + 3)).run 73 [.v (.pair (.sl (.int .i64)) .unit) ([3], ())] = some [.v .str [51], .v (.int .i64) 0] :=
  fact_of fs_fc79 rfl rfl rfl rfl trivial (by kernel_rfl)
-- ancepsref03.Format
def fs_fc80 : List Fact := [(54, [.v (.pair .bool (.pair (.pair (.sl (.int .i64)) .unit) (.pair (.pair (.sl (.int .i64)) .unit) .unit))) (false, (([3], ()), (([5], ()), ())))], [.v .bool true]), (73, [.v (.pair (.sl (.int .i64)) .unit) ([3], ())], [.v .str [51], .v (.int .i64) 0]), (73, [.v (.pair (.sl (.int .i64)) .unit) ([5], ())], [.v .str [53], .v (.int .i64) 0])]
theorem fc80 (D : Nat) : (acall table prims 2000 (D + 6)).run 41 [.v (.pair .bool (.pair (.pair (.sl (.int .i64)) .unit) (.pair (.pair (.sl (.int .i64)) .unit) .unit))) (false, (([3], ()), (([5], ()), ())))] = some [.v .str [51, 47, 53], .v (.int .i64) 0] :=
  fact_of fs_fc80 rfl rfl rfl rfl ⟨fc78 (D + 0), fc79 (D + 2), fc74 (D + 2), trivial⟩ (by kernel_rfl)
-- ancepslaw51.awake$1
def fs_fc81 : List Fact := [(41, [.v (.pair .bool (.pair (.pair (.sl (.int .i64)) .unit) (.pair (.pair (.sl (.int .i64)) .unit) .unit))) (false, (([3], ()), (([5], ()), ())))], [.v .str [51, 47, 53], .v (.int .i64) 0])]
theorem fc81 (D : Nat) : (acall table prims 2000 (D + 7)).run 40 [.v (.pair .bool (.pair (.pair (.sl (.int .i64)) .unit) (.pair (.pair (.sl (.int .i64)) .unit) .unit))) (false, (([3], ()), (([5], ()), ())))] = some [.v .str [51, 47, 53]] :=
  fact_of fs_fc81 rfl rfl rfl rfl ⟨fc80 (D + 0), trivial⟩ (by kernel_rfl)
-- ancepslaw51.awake
def fs_fd11 : List Fact := [(22, [.v (.int .u8) 1, .v (.int .u8) 2], [.v (.pair .bool (.pair (.pair (.sl (.int .i64)) .unit) (.pair (.pair (.sl (.int .i64)) .unit) .unit))) (false, (([1], ()), (([3], ()), ())))]), (13, [.v (.int .i64) 2, .v (.pair .bool (.pair (.pair (.sl (.int .i64)) .unit) (.pair (.pair (.sl (.int .i64)) .unit) .unit))) (false, (([1], ()), (([3], ()), ())))], [.own true 26 (.pair .bool (.pair (.pair (.sl (.int .i64)) .unit) (.pair (.pair (.sl (.int .i64)) .unit) .unit))) .no [(false, (([4], ()), (([9], ()), ()))), (false, (([4], ()), (([9], ()), ()))), (false, (([1], ()), (([9], ()), ())))], .v (.int .i64) 0]), (19, [.v (.int .i64) 2, .v (.int .i64) 1, .v (.pair .bool (.pair (.pair (.sl (.int .i64)) .unit) (.pair (.pair (.sl (.int .i64)) .unit) .unit))) (false, (([1], ()), (([3], ()), ())))], [.v (.pair .bool (.pair (.pair (.sl (.int .i64)) .unit) (.pair (.pair (.sl (.int .i64)) .unit) .unit))) (false, (([5], ()), (([9], ()), ()))), .v (.int .i64) 0]), (27, [.v (.int .i64) 5, .v (.int .i64) 2, .v (.int .i64) 2, .v (.int .i64) 1], [.v (.pair .bool (.pair (.pair (.sl (.int .i64)) .unit) (.pair (.pair (.sl (.int .i64)) .unit) .unit))) (false, (([3], ()), (([5], ()), ()))), .v (.int .i64) 0]), (40, [.v (.pair .bool (.pair (.pair (.sl (.int .i64)) .unit) (.pair (.pair (.sl (.int .i64)) .unit) .unit))) (false, (([4], ()), (([9], ()), ())))], [.v .str [52, 47, 57]]), (40, [.v (.pair .bool (.pair (.pair (.sl (.int .i64)) .unit) (.pair (.pair (.sl (.int .i64)) .unit) .unit))) (false, (([1], ()), (([9], ()), ())))], [.v .str [49, 47, 57]]), (40, [.v (.pair .bool (.pair (.pair (.sl (.int .i64)) .unit) (.pair (.pair (.sl (.int .i64)) .unit) .unit))) (false, (([5], ()), (([9], ()), ())))], [.v .str [53, 47, 57]]), (40, [.v (.pair .bool (.pair (.pair (.sl (.int .i64)) .unit) (.pair (.pair (.sl (.int .i64)) .unit) .unit))) (false, (([3], ()), (([5], ()), ())))], [.v .str [51, 47, 53]])]
theorem fd11 (D : Nat) : (acall table prims 2000 (D + 11)).run 11 [] = some [.v .bool true] :=
  fact_of fs_fd11 rfl rfl rfl rfl ⟨fc7 (D + 2), fc35 (D + 0), fc45 (D + 0), fc60 (D + 1), fc66 (D + 3), fc71 (D + 3), fc76 (D + 3), fc81 (D + 3), trivial⟩ (by kernel_rfl)
end Go.Fw.L51
