/- Printed by an own program for this claim: the machine's code of functions, or their typed forms with their equations; no conditions. -/
import Derived.Test.YtggppceiapjadaaFwYs19
import Derived.Test.YtggppceiapjadaaFwB5
set_option linter.unusedVariables false
set_option linter.unusedSimpArgs false
namespace Go.Fw.L19
open Go Go.Fw
set_option maxRecDepth 100000
set_option linter.unusedVariables false
set_option linter.unusedSimpArgs false
abbrev e0 := fun x0 x1 x2 => ([(0, .v U4 x0), (3, .own true 55 U15 .no x1), (4, .v U2 x2)] : Env)
abbrev e1 := fun x0 x1 x2 x3 => ([(0, .v U4 x0), (3, .own true 55 U15 .no x1), (4, .v U2 x2), (8, .v .bool x3)] : Env)
abbrev e2 := fun x0 => ([(3, .own true 55 U15 .no x0)] : Env)
abbrev e3 := fun x0 => ([(2, .ref 3 []), (3, .own true 55 U15 .no x0)] : Env)
abbrev e4 := fun x0 x1 x2 => ([(1, .loc U15 .no x0), (4, .v U2 x1), (5, .v .bool x2)] : Env)
abbrev e5 := fun x0 => ([(1, .dead), (2, .v .bool x0)] : Env)
abbrev e6 := fun x0 x1 => ([(1, .loc U15 .no x0), (15, .v .bool x1)] : Env)
abbrev e7 := fun x0 => ([(1, .loc U15 .no x0), (2, .dead)] : Env)
abbrev e8 := fun x0 x1 x2 => ([(0, .v .str x0), (1, .v U10 x1), (2, .v .bool x2)] : Env)
abbrev e9 := fun x0 x1 x2 x3 => ([(1, .v U10 x0), (2, .v .bool x1), (10, .it x2 x3)] : Env)
abbrev e10 := fun x0 x1 x2 x3 x4 x5 x6 x7 => ([(1, .v U10 x0), (2, .v .bool x1), (10, .it x2 x3), (11, .tup [.v .bool x4, .v U2 x5, .v U3 x6]), (12, .v .bool x7)] : Env)
abbrev e11 := fun x0 x1 x2 x3 x4 x5 => ([(1, .v U10 x0), (2, .v .bool x1), (10, .it x2 x3), (11, .tup [.v .bool x4]), (12, .v .bool x5)] : Env)
abbrev e12 := fun x0 x1 x2 x3 x4 x5 x6 => ([(1, .v U10 x0), (2, .v .bool x1), (10, .it x2 x3), (11, .tup [.v .bool x4, .v U2 x5, .v U3 x6])] : Env)
abbrev e13 := fun x0 x1 x2 x3 x4 x5 => ([(1, .v U10 x0), (2, .v .bool x1), (7, .v U2 x2), (10, .it x3 x4), (19, .v .bool x5)] : Env)
abbrev e14 := fun x0 => ([(1, .dead), (2, .dead), (6, .v U2 x0), (10, .dead)] : Env)
abbrev e15 := fun x0 x1 x2 x3 => ([(1, .v U10 x0), (2, .v .bool x1), (6, .dead), (10, .it x2 x3)] : Env)
abbrev e16 := fun x0 x1 x2 x3 x4 => ([(1, .v U10 x0), (2, .v .bool x1), (10, .it x2 x3), (11, .tup [.v .bool x4])] : Env)
abbrev e17 := fun x0 x1 => ([(0, .v .str x0), (1, .v U10 x1)] : Env)
abbrev e18 := fun x0 x1 => ([(1, .loc U15 .no x0), (3, .v .bool x1)] : Env)
abbrev e19 := fun x0 x1 => ([(1, .loc U15 .no x0), (12, .v .bool x1)] : Env)
abbrev e20 := fun x0 x1 => ([(1, .loc U15 .no x0), (16, .v .bool x1)] : Env)
abbrev e21 := fun x0 x1 => ([(1, .loc U15 .no x0), (20, .v .bool x1)] : Env)
abbrev e22 := fun x0 x1 => ([(0, .v U17 x0), (8, .v .bool x1)] : Env)
abbrev e23 := fun x0 x1 x2 => ([(9, .v U17 x0), (10, .v U2 x1), (11, .v U2 x2)] : Env)
abbrev e24 := fun x0 x1 x2 x3 => ([(9, .v U17 x0), (10, .v U2 x1), (11, .v U2 x2), (12, .v .bool x3)] : Env)
abbrev e25 := fun x0 x1 x2 x3 x4 => ([(5, .v U2 x0), (9, .v U17 x1), (10, .v U2 x2), (11, .v U2 x3), (18, .v .bool x4)] : Env)
abbrev e26 := fun x0 => ([(2, .v U2 x0), (9, .dead), (10, .dead), (11, .dead)] : Env)
abbrev e27 := fun x0 x1 x2 => ([(2, .dead), (9, .v U17 x0), (10, .v U2 x1), (11, .v U2 x2)] : Env)
abbrev e28 := fun x0 x1 => ([(0, .v U17 x0), (1, .v U17 x1)] : Env)
abbrev e29 := fun x0 x1 x2 => ([(1, .v U17 x0), (5, .v U2 x1), (9, .v .bool x2)] : Env)
abbrev e30 := fun x0 x1 => ([(0, .v U17 x0), (3, .v U2 x1)] : Env)
abbrev e31 := fun x0 x1 x2 => ([(0, .v U17 x0), (3, .v U2 x1), (6, .v .bool x2)] : Env)
abbrev e32 := fun x0 x1 => ([(0, .v U17 x0), (1, .v U23 x1)] : Env)
abbrev e33 := fun x0 x1 x2 x3 => ([(0, .v U17 x0), (1, .v U23 x1), (7, .v U2 x2), (8, .v U2 x3)] : Env)
abbrev e34 := fun x0 x1 x2 x3 x4 => ([(0, .v U17 x0), (1, .v U23 x1), (7, .v U2 x2), (8, .v U2 x3), (9, .v .bool x4)] : Env)
abbrev e35 := fun x0 x1 x2 x3 x4 x5 => ([(0, .v U17 x0), (1, .v U23 x1), (5, .v U2 x2), (7, .v U2 x3), (8, .v U2 x4), (16, .v .bool x5)] : Env)
abbrev e36 := fun x0 => ([(0, .dead), (1, .dead), (4, .v U2 x0), (7, .dead), (8, .dead)] : Env)
abbrev e37 := fun x0 x1 x2 x3 => ([(0, .v U17 x0), (1, .v U23 x1), (4, .dead), (7, .v U2 x2), (8, .v U2 x3)] : Env)
abbrev e38 := fun x0 x1 x2 => ([(0, .v U17 x0), (3, .v U2 x1), (7, .v .bool x2)] : Env)
abbrev e39 := fun x0 x1 x2 => ([(0, .v U17 x0), (1, .v U17 x1), (5, .v U2 x2)] : Env)
abbrev e40 := fun x0 x1 x2 => ([(0, .v U17 x0), (5, .v U2 x1), (8, .v .bool x2)] : Env)
abbrev e41 := fun x0 => ([(4, .own true 3 U2 .no x0)] : Env)
abbrev e42 := fun x0 x1 => ([(0, .v U17 x0), (17, .v .bool x1)] : Env)
abbrev e43 := fun x0 x1 => ([(0, .v U5 x0), (1, .v U2 x1)] : Env)
abbrev e44 := fun x0 x1 x2 x3 => ([(0, .v U5 x0), (1, .v U2 x1), (7, .v U2 x2), (8, .v U2 x3)] : Env)
abbrev e45 := fun x0 x1 x2 x3 x4 => ([(0, .v U5 x0), (1, .v U2 x1), (7, .v U2 x2), (8, .v U2 x3), (9, .v .bool x4)] : Env)
abbrev e46 := fun x0 x1 x2 x3 x4 x5 => ([(0, .v U5 x0), (1, .v U2 x1), (5, .v U2 x2), (7, .v U2 x3), (8, .v U2 x4), (16, .v .bool x5)] : Env)
abbrev e47 := fun x0 x1 x2 x3 => ([(0, .v U5 x0), (1, .v U2 x1), (4, .dead), (7, .v U2 x2), (8, .v U2 x3)] : Env)
abbrev e48 := fun x0 x1 x2 => ([(0, .v U17 x0), (1, .v U17 x1), (2, .v U2 x2)] : Env)
abbrev e49 := fun x0 x1 x2 x3 x4 => ([(0, .v U17 x0), (1, .v U17 x1), (2, .v U2 x2), (10, .v U2 x3), (21, .v .bool x4)] : Env)
abbrev e50 := fun x0 x1 x2 x3 => ([(6, .own true 55 U15 .no x0), (7, .own true 55 U15 .no x1), (8, .own true 55 U15 .no x2), (9, .v U2 x3)] : Env)
abbrev e51 := fun x0 x1 x2 x3 => ([(0, .dead), (1, .dead), (2, .dead), (6, .own true 55 U15 .no x0), (7, .own true 55 U15 .no x1), (8, .own true 55 U15 .no x2), (9, .v U2 x3)] : Env)
abbrev e52 := fun x0 x1 x2 => ([(0, .v U17 x0), (1, .v U17 x1), (2, .v U2 x2), (6, .dead), (7, .dead), (8, .dead), (9, .dead)] : Env)
abbrev e53 := fun x0 x1 x2 x3 => ([(0, .v U17 x0), (1, .v U17 x1), (2, .v U2 x2), (28, .v .bool x3)] : Env)
abbrev e54 := fun x0 x1 x2 x3 => ([(0, .v U17 x0), (1, .v U17 x1), (2, .v U2 x2), (34, .v .bool x3)] : Env)
abbrev e55 := fun x0 x1 x2 x3 x4 => ([(0, .v U17 x0), (1, .v U17 x1), (2, .v U2 x2), (11, .own true 55 U15 .no x3), (12, .own true 55 U15 .no x4)] : Env)
abbrev e56 := fun x0 x1 x2 x3 x4 x5 => ([(0, .v U17 x0), (1, .v U17 x1), (2, .v U2 x2), (11, .own true 55 U15 .no x3), (12, .own true 55 U15 .no x4), (13, .own true 55 U15 .no x5)] : Env)
abbrev e57 := fun x0 x1 x2 x3 x4 x5 => ([(0, .v U17 x0), (1, .v U17 x1), (11, .own true 55 U15 .no x2), (12, .own true 55 U15 .no x3), (13, .own true 55 U15 .no x4), (39, .v U2 x5)] : Env)
abbrev e58 := fun x0 x1 x2 x3 x4 x5 x6 => ([(0, .v U17 x0), (1, .v U17 x1), (11, .own true 55 U15 .no x2), (12, .own true 55 U15 .no x3), (13, .own true 55 U15 .no x4), (39, .v U2 x5), (40, .v .bool x6)] : Env)
abbrev e59 := fun x0 x1 x2 x3 => ([(0, .v U17 x0), (11, .own true 55 U15 .no x1), (12, .own true 55 U15 .no x2), (14, .v U2 x3)] : Env)
abbrev e60 := fun x0 x1 x2 => ([(11, .v U17 x0), (12, .own true 55 U15 .no x1), (13, .own true 55 U15 .no x2)] : Env)
abbrev e61 := fun x0 x1 x2 x3 x4 x5 => ([(1, .v U17 x0), (11, .own true 55 U15 .no x1), (12, .own true 55 U15 .no x2), (13, .own true 55 U15 .no x3), (39, .v U2 x4), (55, .v .bool x5)] : Env)
abbrev e62 := fun x0 x1 x2 => ([(11, .own true 55 U15 .no x0), (12, .own true 55 U15 .no x1), (13, .own true 55 U15 .no x2)] : Env)
abbrev e63 := fun x0 x1 x2 x3 => ([(11, .own true 55 U15 .no x0), (12, .own true 55 U15 .no x1), (13, .own true 55 U15 .no x2), (68, .v .bool x3)] : Env)
abbrev e64 := fun x0 x1 x2 x3 => ([(11, .own true 55 U15 .no x0), (12, .own true 55 U15 .no x1), (13, .own true 55 U15 .no x2), (16, .ptre 11 [] x3 [])] : Env)
abbrev e65 := fun x0 x1 x2 x3 x4 => ([(6, .v U17 x0), (7, .ref 12 []), (8, .ref 13 []), (9, .v U2 x1), (11, .v U17 x2), (12, .own true 55 U15 .no x3), (13, .own true 55 U15 .no x4)] : Env)
abbrev e66 := fun x0 x1 x2 x3 => ([(6, .ref 11 []), (7, .ref 12 []), (8, .ref 13 []), (9, .v U2 x0), (11, .own true 55 U15 .no x1), (12, .own true 55 U15 .no x2), (13, .own true 55 U15 .no x3)] : Env)
abbrev e67 := fun x0 x1 x2 => ([(6, .v U17 x0), (7, .ref 10 []), (8, .v U2 x1), (10, .own true 55 U15 .no x2)] : Env)
abbrev e68 := fun x0 x1 => ([(6, .ref 10 []), (7, .v U2 x0), (10, .own true 55 U15 .no x1)] : Env)
abbrev e69 := fun x0 x1 => ([(0, .v U2 x0), (1, .v U2 x1)] : Env)
abbrev e70 := fun x0 x1 x2 => ([(0, .v U2 x0), (1, .v U2 x1), (7, .v .bool x2)] : Env)
abbrev e71 := fun x0 => ([(0, .dead), (1, .dead), (4, .v U2 x0)] : Env)
abbrev e72 := fun x0 x1 x2 x3 => ([(2, .loc U15 .no x0), (3, .loc U15 .no x1), (5, .v U2 x2), (13, .v .bool x3)] : Env)
abbrev e73 := fun x0 => ([(2, .dead), (3, .dead), (4, .v U2 x0)] : Env)
abbrev e74 := fun x0 x1 => ([(2, .loc U15 .no x0), (3, .loc U15 .no x1), (4, .dead)] : Env)
abbrev e75 := fun x0 x1 x2 x3 => ([(2, .loc U15 .no x0), (3, .loc U15 .no x1), (6, .v U2 x2), (21, .v .bool x3)] : Env)
abbrev e76 := fun x0 x1 x2 => ([(2, .loc U15 .no x0), (3, .loc U15 .no x1), (27, .v .bool x2)] : Env)
abbrev e77 := fun x0 x1 x2 => ([(0, .v U17 x0), (1, .v U17 x1), (10, .v .bool x2)] : Env)
abbrev e78 := fun x0 => ([(0, .dead), (1, .dead), (4, .v .bool x0)] : Env)
abbrev e79 := fun x0 x1 x2 x3 => ([(0, .v U17 x0), (1, .v U17 x1), (5, .v U2 x2), (14, .v .bool x3)] : Env)
abbrev e80 := fun x0 x1 x2 x3 => ([(0, .v U17 x0), (1, .v U17 x1), (5, .v U2 x2), (26, .v .bool x3)] : Env)
abbrev e81 := fun x0 => ([(0, .dead), (1, .dead), (4, .v .bool x0), (5, .dead)] : Env)
abbrev e82 := fun x0 x1 x2 => ([(0, .v U17 x0), (1, .v U17 x1), (4, .dead), (5, .v U2 x2)] : Env)
abbrev e83 := fun x0 x1 => ([(0, .v U20 x0), (3, .v U2 x1)] : Env)
abbrev e84 := fun x0 x1 x2 x3 x4 => ([(0, .v U20 x0), (3, .v U2 x1), (9, .v U20 x2), (10, .v U2 x3), (11, .v U2 x4)] : Env)
abbrev e85 := fun x0 x1 x2 x3 x4 x5 => ([(0, .v U20 x0), (3, .v U2 x1), (9, .v U20 x2), (10, .v U2 x3), (11, .v U2 x4), (12, .v .bool x5)] : Env)
abbrev e86 := fun x0 x1 x2 x3 x4 x5 => ([(0, .v U20 x0), (3, .v U2 x1), (9, .v U20 x2), (10, .v U2 x3), (11, .v U2 x4), (20, .v .bool x5)] : Env)
abbrev e87 := fun x0 x1 x2 x3 => ([(6, .own true 55 U15 .no x0), (25, .v U20 x1), (26, .v U2 x2), (27, .v U2 x3)] : Env)
abbrev e88 := fun x0 x1 x2 x3 x4 => ([(6, .own true 55 U15 .no x0), (25, .v U20 x1), (26, .v U2 x2), (27, .v U2 x3), (28, .v .bool x4)] : Env)
abbrev e89 := fun x0 x1 x2 x3 x4 => ([(6, .own true 55 U15 .no x0), (8, .v U17 x1), (25, .v U20 x2), (26, .v U2 x3), (27, .v U2 x4)] : Env)
abbrev e90 := fun x0 => ([(6, .own true 55 U15 .no x0)] : Env)
abbrev e91 := fun x0 => ([(2, .ref 6 []), (6, .own true 55 U15 .no x0)] : Env)
abbrev e92 := fun x0 x1 x2 => ([(0, .v U4 x0), (1, .v U4 x1), (2, .v U0 x2)] : Env)
abbrev e93 := fun x0 x1 x2 x3 => ([(0, .v U4 x0), (1, .v U4 x1), (2, .v U0 x2), (26, .v .bool x3)] : Env)
abbrev e94 := fun x0 => ([(0, .dead), (1, .dead), (2, .dead), (6, .v .bool x0)] : Env)
abbrev e95 := fun x0 x1 x2 => ([(2, .v U0 x0), (7, .own true 55 U15 .no x1), (8, .own true 55 U15 .no x2)] : Env)
abbrev e96 := fun x0 x1 x2 x3 x4 x5 => ([(2, .v U0 x0), (7, .own false 55 U15 .no x1), (8, .own false 55 U15 .no x2), (9, .v U17 x3), (10, .own true 55 U15 .no x4), (11, .v U2 x5)] : Env)
abbrev e97 := fun x0 x1 x2 x3 x4 x5 x6 x7 => ([(2, .v U0 x0), (7, .own false 55 U15 .no x1), (8, .own false 55 U15 .no x2), (9, .v U17 x3), (10, .own true 55 U15 .no x4), (11, .v U2 x5), (12, .own true 55 U15 .no x6), (13, .v U2 x7)] : Env)
abbrev e98 := fun x0 x1 x2 x3 x4 x5 x6 x7 x8 => ([(2, .v U0 x0), (7, .own false 55 U15 .no x1), (8, .own false 55 U15 .no x2), (9, .v U17 x3), (10, .own true 55 U15 .no x4), (11, .v U2 x5), (12, .own true 55 U15 .no x6), (13, .v U2 x7), (56, .v .bool x8)] : Env)
abbrev e99 := fun x0 => ([(2, .dead), (6, .v .bool x0), (7, .dead), (8, .dead), (9, .dead), (10, .dead), (12, .dead)] : Env)
abbrev e100 := fun x0 x1 x2 x3 x4 x5 => ([(2, .v U0 x0), (6, .dead), (7, .own false 55 U15 .no x1), (8, .own false 55 U15 .no x2), (9, .v U17 x3), (10, .own true 55 U15 .no x4), (12, .own true 55 U15 .no x5)] : Env)
abbrev e101 := fun x0 x1 x2 x3 x4 x5 => ([(7, .own false 55 U15 .no x0), (8, .own false 55 U15 .no x1), (9, .v U17 x2), (10, .own true 55 U15 .no x3), (12, .own true 55 U15 .no x4), (66, .v .bool x5)] : Env)
abbrev e102 := fun x0 x1 x2 x3 x4 x5 => ([(7, .own false 55 U15 .no x0), (8, .own false 55 U15 .no x1), (9, .v U17 x2), (10, .own true 55 U15 .no x3), (12, .own true 55 U15 .no x4), (14, .v U2 x5)] : Env)
abbrev e103 := fun x0 => ([(6, .v .bool x0), (7, .dead), (8, .dead), (9, .dead), (10, .dead), (12, .dead)] : Env)
abbrev e104 := fun x0 x1 x2 x3 x4 => ([(6, .dead), (7, .own false 55 U15 .no x0), (8, .own false 55 U15 .no x1), (9, .v U17 x2), (10, .own true 55 U15 .no x3), (12, .own true 55 U15 .no x4)] : Env)
variable {N : Nat} {cl : Cal} {R : Type} {K : KE R}
def g34_0 (x0 : Int) (k0 : Int → V6 → Option R) : Option R :=
k0 x0 ((0 : Int), ((0 : Int), ([], ())))
theorem t34_0 (x0) : exec cl N c34_0 [(0, .v U0 x0)] K = (g34_0 x0 (fun y0 y1 => K .normal [(0, .v U0 y0), (2, .loc U15 .no y1)])) := by
  kernel_rfl
def g34_1 (x0 : Int) (x1 : V6) (k0 : Int → V6 → V8 → Option R) : Option R :=
k0 x0 x1 [((1 : Int), (3 : Int), ([97] : List UInt8), ()), ((1 : Int), (1 : Int), ([101] : List UInt8), ()), ((1 : Int), (2 : Int), ([111] : List UInt8), ()), ((1 : Int), (3 : Int), ([105] : List UInt8), ()), ((2 : Int), (2 : Int), ([97, 101] : List UInt8), ()), ((3 : Int), (0 : Int), ([116] : List UInt8), ()), ((3 : Int), (0 : Int), ([98] : List UInt8), ()), ((4 : Int), (0 : Int), ([114] : List UInt8), ()), ((4 : Int), (0 : Int), ([108] : List UInt8), ()), ((5 : Int), (0 : Int), ([109] : List UInt8), ()), ((5 : Int), (0 : Int), ([110] : List UInt8), ()), ((6 : Int), (0 : Int), ([115] : List UInt8), ()), ((7 : Int), (0 : Int), ([120] : List UInt8), ()), ((8 : Int), (0 : Int), ([118] : List UInt8), ()), ((9 : Int), (0 : Int), ([104] : List UInt8), ()), ((1 : Int), (3 : Int), ([117] : List UInt8), ())]
theorem t34_1 (x0 x1) : exec cl N c34_1 [(0, .v U0 x0), (2, .loc U15 .no x1)] K = (g34_1 x0 x1 (fun y0 y1 y2 => K .normal [(0, .v U0 y0), (2, .loc U15 .no y1), (3, .own true 55 U15 .no y2)])) := by
  kernel_rfl
def g34_2 (x0 : Int) (x1 : V6) (x2 : V8) (k0 : V6 → Option R) : Option R :=
if (x2.length : Int) = 0 then none else
let v42 : Int := (Int.tmod (IntKind.i64.wrap x0) (x2.length : Int))
if 0 ≤ v42 ∧ v42 < (x2.length : Int) then
if v42.toNat < x2.length then
k0 (x2.getD v42.toNat ((0 : Int), ((0 : Int), ([], ()))))
else none
else none
theorem t34_2 (x0 x1 x2) : exec cl N c34_2 [(0, .v U0 x0), (2, .loc U15 .no x1), (3, .own true 55 U15 .no x2)] K = (g34_2 x0 x1 x2 (fun y0 => K .normal [(2, .loc U15 .no y0)])) := by
  kernel_rfl
def g34_3 (x0 : Int) (k0 : V6 → Option R) : Option R :=
(g34_0 x0 (fun y0 y1 => (g34_1 y0 y1 (fun y0 y1 y2 => (g34_2 y0 y1 y2 (fun y0 => (k0 y0)))))))
theorem t34_3 (x0) : exec cl N c34_3 [(0, .v U0 x0)] K = (g34_3 x0 (fun y0 => K .ret [(2, .loc U15 .no y0)])) := by
  simp only [c34_3, exec_seq, seqK_normal, seqK_exit, seqK_ret, t34_0, t34_1, t34_2, exec_ret]
  rfl
theorem rk34_0 (y0) : retK d34 .ret [(2, .loc U15 .no y0)] = some [.v U15 y0] := by kernel_rfl
def g34 (x0 : Int) (k : V6 → Option R) : Option R :=
(g34_3 x0 (fun y0 => k y0))
theorem gen34 {N : Nat} {cl : Cal} (x0 : Int) {R : Type} (k : List E → Option R) : exec cl N c34 (params 0 [.v U0 x0]) (fun e env => (retK d34 e env).bind k) = g34 x0 (fun (r0 : V6) => k [.v U15 r0]) := by
  have e0 : params 0 [.v U0 x0] = [(0, .v U0 x0)] := by kernel_rfl
  simp only [c34, e0, t34_3, rk34_0, Option.bind_some]
  rfl
def ctr34 (S : Int → Option V7) : Ctr := { A := Int × Unit, B := V6, f := 34, enc := fun a => [.v U0 a.1], dec := (decC (decV U0) dec0), S := fun a => S a.1, ent := fun b => [.v U15 b], ok := (decV_cons (T := U0) (fun es b h => dec0_some h)) }
def S34 (N : Nat) (x0 : Int) : Option V7 := g34 x0 (fun (r0 : V6) => some (r0))
def g10_0 (x0 : V0) (k0 : V0 → Option R) : Option R :=
k0 x0
theorem t10_0 (x0) : exec cl N c10_0 [(0, .v U4 x0)] K = (g10_0 x0 (fun y0 => K .normal [(0, .v U4 y0)])) := by
  kernel_rfl
def g10_1 (x0 : V0) (k0 : V0 → V8 → Option R) : Option R :=
k0 x0 []
theorem t10_1 (x0) : exec cl N c10_1 [(0, .v U4 x0)] K = (g10_1 x0 (fun y0 y1 => K .normal [(0, .v U4 y0), (3, .own true 55 U15 .no y1)])) := by
  kernel_rfl
def g10_2 (x0 : V0) (x1 : V8) (k0 : V0 → V8 → Int → Option R) : Option R :=
k0 x0 x1 (0 : Int)
theorem t10_2 (x0 x1) : exec cl N c10_2 [(0, .v U4 x0), (3, .own true 55 U15 .no x1)] K = (g10_2 x0 x1 (fun y0 y1 y2 => K .normal (e0 y0 y1 y2))) := by
  kernel_rfl
theorem kp10_0 (x0 x1 x2) : keep [0, 3, 4] (e0 x0 x1 x2) = (e0 x0 x1 x2) := by kernel_rfl
def g10_3 (x0 : V0) (x1 : V8) (x2 : Int) (k0 : V0 → V8 → Int → Bool → Option R) : Option R :=
k0 x0 x1 x2 (decide (x2 < (x0.length : Int)))
theorem t10_3 (x0 x1 x2) : exec cl N c10_3 (e0 x0 x1 x2) K = (g10_3 x0 x1 x2 (fun y0 y1 y2 y3 => K .normal (e1 y0 y1 y2 y3))) := by
  kernel_rfl
theorem kp10_1 (x0 x1 x2 x3) : keep [0, 3, 4] (e1 x0 x1 x2 x3) = (e0 x0 x1 x2) := by kernel_rfl
theorem hb10_0 (x0 x1 x2 x3) : boolOf? (ent (e1 x0 x1 x2 x3) (.t 8)) = some x3 := by kernel_rfl
def g10_5 (S34 : Int → Option V7) (x0 : V0) (x1 : V8) (x2 : Int) (k0 : V0 → V8 → Int → Option R) : Option R :=
if 0 ≤ x2 ∧ x2 < (x0.length : Int) then
(S34 (x0.getD x2.toNat (0 : Int))).bind fun r47 =>
if x1.length + [r47].length ≤ 4398046511104 then
k0 x0 (x1 ++ [r47]) x2
else none
else none
theorem t10_5 (S34) (h34 : (ctr34 S34).holds cl) (x0 x1 x2) : exec cl N c10_5 (e0 x0 x1 x2) K = (g10_5 S34 x0 x1 x2 (fun y0 y1 y2 => K .normal (e0 y0 y1 y2))) := by
  rw [← put_eq h34]
  kernel_rfl
def g10_7 (x0 : V0) (x1 : V8) (x2 : Int) (k0 : V0 → V8 → Int → Option R) : Option R :=
k0 x0 x1 (IntKind.i64.wrap (x2 + (1 : Int)))
theorem t10_7 (x0 x1 x2) : exec cl N c10_7 (e0 x0 x1 x2) K = (g10_7 x0 x1 x2 (fun y0 y1 y2 => K .normal (e0 y0 y1 y2))) := by
  kernel_rfl
def g10_8 (S34 : Int → Option V7) (x0 : V0) (x1 : V8) (x2 : Int) (k0 : V0 → V8 → Int → Option R) (k1 : V0 → V8 → Int → Option R) : Option R :=
(g10_3 x0 x1 x2 (fun y0 y1 y2 y3 => brB y3 ((fun y0 y1 y2 => (g10_5 S34 y0 y1 y2 (fun y0 y1 y2 => (g10_7 y0 y1 y2 k0)))) y0 y1 y2) (k1 y0 y1 y2)))
theorem t10_8 (S34) (h34 : (ctr34 S34).holds cl) (x0 x1 x2) : exec cl N c10_8 (e0 x0 x1 x2) K = (g10_8 S34 x0 x1 x2 (fun y0 y1 y2 => K .normal (e0 y0 y1 y2)) (fun y0 y1 y2 => K (.exit 0) (e0 y0 y1 y2))) := by
  simp only [c10_8, exec_seq, seqK_normal, seqK_exit, seqK_ret, t10_3, c10_4, exec_out, exec_cond', hb10_0, Option.bind_some, brB_true, brB_false, exec_skip, exec_exit, kp10_1, c10_6, exec_block, t10_5 S34 h34, blockK_normal, blockK_ret, blockK_eq, kp10_0, t10_7]
  rfl
def l10_9 {R : Type} (S34 : Int → Option V7) (k0 : V0 → V8 → Int → Option R) : Nat → V0 → V8 → Int → Option R
  | 0, _, _, _ => none
  | m + 1, x0, x1, x2 => (g10_8 S34 x0 x1 x2 (fun y0 y1 y2 => l10_9 S34 k0 m y0 y1 y2) k0)
theorem lt10_9 (S34) (h34 : (ctr34 S34).holds cl) : ∀ (m) (x0 x1 x2), iter [0, 3, 4] (fun env K => exec cl N c10_8 env K) K m (e0 x0 x1 x2) = l10_9 S34 (fun y0 y1 y2 => K (.exit 0) (e0 y0 y1 y2)) m x0 x1 x2 := by
  intro m
  induction m with
  | zero => intros; rfl
  | succ m ih =>
    intro x0 x1 x2
    simp only [iter_succ, t10_8 S34 h34, loopK_normal, loopK_exit, loopK_ret, kp10_0, ih]
    rfl
theorem kp10_2 (x0 x1 x2) : keep [3] (e0 x0 x1 x2) = (e2 x1) := by kernel_rfl
def g10_9 (N : Nat) (S34 : Int → Option V7) (x0 : V0) (x1 : V8) (x2 : Int) (k0 : V8 → Option R) : Option R :=
l10_9 S34 (fun y0 y1 y2 => k0 y1) N x0 x1 x2
theorem t10_9 (S34) (h34 : (ctr34 S34).holds cl) (x0 x1 x2) : exec cl N c10_9 (e0 x0 x1 x2) K = (g10_9 N S34 x0 x1 x2 (fun y0 => K (.exit 0) (e2 y0))) := by
  simp only [c10_9, exec_out, exec_loop, kp10_0, lt10_9 S34 h34, kp10_2]
  rfl
theorem kp10_3 (x0) : keep [3] (e2 x0) = (e2 x0) := by kernel_rfl
def g10_11 (x0 : V8) (k0 : V8 → Option R) : Option R :=
k0 x0
theorem t10_11 (x0) : exec cl N c10_11 (e2 x0) K = (g10_11 x0 (fun y0 => K .normal (e3 y0))) := by
  kernel_rfl
def g10_12 (N : Nat) (S34 : Int → Option V7) (x0 : V0) (k0 : V8 → Option R) : Option R :=
(g10_0 x0 (fun y0 => (g10_1 y0 (fun y0 y1 => (g10_2 y0 y1 (fun y0 y1 y2 => (g10_9 N S34 y0 y1 y2 (fun y0 => ((fun y0 => (g10_11 y0 (fun y0 => (k0 y0)))) y0)))))))))
theorem t10_12 (S34) (h34 : (ctr34 S34).holds cl) (x0) : exec cl N c10_12 [(0, .v U4 x0)] K = (g10_12 N S34 x0 (fun y0 => K .ret (e3 y0))) := by
  simp only [c10_12, exec_seq, seqK_normal, seqK_exit, seqK_ret, t10_0, t10_1, t10_2, c10_10, exec_out, exec_block, t10_9 S34 h34, blockK_normal, blockK_ret, blockK_eq, kp10_3, t10_11, exec_ret]
  rfl
theorem rk10_0 (y0) : retK d10 .ret (e3 y0) = some [.own true 55 U15 .no y0] := by kernel_rfl
def g10 (N : Nat) (S34 : Int → Option V7) (x0 : V0) (k : V8 → Option R) : Option R :=
(g10_12 N S34 x0 (fun y0 => k y0))
theorem gen10 {N : Nat} {cl : Cal} (S34 : Int → Option V7) (h34 : (ctr34 S34).holds cl) (x0 : V0) {R : Type} (k : List E → Option R) : exec cl N c10 (params 0 [.v U4 x0]) (fun e env => (retK d10 e env).bind k) = g10 N S34 x0 (fun (r0 : V8) => k [.own true 55 U15 .no r0]) := by
  have e0 : params 0 [.v U4 x0] = [(0, .v U4 x0)] := by kernel_rfl
  simp only [c10, e0, t10_12 S34 h34, rk10_0, Option.bind_some]
  rfl
def ctr10 (S : V0 → Option V9) : Ctr := { A := V0 × Unit, B := V8, f := 10, enc := fun a => [.v U4 a.1], dec := (decC (decV U4) dec0), S := fun a => S a.1, ent := fun b => [.own true 55 U15 .no b], ok := (decV_cons (T := U4) (fun es b h => dec0_some h)) }
def S10 (N : Nat) (x0 : V0) : Option V9 := g10 N (S34 N) x0 (fun (r0 : V8) => some (r0))
def g90_0 (x0 : V6) (k0 : V6 → Option R) : Option R :=
k0 x0
theorem t90_0 (x0) : exec cl N c90_0 [(0, .v U15 x0)] K = (g90_0 x0 (fun y0 => K .normal [(1, .loc U15 .no y0)])) := by
  kernel_rfl
def g90_1 (x0 : V6) (k0 : V6 → Int → Option R) : Option R :=
k0 x0 x0.1
theorem t90_1 (x0) : exec cl N c90_1 [(1, .loc U15 .no x0)] K = (g90_1 x0 (fun y0 y1 => K .normal [(1, .loc U15 .no y0), (4, .v U2 y1)])) := by
  kernel_rfl
def g90_2 (x0 : V6) (x1 : Int) (k0 : V6 → Int → Bool → Option R) : Option R :=
k0 x0 x1 (x1 == (1 : Int))
theorem t90_2 (x0 x1) : exec cl N c90_2 [(1, .loc U15 .no x0), (4, .v U2 x1)] K = (g90_2 x0 x1 (fun y0 y1 y2 => K .normal (e4 y0 y1 y2))) := by
  kernel_rfl
def g90_3 (x0 : V6) (x1 : Int) (x2 : Bool) (k0 : Bool → Option R) : Option R :=
brB (decide (x0.2.1 ≥ (1 : Int))) (k0 (decide (x0.2.1 ≤ (3 : Int)))) (k0 false)
theorem t90_3 (x0 x1 x2) : exec cl N c90_3 (e4 x0 x1 x2) K = (g90_3 x0 x1 x2 (fun y0 => K .normal [(2, .v .bool y0)])) := by
  kernel_rfl
theorem kp90_0 (x0) : keep [1, 2] [(2, .v .bool x0)] = (e5 x0) := by kernel_rfl
def g90_4 (x0 : V6) (x1 : Int) (x2 : Bool) (k0 : V6 → Bool → Option R) : Option R :=
k0 x0 (x1 == (2 : Int))
theorem t90_4 (x0 x1 x2) : exec cl N c90_4 (e4 x0 x1 x2) K = (g90_4 x0 x1 x2 (fun y0 y1 => K .normal (e6 y0 y1))) := by
  kernel_rfl
def g90_5 (x0 : V6) (x1 : Bool) (k0 : Bool → Option R) : Option R :=
k0 (x0.2.1 == (2 : Int))
theorem t90_5 (x0 x1) : exec cl N c90_5 (e6 x0 x1) K = (g90_5 x0 x1 (fun y0 => K .normal [(2, .v .bool y0)])) := by
  kernel_rfl
theorem kp90_1 (x0 x1) : keep [1, 2] (e6 x0 x1) = (e7 x0) := by kernel_rfl
theorem hb90_0 (x0 x1) : boolOf? (ent (e6 x0 x1) (.t 15)) = some x1 := by kernel_rfl
theorem kp90_2 (x0) : keep [1, 2] (e5 x0) = (e5 x0) := by kernel_rfl
theorem kp90_3 (x0) : keep [1, 2] (e7 x0) = (e7 x0) := by kernel_rfl
theorem hb90_1 (x0 x1 x2) : boolOf? (ent (e4 x0 x1 x2) (.t 5)) = some x2 := by kernel_rfl
def g90_9 (x0 : V6) (k0 : Bool → Option R) : Option R :=
k0 (x0.2.1 == (0 : Int))
theorem t90_9 (x0) : exec cl N c90_9 (e7 x0) K = (g90_9 x0 (fun y0 => K .normal [(2, .v .bool y0)])) := by
  kernel_rfl
def g90_10 (x0 : V6) (k0 : Bool → Option R) (k1 : Bool → Option R) : Option R :=
(g90_0 x0 (fun y0 => (g90_1 y0 (fun y0 y1 => (g90_2 y0 y1 (fun y0 y1 y2 => brB y2 (g90_3 y0 y1 y2 (fun y0 => ((fun y0 => (k0 y0)) y0))) (g90_4 y0 y1 y2 (fun y0 y1 => brB y1 (g90_5 y0 y1 (fun y0 => ((fun y0 => (k0 y0)) y0))) ((fun y0 => ((fun y0 => ((fun y0 => (g90_9 y0 (fun y0 => (k1 y0)))) y0)) y0)) y0)))))))))
theorem t90_10 (x0) : exec cl N c90_10 [(0, .v U15 x0)] K = (g90_10 x0 (fun y0 => K .ret (e5 y0)) (fun y0 => K .ret [(2, .v .bool y0)])) := by
  simp only [c90_10, exec_seq, seqK_normal, seqK_exit, seqK_ret, t90_0, t90_1, c90_8, exec_out, exec_block, t90_2, c90_7, exec_cond', hb90_1, Option.bind_some, brB_true, brB_false, t90_3, exec_ret, t90_4, c90_6, hb90_0, t90_5, exec_skip, kp90_0, kp90_1, kp90_2, kp90_3, blockK_normal, blockK_ret, blockK_eq, t90_9]
  rfl
theorem rk90_0 (y0) : retK d90 .ret (e5 y0) = some [.v .bool y0] := by kernel_rfl
theorem rk90_1 (y0) : retK d90 .ret [(2, .v .bool y0)] = some [.v .bool y0] := by kernel_rfl
def g90 (x0 : V6) (k : Bool → Option R) : Option R :=
(g90_10 x0 (fun y0 => k y0) (fun y0 => k y0))
theorem gen90 {N : Nat} {cl : Cal} (x0 : V6) {R : Type} (k : List E → Option R) : exec cl N c90 (params 0 [.v U15 x0]) (fun e env => (retK d90 e env).bind k) = g90 x0 (fun (r0 : Bool) => k [.v .bool r0]) := by
  have e0 : params 0 [.v U15 x0] = [(0, .v U15 x0)] := by kernel_rfl
  simp only [c90, e0, t90_10, rk90_0, rk90_1, Option.bind_some]
  rfl
def ctr90 (S : V6 → Option (Bool)) : Ctr := { A := V6 × Unit, B := Bool, f := 90, enc := fun a => [.v U15 a.1], dec := (decC (decV U15) dec0), S := fun a => S a.1, ent := fun b => [.v .bool b], ok := (decV_cons (T := U15) (fun es b h => dec0_some h)) }
def S90 (N : Nat) (x0 : V6) : Option (Bool) := g90 x0 (fun (r0 : Bool) => some (r0))
def g93_0 (x0 : Int) (k0 : Int → Option R) : Option R :=
k0 x0
theorem t93_0 (x0) : exec cl N c93_0 [(0, .v U3 x0)] K = (g93_0 x0 (fun y0 => K .normal [(0, .v U3 y0)])) := by
  kernel_rfl
def g93_1 (x0 : Int) (k0 : Bool → Option R) : Option R :=
brB (decide (x0 ≥ (97 : Int))) (brB (decide (x0 ≤ (122 : Int))) (k0 true) (brB (decide (x0 ≥ (48 : Int))) (brB (decide (x0 ≤ (57 : Int))) (k0 true) (brB (x0 == (95 : Int)) (k0 true) (brB (x0 == (94 : Int)) (k0 true) (k0 (x0 == (39 : Int)))))) (brB (x0 == (95 : Int)) (k0 true) (brB (x0 == (94 : Int)) (k0 true) (k0 (x0 == (39 : Int))))))) (brB (decide (x0 ≥ (48 : Int))) (brB (decide (x0 ≤ (57 : Int))) (k0 true) (brB (x0 == (95 : Int)) (k0 true) (brB (x0 == (94 : Int)) (k0 true) (k0 (x0 == (39 : Int)))))) (brB (x0 == (95 : Int)) (k0 true) (brB (x0 == (94 : Int)) (k0 true) (k0 (x0 == (39 : Int))))))
theorem t93_1 (x0) : exec cl N c93_1 [(0, .v U3 x0)] K = (g93_1 x0 (fun y0 => K .normal [(2, .v .bool y0)])) := by
  kernel_rfl
def g93_2 (x0 : Int) (k0 : Bool → Option R) : Option R :=
(g93_0 x0 (fun y0 => (g93_1 y0 (fun y0 => (k0 y0)))))
theorem t93_2 (x0) : exec cl N c93_2 [(0, .v U3 x0)] K = (g93_2 x0 (fun y0 => K .ret [(2, .v .bool y0)])) := by
  simp only [c93_2, exec_seq, seqK_normal, seqK_exit, seqK_ret, t93_0, t93_1, exec_ret]
  rfl
theorem rk93_0 (y0) : retK d93 .ret [(2, .v .bool y0)] = some [.v .bool y0] := by kernel_rfl
def g93 (x0 : Int) (k : Bool → Option R) : Option R :=
(g93_2 x0 (fun y0 => k y0))
theorem gen93 {N : Nat} {cl : Cal} (x0 : Int) {R : Type} (k : List E → Option R) : exec cl N c93 (params 0 [.v U3 x0]) (fun e env => (retK d93 e env).bind k) = g93 x0 (fun (r0 : Bool) => k [.v .bool r0]) := by
  have e0 : params 0 [.v U3 x0] = [(0, .v U3 x0)] := by kernel_rfl
  simp only [c93, e0, t93_2, rk93_0, Option.bind_some]
  rfl
def ctr93 (S : Int → Option (Bool)) : Ctr := { A := Int × Unit, B := Bool, f := 93, enc := fun a => [.v U3 a.1], dec := (decC (decV U3) dec0), S := fun a => S a.1, ent := fun b => [.v .bool b], ok := (decV_cons (T := U3) (fun es b h => dec0_some h)) }
def S93 (N : Nat) (x0 : Int) : Option (Bool) := g93 x0 (fun (r0 : Bool) => some (r0))
def g92_0 (x0 : Int) (k0 : Int → Option R) : Option R :=
k0 x0
theorem t92_0 (x0) : exec cl N c92_0 [(0, .v U3 x0)] K = (g92_0 x0 (fun y0 => K .normal [(0, .v U3 y0)])) := by
  kernel_rfl
def g92_1 (S93 : Int → Option (Bool)) (x0 : Int) (k0 : Bool → Option R) : Option R :=
(S93 x0).bind fun r109 =>
k0 (!r109)
theorem t92_1 (S93) (h93 : (ctr93 S93).holds cl) (x0) : exec cl N c92_1 [(0, .v U3 x0)] K = (g92_1 S93 x0 (fun y0 => K .normal [(2, .v .bool y0)])) := by
  rw [← put_eq h93]
  kernel_rfl
def g92_2 (S93 : Int → Option (Bool)) (x0 : Int) (k0 : Bool → Option R) : Option R :=
(g92_0 x0 (fun y0 => (g92_1 S93 y0 (fun y0 => (k0 y0)))))
theorem t92_2 (S93) (h93 : (ctr93 S93).holds cl) (x0) : exec cl N c92_2 [(0, .v U3 x0)] K = (g92_2 S93 x0 (fun y0 => K .ret [(2, .v .bool y0)])) := by
  simp only [c92_2, exec_seq, seqK_normal, seqK_exit, seqK_ret, t92_0, t92_1 S93 h93, exec_ret]
  rfl
theorem rk92_0 (y0) : retK d92 .ret [(2, .v .bool y0)] = some [.v .bool y0] := by kernel_rfl
def g92 (S93 : Int → Option (Bool)) (x0 : Int) (k : Bool → Option R) : Option R :=
(g92_2 S93 x0 (fun y0 => k y0))
theorem gen92 {N : Nat} {cl : Cal} (S93 : Int → Option (Bool)) (h93 : (ctr93 S93).holds cl) (x0 : Int) {R : Type} (k : List E → Option R) : exec cl N c92 (params 0 [.v U3 x0]) (fun e env => (retK d92 e env).bind k) = g92 S93 x0 (fun (r0 : Bool) => k [.v .bool r0]) := by
  have e0 : params 0 [.v U3 x0] = [(0, .v U3 x0)] := by kernel_rfl
  simp only [c92, e0, t92_2 S93 h93, rk92_0, Option.bind_some]
  rfl
def ctr92 (S : Int → Option (Bool)) : Ctr := { A := Int × Unit, B := Bool, f := 92, enc := fun a => [.v U3 a.1], dec := (decC (decV U3) dec0), S := fun a => S a.1, ent := fun b => [.v .bool b], ok := (decV_cons (T := U3) (fun es b h => dec0_some h)) }
def S92 (N : Nat) (x0 : Int) : Option (Bool) := g92 (S93 N) x0 (fun (r0 : Bool) => some (r0))
def g108_0 (x0 : V1) (x1 : V4) (x2 : Bool) (k0 : V1 → V4 → Bool → Option R) : Option R :=
k0 x0 x1 x2
theorem t108_0 (x0 x1 x2) : exec cl N c108_0 (e8 x0 x1 x2) K = (g108_0 x0 x1 x2 (fun y0 y1 y2 => K .normal (e8 y0 y1 y2))) := by
  kernel_rfl
def g108_1 (x0 : V1) (x1 : V4) (x2 : Bool) (k0 : V4 → Bool → V1 → Nat → Option R) : Option R :=
k0 x1 x2 x0 (0 : Nat)
theorem t108_1 (x0 x1 x2) : exec cl N c108_1 (e8 x0 x1 x2) K = (g108_1 x0 x1 x2 (fun y0 y1 y2 y3 => K .normal (e9 y0 y1 y2 y3))) := by
  kernel_rfl
theorem kp108_0 (x0 x1 x2 x3) : keep [1, 2, 10] (e9 x0 x1 x2 x3) = (e9 x0 x1 x2 x3) := by kernel_rfl
def g108_2 (x0 : V4) (x1 : Bool) (x2 : V1) (x3 : Nat) (k0 : V4 → Bool → V1 → Nat → Bool → Int → Int → Bool → Option R) (k1 : V4 → Bool → V1 → Nat → Bool → Bool → Option R) : Option R :=
brB (decide (x3 < x2.length)) (k0 x0 x1 x2 (x3 + (Utf8.decode ⟨⟨x2⟩⟩ x3).2) true ((x3 : Nat) : Int) (((Utf8.decode ⟨⟨x2⟩⟩ x3).1 : Nat) : Int) true) (k1 x0 x1 x2 x3 false false)
theorem t108_2 (x0 x1 x2 x3) : exec cl N c108_2 (e9 x0 x1 x2 x3) K = (g108_2 x0 x1 x2 x3 (fun y0 y1 y2 y3 y4 y5 y6 y7 => K .normal (e10 y0 y1 y2 y3 y4 y5 y6 y7)) (fun y0 y1 y2 y3 y4 y5 => K .normal (e11 y0 y1 y2 y3 y4 y5))) := by
  kernel_rfl
theorem kp108_1 (x0 x1 x2 x3 x4 x5 x6 x7) : keep [1, 2, 10, 11] (e10 x0 x1 x2 x3 x4 x5 x6 x7) = (e12 x0 x1 x2 x3 x4 x5 x6) := by kernel_rfl
theorem hb108_0 (x0 x1 x2 x3 x4 x5 x6 x7) : boolOf? (ent (e10 x0 x1 x2 x3 x4 x5 x6 x7) (.t 12)) = some x7 := by kernel_rfl
def g108_4 (x0 : V4) (x1 : Bool) (x2 : V1) (x3 : Nat) (x4 : Bool) (x5 x6 : Int) (k0 : V4 → Bool → Int → Int → V1 → Nat → Option R) : Option R :=
k0 x0 x1 x5 x6 x2 x3
theorem t108_4 (x0 x1 x2 x3 x4 x5 x6) : exec cl N c108_4 (e12 x0 x1 x2 x3 x4 x5 x6) K = (g108_4 x0 x1 x2 x3 x4 x5 x6 (fun y0 y1 y2 y3 y4 y5 => K .normal [(1, .v U10 y0), (2, .v .bool y1), (7, .v U2 y2), (8, .v U3 y3), (10, .it y4 y5)])) := by
  kernel_rfl
def g108_5 (x0 : V4) (x1 : Bool) (x2 x3 : Int) (x4 : V1) (x5 : Nat) (k0 : V4 → Bool → Int → V1 → Nat → Bool → Option R) : Option R :=
(x0 (x3, ())).bind fun r115 =>
k0 x0 x1 x2 x4 x5 (r115 == x1)
theorem t108_5 (x0 x1 x2 x3 x4 x5) : exec cl N c108_5 [(1, .v U10 x0), (2, .v .bool x1), (7, .v U2 x2), (8, .v U3 x3), (10, .it x4 x5)] K = (g108_5 x0 x1 x2 x3 x4 x5 (fun y0 y1 y2 y3 y4 y5 => K .normal (e13 y0 y1 y2 y3 y4 y5))) := by
  kernel_rfl
def g108_6 (x0 : V4) (x1 : Bool) (x2 : Int) (x3 : V1) (x4 : Nat) (x5 : Bool) (k0 : Int → Option R) : Option R :=
k0 x2
theorem t108_6 (x0 x1 x2 x3 x4 x5) : exec cl N c108_6 (e13 x0 x1 x2 x3 x4 x5) K = (g108_6 x0 x1 x2 x3 x4 x5 (fun y0 => K .normal [(6, .v U2 y0)])) := by
  kernel_rfl
theorem kp108_2 (x0) : keep [1, 2, 6, 10] [(6, .v U2 x0)] = (e14 x0) := by kernel_rfl
theorem kp108_3 (x0 x1 x2 x3 x4 x5) : keep [1, 2, 6, 10] (e13 x0 x1 x2 x3 x4 x5) = (e15 x0 x1 x3 x4) := by kernel_rfl
theorem hb108_1 (x0 x1 x2 x3 x4 x5) : boolOf? (ent (e13 x0 x1 x2 x3 x4 x5) (.t 19)) = some x5 := by kernel_rfl
theorem kp108_4 (x0) : keep [1, 2, 6, 10] (e14 x0) = (e14 x0) := by kernel_rfl
theorem kp108_5 (x0 x1 x2 x3) : keep [1, 2, 6, 10] (e15 x0 x1 x2 x3) = (e15 x0 x1 x2 x3) := by kernel_rfl
theorem kp108_6 (x0 x1 x2 x3 x4 x5) : keep [1, 2, 10, 11] (e11 x0 x1 x2 x3 x4 x5) = (e16 x0 x1 x2 x3 x4) := by kernel_rfl
theorem hb108_2 (x0 x1 x2 x3 x4 x5) : boolOf? (ent (e11 x0 x1 x2 x3 x4 x5) (.t 12)) = some x5 := by kernel_rfl
def g108_4b (x0 : V4) (x1 : Bool) (x2 : V1) (x3 : Nat) (x4 : Bool) : Option R :=
none /- extract 1 of 1 -/
theorem t108_4b (x0 x1 x2 x3 x4) : exec cl N c108_4 (e16 x0 x1 x2 x3 x4) K = (g108_4b x0 x1 x2 x3 x4) := by
  kernel_rfl
def g108_9 (x0 : V4) (x1 : Bool) (x2 : V1) (x3 : Nat) (k0 : Int → Option R) (k1 : V4 → Bool → V1 → Nat → Option R) (k2 : V4 → Bool → V1 → Nat → Bool → Int → Int → Option R) (k3 : V4 → Bool → V1 → Nat → Bool → Option R) : Option R :=
(g108_2 x0 x1 x2 x3 (fun y0 y1 y2 y3 y4 y5 y6 y7 => brB y7 ((fun y0 y1 y2 y3 y4 y5 y6 => (g108_4 y0 y1 y2 y3 y4 y5 y6 (fun y0 y1 y2 y3 y4 y5 => (g108_5 y0 y1 y2 y3 y4 y5 (fun y0 y1 y2 y3 y4 y5 => brB y5 (g108_6 y0 y1 y2 y3 y4 y5 (fun y0 => ((fun y0 => (k0 y0)) y0))) (k1 y0 y1 y3 y4)))))) y0 y1 y2 y3 y4 y5 y6) (k2 y0 y1 y2 y3 y4 y5 y6)) (fun y0 y1 y2 y3 y4 y5 => brB y5 (g108_4b y0 y1 y2 y3 y4) (k3 y0 y1 y2 y3 y4)))
theorem t108_9 (x0 x1 x2 x3) : exec cl N c108_9 (e9 x0 x1 x2 x3) K = (g108_9 x0 x1 x2 x3 (fun y0 => K .ret (e14 y0)) (fun y0 y1 y2 y3 => K .normal (e15 y0 y1 y2 y3)) (fun y0 y1 y2 y3 y4 y5 y6 => K (.exit 0) (e12 y0 y1 y2 y3 y4 y5 y6)) (fun y0 y1 y2 y3 y4 => K (.exit 0) (e16 y0 y1 y2 y3 y4))) := by
  simp only [c108_9, exec_seq, seqK_normal, seqK_exit, seqK_ret, t108_2, c108_3, exec_out, exec_cond', hb108_0, Option.bind_some, brB_true, brB_false, exec_skip, exec_exit, kp108_1, c108_8, exec_block, t108_4, t108_5, c108_7, hb108_1, t108_6, exec_ret, kp108_2, kp108_3, blockK_normal, blockK_ret, blockK_eq, kp108_4, kp108_5, hb108_2, kp108_6, t108_4b]
  rfl
theorem kp108_7 (x0 x1 x2 x3) : keep [1, 2, 10] (e15 x0 x1 x2 x3) = (e9 x0 x1 x2 x3) := by kernel_rfl
def l108_10 {R : Type} (k0 : Int → Option R) (k1 : V4 → Bool → V1 → Nat → Bool → Int → Int → Option R) (k2 : V4 → Bool → V1 → Nat → Bool → Option R) : Nat → V4 → Bool → V1 → Nat → Option R
  | 0, _, _, _, _ => none
  | m + 1, x0, x1, x2, x3 => (g108_9 x0 x1 x2 x3 k0 (fun y0 y1 y2 y3 => l108_10 k0 k1 k2 m y0 y1 y2 y3) k1 k2)
theorem lt108_10 : ∀ (m) (x0 x1 x2 x3), iter [1, 2, 10] (fun env K => exec cl N c108_9 env K) K m (e9 x0 x1 x2 x3) = l108_10 (fun y0 => K .ret (e14 y0)) (fun y0 y1 y2 y3 y4 y5 y6 => K (.exit 0) (e12 y0 y1 y2 y3 y4 y5 y6)) (fun y0 y1 y2 y3 y4 => K (.exit 0) (e16 y0 y1 y2 y3 y4)) m x0 x1 x2 x3 := by
  intro m
  induction m with
  | zero => intros; rfl
  | succ m ih =>
    intro x0 x1 x2 x3
    simp only [iter_succ, t108_9, loopK_normal, loopK_exit, loopK_ret, kp108_7, ih]
    rfl
theorem kp108_8 (x0) : keep [6] (e14 x0) = [(6, .v U2 x0)] := by kernel_rfl
theorem kp108_9 (x0 x1 x2 x3 x4 x5 x6) : keep [6] (e12 x0 x1 x2 x3 x4 x5 x6) = [(6, .dead)] := by kernel_rfl
theorem kp108_10 (x0 x1 x2 x3 x4) : keep [6] (e16 x0 x1 x2 x3 x4) = [(6, .dead)] := by kernel_rfl
def g108_10 (N : Nat) (x0 : V4) (x1 : Bool) (x2 : V1) (x3 : Nat) (k0 : Int → Option R) (k1 : Option R) : Option R :=
l108_10 (fun y0 => k0 y0) (fun y0 y1 y2 y3 y4 y5 y6 => k1) (fun y0 y1 y2 y3 y4 => k1) N x0 x1 x2 x3
theorem t108_10 (x0 x1 x2 x3) : exec cl N c108_10 (e9 x0 x1 x2 x3) K = (g108_10 N x0 x1 x2 x3 (fun y0 => K .ret [(6, .v U2 y0)]) (K (.exit 0) [(6, .dead)])) := by
  simp only [c108_10, exec_out, exec_loop, kp108_0, lt108_10, kp108_10, kp108_8, kp108_9]
  rfl
theorem kp108_11 (x0) : keep [6] [(6, .v U2 x0)] = [(6, .v U2 x0)] := by kernel_rfl
theorem kp108_12 : keep [6] [(6, .dead)] = [(6, .dead)] := by kernel_rfl
def g108_12 (k0 : Int → Option R) : Option R :=
k0 (-1 : Int)
theorem t108_12 : exec cl N c108_12 [(6, .dead)] K = (g108_12 (fun y0 => K .normal [(6, .v U2 y0)])) := by
  kernel_rfl
def g108_13 (N : Nat) (x0 : V1) (x1 : V4) (x2 : Bool) (k0 : Int → Option R) : Option R :=
(g108_0 x0 x1 x2 (fun y0 y1 y2 => (g108_1 y0 y1 y2 (fun y0 y1 y2 y3 => (g108_10 N y0 y1 y2 y3 (fun y0 => (k0 y0)) (g108_12 (fun y0 => (k0 y0))))))))
theorem t108_13 (x0 x1 x2) : exec cl N c108_13 (e8 x0 x1 x2) K = (g108_13 N x0 x1 x2 (fun y0 => K .ret [(6, .v U2 y0)])) := by
  simp only [c108_13, exec_seq, seqK_normal, seqK_exit, seqK_ret, t108_0, t108_1, c108_11, exec_out, exec_block, t108_10, blockK_normal, blockK_ret, blockK_eq, kp108_11, kp108_12, t108_12, exec_ret]
  rfl
theorem rk108_0 (y0) : retK d108 .ret [(6, .v U2 y0)] = some [.v U2 y0] := by kernel_rfl
def g108 (N : Nat) (x0 : V1) (x1 : V4) (x2 : Bool) (k : Int → Option R) : Option R :=
(g108_13 N x0 x1 x2 (fun y0 => k y0))
theorem gen108 {N : Nat} {cl : Cal} (x0 : V1) (x1 : V4) (x2 : Bool) {R : Type} (k : List E → Option R) : exec cl N c108 (params 0 [.v .str x0, .v U10 x1, .v .bool x2]) (fun e env => (retK d108 e env).bind k) = g108 N x0 x1 x2 (fun (r0 : Int) => k [.v U2 r0]) := by
  have e0 : params 0 [.v .str x0, .v U10 x1, .v .bool x2] = (e8 x0 x1 x2) := by kernel_rfl
  simp only [c108, e0, t108_13, rk108_0, Option.bind_some]
  rfl
def ctr108 (S : V1 → V4 → Bool → Option (Int)) : Ctr := { A := V1 × V4 × Bool × Unit, B := Int, f := 108, enc := fun a => [.v .str a.1, .v U10 a.2.1, .v .bool a.2.2.1], dec := (decC (decV .str) (decC (decV U10) (decC (decV .bool) dec0))), S := fun a => S a.1 a.2.1 a.2.2.1, ent := fun b => [.v U2 b], ok := (decV_cons (T := .str) (decV_cons (T := U10) (decV_cons (T := .bool) (fun es b h => dec0_some h)))) }
def S108 (N : Nat) (x0 : V1) (x1 : V4) (x2 : Bool) : Option (Int) := g108 N x0 x1 x2 (fun (r0 : Int) => some (r0))
def g101_0 (x0 : V1) (x1 : V4) (k0 : V1 → V4 → Option R) : Option R :=
k0 x0 x1
theorem t101_0 (x0 x1) : exec cl N c101_0 (e17 x0 x1) K = (g101_0 x0 x1 (fun y0 y1 => K .normal (e17 y0 y1))) := by
  kernel_rfl
def g101_1 (S108 : V1 → V4 → Bool → Option (Int)) (x0 : V1) (x1 : V4) (k0 : Int → Option R) : Option R :=
(S108 x0 x1 true).bind fun r117 =>
k0 r117
theorem t101_1 (S108) (h108 : (ctr108 S108).holds cl) (x0 x1) : exec cl N c101_1 (e17 x0 x1) K = (g101_1 S108 x0 x1 (fun y0 => K .normal [(4, .v U2 y0)])) := by
  rw [← put_eq h108]
  kernel_rfl
def g101_2 (S108 : V1 → V4 → Bool → Option (Int)) (x0 : V1) (x1 : V4) (k0 : Int → Option R) : Option R :=
(g101_0 x0 x1 (fun y0 y1 => (g101_1 S108 y0 y1 (fun y0 => (k0 y0)))))
theorem t101_2 (S108) (h108 : (ctr108 S108).holds cl) (x0 x1) : exec cl N c101_2 (e17 x0 x1) K = (g101_2 S108 x0 x1 (fun y0 => K .ret [(4, .v U2 y0)])) := by
  simp only [c101_2, exec_seq, seqK_normal, seqK_exit, seqK_ret, t101_0, t101_1 S108 h108, exec_ret]
  rfl
theorem rk101_0 (y0) : retK d101 .ret [(4, .v U2 y0)] = some [.v U2 y0] := by kernel_rfl
def g101 (S108 : V1 → V4 → Bool → Option (Int)) (x0 : V1) (x1 : V4) (k : Int → Option R) : Option R :=
(g101_2 S108 x0 x1 (fun y0 => k y0))
theorem gen101 {N : Nat} {cl : Cal} (S108 : V1 → V4 → Bool → Option (Int)) (h108 : (ctr108 S108).holds cl) (x0 : V1) (x1 : V4) {R : Type} (k : List E → Option R) : exec cl N c101 (params 0 [.v .str x0, .v U10 x1]) (fun e env => (retK d101 e env).bind k) = g101 S108 x0 x1 (fun (r0 : Int) => k [.v U2 r0]) := by
  have e0 : params 0 [.v .str x0, .v U10 x1] = (e17 x0 x1) := by kernel_rfl
  simp only [c101, e0, t101_2 S108 h108, rk101_0, Option.bind_some]
  rfl
def ctr101 (S : V1 → V4 → Option (Int)) : Ctr := { A := V1 × V4 × Unit, B := Int, f := 101, enc := fun a => [.v .str a.1, .v U10 a.2.1], dec := (decC (decV .str) (decC (decV U10) dec0)), S := fun a => S a.1 a.2.1, ent := fun b => [.v U2 b], ok := (decV_cons (T := .str) (decV_cons (T := U10) (fun es b h => dec0_some h))) }
def S101 (N : Nat) (x0 : V1) (x1 : V4) : Option (Int) := g101 (S108 N) x0 x1 (fun (r0 : Int) => some (r0))
def g91_0 (x0 : V1) (x1 : V4) (k0 : V1 → V4 → Option R) : Option R :=
k0 x0 x1
theorem t91_0 (x0 x1) : exec cl N c91_0 (e17 x0 x1) K = (g91_0 x0 x1 (fun y0 y1 => K .normal (e17 y0 y1))) := by
  kernel_rfl
def g91_1 (S101 : V1 → V4 → Option (Int)) (x0 : V1) (x1 : V4) (k0 : Bool → Option R) : Option R :=
(S101 x0 x1).bind fun r120 =>
k0 (decide (r120 ≥ (0 : Int)))
theorem t91_1 (S101) (h101 : (ctr101 S101).holds cl) (x0 x1) : exec cl N c91_1 (e17 x0 x1) K = (g91_1 S101 x0 x1 (fun y0 => K .normal [(4, .v .bool y0)])) := by
  rw [← put_eq h101]
  kernel_rfl
def g91_2 (S101 : V1 → V4 → Option (Int)) (x0 : V1) (x1 : V4) (k0 : Bool → Option R) : Option R :=
(g91_0 x0 x1 (fun y0 y1 => (g91_1 S101 y0 y1 (fun y0 => (k0 y0)))))
theorem t91_2 (S101) (h101 : (ctr101 S101).holds cl) (x0 x1) : exec cl N c91_2 (e17 x0 x1) K = (g91_2 S101 x0 x1 (fun y0 => K .ret [(4, .v .bool y0)])) := by
  simp only [c91_2, exec_seq, seqK_normal, seqK_exit, seqK_ret, t91_0, t91_1 S101 h101, exec_ret]
  rfl
theorem rk91_0 (y0) : retK d91 .ret [(4, .v .bool y0)] = some [.v .bool y0] := by kernel_rfl
def g91 (S101 : V1 → V4 → Option (Int)) (x0 : V1) (x1 : V4) (k : Bool → Option R) : Option R :=
(g91_2 S101 x0 x1 (fun y0 => k y0))
theorem gen91 {N : Nat} {cl : Cal} (S101 : V1 → V4 → Option (Int)) (h101 : (ctr101 S101).holds cl) (x0 : V1) (x1 : V4) {R : Type} (k : List E → Option R) : exec cl N c91 (params 0 [.v .str x0, .v U10 x1]) (fun e env => (retK d91 e env).bind k) = g91 S101 x0 x1 (fun (r0 : Bool) => k [.v .bool r0]) := by
  have e0 : params 0 [.v .str x0, .v U10 x1] = (e17 x0 x1) := by kernel_rfl
  simp only [c91, e0, t91_2 S101 h101, rk91_0, Option.bind_some]
  rfl
def ctr91 (S : V1 → V4 → Option (Bool)) : Ctr := { A := V1 × V4 × Unit, B := Bool, f := 91, enc := fun a => [.v .str a.1, .v U10 a.2.1], dec := (decC (decV .str) (decC (decV U10) dec0)), S := fun a => S a.1 a.2.1, ent := fun b => [.v .bool b], ok := (decV_cons (T := .str) (decV_cons (T := U10) (fun es b h => dec0_some h))) }
def S91 (N : Nat) (x0 : V1) (x1 : V4) : Option (Bool) := g91 (S101 N) x0 x1 (fun (r0 : Bool) => some (r0))
def g75_0 (x0 : V6) (k0 : V6 → Option R) : Option R :=
k0 x0
theorem t75_0 (x0) : exec cl N c75_0 [(0, .v U15 x0)] K = (g75_0 x0 (fun y0 => K .normal [(1, .loc U15 .no y0)])) := by
  kernel_rfl
def g75_1 (x0 : V6) (k0 : V6 → Bool → Option R) : Option R :=
brB (decide (x0.1 < (1 : Int))) (k0 x0 true) (k0 x0 (decide (x0.1 > (9 : Int))))
theorem t75_1 (x0) : exec cl N c75_1 [(1, .loc U15 .no x0)] K = (g75_1 x0 (fun y0 y1 => K .normal (e18 y0 y1))) := by
  kernel_rfl
def g75_2 (x0 : V6) (x1 : Bool) (k0 : Int → Option R) : Option R :=
k0 (1 : Int)
theorem t75_2 (x0 x1) : exec cl N c75_2 (e18 x0 x1) K = (g75_2 x0 x1 (fun y0 => K .normal [(2, .v U2 y0)])) := by
  kernel_rfl
theorem kp75_0 (x0) : keep [2] [(2, .v U2 x0)] = [(2, .v U2 x0)] := by kernel_rfl
def g75_3 (S90 : V6 → Option (Bool)) (x0 : V6) (x1 : Bool) (k0 : V6 → Bool → Option R) : Option R :=
(S90 x0).bind fun r125 =>
k0 x0 (!r125)
theorem t75_3 (S90) (h90 : (ctr90 S90).holds cl) (x0 x1) : exec cl N c75_3 (e18 x0 x1) K = (g75_3 S90 x0 x1 (fun y0 y1 => K .normal (e19 y0 y1))) := by
  rw [← put_eq h90]
  kernel_rfl
def g75_4 (x0 : V6) (x1 : Bool) (k0 : Int → Option R) : Option R :=
k0 (6 : Int)
theorem t75_4 (x0 x1) : exec cl N c75_4 (e19 x0 x1) K = (g75_4 x0 x1 (fun y0 => K .normal [(2, .v U2 y0)])) := by
  kernel_rfl
def g75_5 (x0 : V6) (x1 : Bool) (k0 : V6 → Bool → Option R) : Option R :=
k0 x0 (x0.2.2.1 == ([] : List UInt8))
theorem t75_5 (x0 x1) : exec cl N c75_5 (e19 x0 x1) K = (g75_5 x0 x1 (fun y0 y1 => K .normal (e20 y0 y1))) := by
  kernel_rfl
def g75_6 (x0 : V6) (x1 : Bool) (k0 : Int → Option R) : Option R :=
k0 (7 : Int)
theorem t75_6 (x0 x1) : exec cl N c75_6 (e20 x0 x1) K = (g75_6 x0 x1 (fun y0 => K .normal [(2, .v U2 y0)])) := by
  kernel_rfl
def g75_7 (x0 : V6) (x1 : Bool) (k0 : V6 → Bool → Option R) : Option R :=
k0 x0 (decide ((x0.2.2.1.length : Int) > (8 : Int)))
theorem t75_7 (x0 x1) : exec cl N c75_7 (e20 x0 x1) K = (g75_7 x0 x1 (fun y0 y1 => K .normal (e21 y0 y1))) := by
  kernel_rfl
def g75_8 (x0 : V6) (x1 : Bool) (k0 : Int → Option R) : Option R :=
k0 (3 : Int)
theorem t75_8 (x0 x1) : exec cl N c75_8 (e21 x0 x1) K = (g75_8 x0 x1 (fun y0 => K .normal [(2, .v U2 y0)])) := by
  kernel_rfl
def g75_9 (S91 : V1 → V4 → Option (Bool)) (S92 : Int → Option (Bool)) (x0 : V6) (x1 : Bool) (k0 : Bool → Option R) : Option R :=
(S91 x0.2.2.1 (fun (x128 : (Int × Unit)) => ((S92 x128.1).bind fun b129 => some [.v .bool b129]).bind (unE .bool))).bind fun r130 =>
k0 r130
theorem t75_9 (S91) (S92) (h91 : (ctr91 S91).holds cl) (h92 : (ctr92 S92).holds cl) (x0 x1) : exec cl N c75_9 (e21 x0 x1) K = (g75_9 S91 S92 x0 x1 (fun y0 => K .normal [(25, .v .bool y0)])) := by
  rw [← put_eq h91]
  rw [← put_eq h92]
  kernel_rfl
def g75_10 (x0 : Bool) (k0 : Int → Option R) : Option R :=
k0 (2 : Int)
theorem t75_10 (x0) : exec cl N c75_10 [(25, .v .bool x0)] K = (g75_10 x0 (fun y0 => K .normal [(2, .v U2 y0)])) := by
  kernel_rfl
theorem kp75_1 (x0) : keep [2] [(25, .v .bool x0)] = [(2, .dead)] := by kernel_rfl
theorem hb75_0 (x0) : boolOf? (ent [(25, .v .bool x0)] (.t 25)) = some x0 := by kernel_rfl
theorem kp75_2 : keep [2] [(2, .dead)] = [(2, .dead)] := by kernel_rfl
theorem hb75_1 (x0 x1) : boolOf? (ent (e21 x0 x1) (.t 20)) = some x1 := by kernel_rfl
theorem hb75_2 (x0 x1) : boolOf? (ent (e20 x0 x1) (.t 16)) = some x1 := by kernel_rfl
theorem hb75_3 (x0 x1) : boolOf? (ent (e19 x0 x1) (.t 12)) = some x1 := by kernel_rfl
theorem hb75_4 (x0 x1) : boolOf? (ent (e18 x0 x1) (.t 3)) = some x1 := by kernel_rfl
def g75_17 (k0 : Int → Option R) : Option R :=
k0 (0 : Int)
theorem t75_17 : exec cl N c75_17 [(2, .dead)] K = (g75_17 (fun y0 => K .normal [(2, .v U2 y0)])) := by
  kernel_rfl
def g75_18 (S90 : V6 → Option (Bool)) (S91 : V1 → V4 → Option (Bool)) (S92 : Int → Option (Bool)) (x0 : V6) (k0 : Int → Option R) : Option R :=
(g75_0 x0 (fun y0 => (g75_1 y0 (fun y0 y1 => brB y1 (g75_2 y0 y1 (fun y0 => ((fun y0 => (k0 y0)) y0))) (g75_3 S90 y0 y1 (fun y0 y1 => brB y1 (g75_4 y0 y1 (fun y0 => ((fun y0 => (k0 y0)) y0))) (g75_5 y0 y1 (fun y0 y1 => brB y1 (g75_6 y0 y1 (fun y0 => ((fun y0 => (k0 y0)) y0))) (g75_7 y0 y1 (fun y0 y1 => brB y1 (g75_8 y0 y1 (fun y0 => ((fun y0 => (k0 y0)) y0))) (g75_9 S91 S92 y0 y1 (fun y0 => brB y0 (g75_10 y0 (fun y0 => ((fun y0 => (k0 y0)) y0))) (g75_17 (fun y0 => (k0 y0)))))))))))))))
theorem t75_18 (S90) (S91) (S92) (h90 : (ctr90 S90).holds cl) (h91 : (ctr91 S91).holds cl) (h92 : (ctr92 S92).holds cl) (x0) : exec cl N c75_18 [(0, .v U15 x0)] K = (g75_18 S90 S91 S92 x0 (fun y0 => K .ret [(2, .v U2 y0)])) := by
  simp only [c75_18, exec_seq, seqK_normal, seqK_exit, seqK_ret, t75_0, c75_16, exec_out, exec_block, t75_1, c75_15, exec_cond', hb75_4, Option.bind_some, brB_true, brB_false, t75_2, exec_ret, t75_3 S90 h90, c75_14, hb75_3, t75_4, t75_5, c75_13, hb75_2, t75_6, t75_7, c75_12, hb75_1, t75_8, t75_9 S91 S92 h91 h92, c75_11, hb75_0, t75_10, exec_skip, kp75_0, kp75_1, kp75_2, blockK_normal, blockK_ret, blockK_eq, t75_17]
  rfl
theorem rk75_0 (y0) : retK d75 .ret [(2, .v U2 y0)] = some [.v U2 y0] := by kernel_rfl
def g75 (S90 : V6 → Option (Bool)) (S91 : V1 → V4 → Option (Bool)) (S92 : Int → Option (Bool)) (x0 : V6) (k : Int → Option R) : Option R :=
(g75_18 S90 S91 S92 x0 (fun y0 => k y0))
theorem gen75 {N : Nat} {cl : Cal} (S90 : V6 → Option (Bool)) (S91 : V1 → V4 → Option (Bool)) (S92 : Int → Option (Bool)) (h90 : (ctr90 S90).holds cl) (h91 : (ctr91 S91).holds cl) (h92 : (ctr92 S92).holds cl) (x0 : V6) {R : Type} (k : List E → Option R) : exec cl N c75 (params 0 [.v U15 x0]) (fun e env => (retK d75 e env).bind k) = g75 S90 S91 S92 x0 (fun (r0 : Int) => k [.v U2 r0]) := by
  have e0 : params 0 [.v U15 x0] = [(0, .v U15 x0)] := by kernel_rfl
  simp only [c75, e0, t75_18 S90 S91 S92 h90 h91 h92, rk75_0, Option.bind_some]
  rfl
def ctr75 (S : V6 → Option (Int)) : Ctr := { A := V6 × Unit, B := Int, f := 75, enc := fun a => [.v U15 a.1], dec := (decC (decV U15) dec0), S := fun a => S a.1, ent := fun b => [.v U2 b], ok := (decV_cons (T := U15) (fun es b h => dec0_some h)) }
def S75 (N : Nat) (x0 : V6) : Option (Int) := g75 (S90 N) (S91 N) (S92 N) x0 (fun (r0 : Int) => some (r0))
def g55_0 (x0 : V8) (k0 : V8 → Option R) : Option R :=
k0 x0
theorem t55_0 (x0) : exec cl N c55_0 [(0, .v U17 x0)] K = (g55_0 x0 (fun y0 => K .normal [(0, .v U17 y0)])) := by
  kernel_rfl
def g55_1 (x0 : V8) (k0 : V8 → Bool → Option R) : Option R :=
k0 x0 (decide ((x0.length : Int) > (200 : Int)))
theorem t55_1 (x0) : exec cl N c55_1 [(0, .v U17 x0)] K = (g55_1 x0 (fun y0 y1 => K .normal (e22 y0 y1))) := by
  kernel_rfl
def g55_2 (x0 : V8) (x1 : Bool) (k0 : Int → Option R) : Option R :=
k0 (3 : Int)
theorem t55_2 (x0 x1) : exec cl N c55_2 (e22 x0 x1) K = (g55_2 x0 x1 (fun y0 => K .normal [(2, .v U2 y0)])) := by
  kernel_rfl
theorem kp55_0 (x0) : keep [0, 2] [(2, .v U2 x0)] = [(0, .dead), (2, .v U2 x0)] := by kernel_rfl
theorem kp55_1 (x0 x1) : keep [0, 2] (e22 x0 x1) = [(0, .v U17 x0), (2, .dead)] := by kernel_rfl
theorem hb55_0 (x0 x1) : boolOf? (ent (e22 x0 x1) (.t 8)) = some x1 := by kernel_rfl
def g55_4 (x0 : V8) (k0 : V8 → Int → Int → Option R) : Option R :=
k0 x0 (x0.length : Int) (0 : Int)
theorem t55_4 (x0) : exec cl N c55_4 [(0, .v U17 x0), (2, .dead)] K = (g55_4 x0 (fun y0 y1 y2 => K .normal (e23 y0 y1 y2))) := by
  kernel_rfl
theorem kp55_2 (x0 x1 x2) : keep [9, 10, 11] (e23 x0 x1 x2) = (e23 x0 x1 x2) := by kernel_rfl
def g55_5 (x0 : V8) (x1 x2 : Int) (k0 : V8 → Int → Int → Bool → Option R) : Option R :=
k0 x0 x1 x2 (decide (x2 < x1))
theorem t55_5 (x0 x1 x2) : exec cl N c55_5 (e23 x0 x1 x2) K = (g55_5 x0 x1 x2 (fun y0 y1 y2 y3 => K .normal (e24 y0 y1 y2 y3))) := by
  kernel_rfl
theorem kp55_3 (x0 x1 x2 x3) : keep [9, 10, 11] (e24 x0 x1 x2 x3) = (e23 x0 x1 x2) := by kernel_rfl
theorem hb55_1 (x0 x1 x2 x3) : boolOf? (ent (e24 x0 x1 x2 x3) (.t 12)) = some x3 := by kernel_rfl
def g55_7 (x0 : V8) (x1 x2 : Int) (k0 : V6 → V8 → Int → Int → Option R) : Option R :=
if 0 ≤ x2 ∧ x2 < (x0.length : Int) then
k0 (x0.getD x2.toNat ((0 : Int), ((0 : Int), ([], ())))) x0 x1 x2
else none
theorem t55_7 (x0 x1 x2) : exec cl N c55_7 (e23 x0 x1 x2) K = (g55_7 x0 x1 x2 (fun y0 y1 y2 y3 => K .normal [(4, .loc U15 .no y0), (9, .v U17 y1), (10, .v U2 y2), (11, .v U2 y3)])) := by
  kernel_rfl
def g55_8 (S75 : V6 → Option (Int)) (x0 : V6) (x1 : V8) (x2 x3 : Int) (k0 : Int → V8 → Int → Int → Option R) : Option R :=
(S75 x0).bind fun r136 =>
k0 r136 x1 x2 x3
theorem t55_8 (S75) (h75 : (ctr75 S75).holds cl) (x0 x1 x2 x3) : exec cl N c55_8 [(4, .loc U15 .no x0), (9, .v U17 x1), (10, .v U2 x2), (11, .v U2 x3)] K = (g55_8 S75 x0 x1 x2 x3 (fun y0 y1 y2 y3 => K .normal [(5, .v U2 y0), (9, .v U17 y1), (10, .v U2 y2), (11, .v U2 y3)])) := by
  rw [← put_eq h75]
  kernel_rfl
def g55_9 (x0 : Int) (x1 : V8) (x2 x3 : Int) (k0 : Int → V8 → Int → Int → Bool → Option R) : Option R :=
k0 x0 x1 x2 x3 (x0 != (0 : Int))
theorem t55_9 (x0 x1 x2 x3) : exec cl N c55_9 [(5, .v U2 x0), (9, .v U17 x1), (10, .v U2 x2), (11, .v U2 x3)] K = (g55_9 x0 x1 x2 x3 (fun y0 y1 y2 y3 y4 => K .normal (e25 y0 y1 y2 y3 y4))) := by
  kernel_rfl
def g55_10 (x0 : Int) (x1 : V8) (x2 x3 : Int) (x4 : Bool) (k0 : Int → Option R) : Option R :=
k0 x0
theorem t55_10 (x0 x1 x2 x3 x4) : exec cl N c55_10 (e25 x0 x1 x2 x3 x4) K = (g55_10 x0 x1 x2 x3 x4 (fun y0 => K .normal [(2, .v U2 y0)])) := by
  kernel_rfl
theorem kp55_4 (x0) : keep [2, 9, 10, 11] [(2, .v U2 x0)] = (e26 x0) := by kernel_rfl
theorem kp55_5 (x0 x1 x2 x3 x4) : keep [2, 9, 10, 11] (e25 x0 x1 x2 x3 x4) = (e27 x1 x2 x3) := by kernel_rfl
theorem hb55_2 (x0 x1 x2 x3 x4) : boolOf? (ent (e25 x0 x1 x2 x3 x4) (.t 18)) = some x4 := by kernel_rfl
theorem kp55_6 (x0) : keep [2, 9, 10, 11] (e26 x0) = (e26 x0) := by kernel_rfl
theorem kp55_7 (x0 x1 x2) : keep [2, 9, 10, 11] (e27 x0 x1 x2) = (e27 x0 x1 x2) := by kernel_rfl
def g55_13 (x0 : V8) (x1 x2 : Int) (k0 : V8 → Int → Int → Option R) : Option R :=
k0 x0 x1 (IntKind.i64.wrap (x2 + (1 : Int)))
theorem t55_13 (x0 x1 x2) : exec cl N c55_13 (e27 x0 x1 x2) K = (g55_13 x0 x1 x2 (fun y0 y1 y2 => K .normal (e23 y0 y1 y2))) := by
  kernel_rfl
def g55_14 (S75 : V6 → Option (Int)) (x0 : V8) (x1 x2 : Int) (k0 : Int → Option R) (k1 : V8 → Int → Int → Option R) (k2 : V8 → Int → Int → Option R) : Option R :=
(g55_5 x0 x1 x2 (fun y0 y1 y2 y3 => brB y3 ((fun y0 y1 y2 => (g55_7 y0 y1 y2 (fun y0 y1 y2 y3 => (g55_8 S75 y0 y1 y2 y3 (fun y0 y1 y2 y3 => (g55_9 y0 y1 y2 y3 (fun y0 y1 y2 y3 y4 => brB y4 (g55_10 y0 y1 y2 y3 y4 (fun y0 => ((fun y0 => (k0 y0)) y0))) (g55_13 y1 y2 y3 k1)))))))) y0 y1 y2) (k2 y0 y1 y2)))
theorem t55_14 (S75) (h75 : (ctr75 S75).holds cl) (x0 x1 x2) : exec cl N c55_14 (e23 x0 x1 x2) K = (g55_14 S75 x0 x1 x2 (fun y0 => K .ret (e26 y0)) (fun y0 y1 y2 => K .normal (e23 y0 y1 y2)) (fun y0 y1 y2 => K (.exit 0) (e23 y0 y1 y2))) := by
  simp only [c55_14, exec_seq, seqK_normal, seqK_exit, seqK_ret, t55_5, c55_6, exec_out, exec_cond', hb55_1, Option.bind_some, brB_true, brB_false, exec_skip, exec_exit, kp55_3, c55_12, exec_block, t55_7, t55_8 S75 h75, t55_9, c55_11, hb55_2, t55_10, exec_ret, kp55_4, kp55_5, blockK_normal, blockK_ret, blockK_eq, kp55_6, kp55_7, t55_13]
  rfl
def l55_15 {R : Type} (S75 : V6 → Option (Int)) (k0 : Int → Option R) (k1 : V8 → Int → Int → Option R) : Nat → V8 → Int → Int → Option R
  | 0, _, _, _ => none
  | m + 1, x0, x1, x2 => (g55_14 S75 x0 x1 x2 k0 (fun y0 y1 y2 => l55_15 S75 k0 k1 m y0 y1 y2) k1)
theorem lt55_15 (S75) (h75 : (ctr75 S75).holds cl) : ∀ (m) (x0 x1 x2), iter [9, 10, 11] (fun env K => exec cl N c55_14 env K) K m (e23 x0 x1 x2) = l55_15 S75 (fun y0 => K .ret (e26 y0)) (fun y0 y1 y2 => K (.exit 0) (e23 y0 y1 y2)) m x0 x1 x2 := by
  intro m
  induction m with
  | zero => intros; rfl
  | succ m ih =>
    intro x0 x1 x2
    simp only [iter_succ, t55_14 S75 h75, loopK_normal, loopK_exit, loopK_ret, kp55_2, ih]
    rfl
theorem kp55_8 (x0) : keep [2] (e26 x0) = [(2, .v U2 x0)] := by kernel_rfl
theorem kp55_9 (x0 x1 x2) : keep [2] (e23 x0 x1 x2) = [(2, .dead)] := by kernel_rfl
def g55_15 (N : Nat) (S75 : V6 → Option (Int)) (x0 : V8) (x1 x2 : Int) (k0 : Int → Option R) (k1 : Option R) : Option R :=
l55_15 S75 (fun y0 => k0 y0) (fun y0 y1 y2 => k1) N x0 x1 x2
theorem t55_15 (S75) (h75 : (ctr75 S75).holds cl) (x0 x1 x2) : exec cl N c55_15 (e23 x0 x1 x2) K = (g55_15 N S75 x0 x1 x2 (fun y0 => K .ret [(2, .v U2 y0)]) (K (.exit 0) [(2, .dead)])) := by
  simp only [c55_15, exec_out, exec_loop, kp55_2, lt55_15 S75 h75, kp55_8, kp55_9]
  rfl
theorem kp55_10 (x0) : keep [2] [(2, .v U2 x0)] = [(2, .v U2 x0)] := by kernel_rfl
theorem kp55_11 : keep [2] [(2, .dead)] = [(2, .dead)] := by kernel_rfl
def g55_17 (k0 : Int → Option R) : Option R :=
k0 (0 : Int)
theorem t55_17 : exec cl N c55_17 [(2, .dead)] K = (g55_17 (fun y0 => K .normal [(2, .v U2 y0)])) := by
  kernel_rfl
def g55_18 (N : Nat) (S75 : V6 → Option (Int)) (x0 : V8) (k0 : Int → Option R) (k1 : Int → Option R) : Option R :=
(g55_0 x0 (fun y0 => (g55_1 y0 (fun y0 y1 => brB y1 (g55_2 y0 y1 (fun y0 => ((fun y0 => (k0 y0)) y0))) ((fun y0 => (g55_4 y0 (fun y0 y1 y2 => (g55_15 N S75 y0 y1 y2 (fun y0 => (k1 y0)) (g55_17 (fun y0 => (k1 y0))))))) y0)))))
theorem t55_18 (S75) (h75 : (ctr75 S75).holds cl) (x0) : exec cl N c55_18 [(0, .v U17 x0)] K = (g55_18 N S75 x0 (fun y0 => K .ret [(0, .dead), (2, .v U2 y0)]) (fun y0 => K .ret [(2, .v U2 y0)])) := by
  simp only [c55_18, exec_seq, seqK_normal, seqK_exit, seqK_ret, t55_0, t55_1, c55_3, exec_out, exec_cond', hb55_0, Option.bind_some, brB_true, brB_false, t55_2, exec_ret, exec_skip, kp55_0, kp55_1, t55_4, c55_16, exec_block, t55_15 S75 h75, blockK_normal, blockK_ret, blockK_eq, kp55_10, kp55_11, t55_17]
  rfl
theorem rk55_0 (y0) : retK d55 .ret [(0, .dead), (2, .v U2 y0)] = some [.v U2 y0] := by kernel_rfl
theorem rk55_1 (y0) : retK d55 .ret [(2, .v U2 y0)] = some [.v U2 y0] := by kernel_rfl
def g55 (N : Nat) (S75 : V6 → Option (Int)) (x0 : V8) (k : Int → Option R) : Option R :=
(g55_18 N S75 x0 (fun y0 => k y0) (fun y0 => k y0))
theorem gen55 {N : Nat} {cl : Cal} (S75 : V6 → Option (Int)) (h75 : (ctr75 S75).holds cl) (x0 : V8) {R : Type} (k : List E → Option R) : exec cl N c55 (params 0 [.v U17 x0]) (fun e env => (retK d55 e env).bind k) = g55 N S75 x0 (fun (r0 : Int) => k [.v U2 r0]) := by
  have e0 : params 0 [.v U17 x0] = [(0, .v U17 x0)] := by kernel_rfl
  simp only [c55, e0, t55_18 S75 h75, rk55_0, rk55_1, Option.bind_some]
  rfl
def ctr55 (S : V8 → Option (Int)) : Ctr := { A := V8 × Unit, B := Int, f := 55, enc := fun a => [.v U17 a.1], dec := (decC (decV U17) dec0), S := fun a => S a.1, ent := fun b => [.v U2 b], ok := (decV_cons (T := U17) (fun es b h => dec0_some h)) }
def S55 (N : Nat) (x0 : V8) : Option (Int) := g55 N (S75 N) x0 (fun (r0 : Int) => some (r0))
def g36_0 (x0 x1 : V8) (k0 : V8 → V8 → Option R) : Option R :=
k0 x0 x1
theorem t36_0 (x0 x1) : exec cl N c36_0 (e28 x0 x1) K = (g36_0 x0 x1 (fun y0 y1 => K .normal (e28 y0 y1))) := by
  kernel_rfl
def g36_1 (S55 : V8 → Option (Int)) (x0 x1 : V8) (k0 : V8 → Int → Option R) : Option R :=
(S55 x0).bind fun r142 =>
k0 x1 r142
theorem t36_1 (S55) (h55 : (ctr55 S55).holds cl) (x0 x1) : exec cl N c36_1 (e28 x0 x1) K = (g36_1 S55 x0 x1 (fun y0 y1 => K .normal [(1, .v U17 y0), (5, .v U2 y1)])) := by
  rw [← put_eq h55]
  kernel_rfl
def g36_2 (x0 : V8) (x1 : Int) (k0 : V8 → Int → Bool → Option R) : Option R :=
k0 x0 x1 (x1 != (0 : Int))
theorem t36_2 (x0 x1) : exec cl N c36_2 [(1, .v U17 x0), (5, .v U2 x1)] K = (g36_2 x0 x1 (fun y0 y1 y2 => K .normal (e29 y0 y1 y2))) := by
  kernel_rfl
def g36_3 (x0 : V8) (x1 : Int) (x2 : Bool) (k0 : Int → Option R) : Option R :=
k0 x1
theorem t36_3 (x0 x1 x2) : exec cl N c36_3 (e29 x0 x1 x2) K = (g36_3 x0 x1 x2 (fun y0 => K .normal [(4, .v U2 y0)])) := by
  kernel_rfl
theorem kp36_0 (x0) : keep [1, 4] [(4, .v U2 x0)] = [(1, .dead), (4, .v U2 x0)] := by kernel_rfl
theorem kp36_1 (x0 x1 x2) : keep [1, 4] (e29 x0 x1 x2) = [(1, .v U17 x0), (4, .dead)] := by kernel_rfl
theorem hb36_0 (x0 x1 x2) : boolOf? (ent (e29 x0 x1 x2) (.t 9)) = some x2 := by kernel_rfl
def g36_5 (S55 : V8 → Option (Int)) (x0 : V8) (k0 : Int → Option R) : Option R :=
(S55 x0).bind fun r144 =>
k0 r144
theorem t36_5 (S55) (h55 : (ctr55 S55).holds cl) (x0) : exec cl N c36_5 [(1, .v U17 x0), (4, .dead)] K = (g36_5 S55 x0 (fun y0 => K .normal [(4, .v U2 y0)])) := by
  rw [← put_eq h55]
  kernel_rfl
def g36_6 (S55 : V8 → Option (Int)) (x0 x1 : V8) (k0 : Int → Option R) (k1 : Int → Option R) : Option R :=
(g36_0 x0 x1 (fun y0 y1 => (g36_1 S55 y0 y1 (fun y0 y1 => (g36_2 y0 y1 (fun y0 y1 y2 => brB y2 (g36_3 y0 y1 y2 (fun y0 => ((fun y0 => (k0 y0)) y0))) ((fun y0 => (g36_5 S55 y0 (fun y0 => (k1 y0)))) y0)))))))
theorem t36_6 (S55) (h55 : (ctr55 S55).holds cl) (x0 x1) : exec cl N c36_6 (e28 x0 x1) K = (g36_6 S55 x0 x1 (fun y0 => K .ret [(1, .dead), (4, .v U2 y0)]) (fun y0 => K .ret [(4, .v U2 y0)])) := by
  simp only [c36_6, exec_seq, seqK_normal, seqK_exit, seqK_ret, t36_0, t36_1 S55 h55, t36_2, c36_4, exec_out, exec_cond', hb36_0, Option.bind_some, brB_true, brB_false, t36_3, exec_ret, exec_skip, kp36_0, kp36_1, t36_5 S55 h55]
  rfl
theorem rk36_0 (y0) : retK d36 .ret [(1, .dead), (4, .v U2 y0)] = some [.v U2 y0] := by kernel_rfl
theorem rk36_1 (y0) : retK d36 .ret [(4, .v U2 y0)] = some [.v U2 y0] := by kernel_rfl
def g36 (S55 : V8 → Option (Int)) (x0 x1 : V8) (k : Int → Option R) : Option R :=
(g36_6 S55 x0 x1 (fun y0 => k y0) (fun y0 => k y0))
theorem gen36 {N : Nat} {cl : Cal} (S55 : V8 → Option (Int)) (h55 : (ctr55 S55).holds cl) (x0 : V8) (x1 : V8) {R : Type} (k : List E → Option R) : exec cl N c36 (params 0 [.v U17 x0, .v U17 x1]) (fun e env => (retK d36 e env).bind k) = g36 S55 x0 x1 (fun (r0 : Int) => k [.v U2 r0]) := by
  have e0 : params 0 [.v U17 x0, .v U17 x1] = (e28 x0 x1) := by kernel_rfl
  simp only [c36, e0, t36_6 S55 h55, rk36_0, rk36_1, Option.bind_some]
  rfl
def ctr36 (S : V8 → V8 → Option (Int)) : Ctr := { A := V8 × V8 × Unit, B := Int, f := 36, enc := fun a => [.v U17 a.1, .v U17 a.2.1], dec := (decC (decV U17) (decC (decV U17) dec0)), S := fun a => S a.1 a.2.1, ent := fun b => [.v U2 b], ok := (decV_cons (T := U17) (decV_cons (T := U17) (fun es b h => dec0_some h))) }
def S36 (N : Nat) (x0 : V8) (x1 : V8) : Option (Int) := g36 (S55 N) x0 x1 (fun (r0 : Int) => some (r0))
def g43_0 (x0 : V6) (k0 : V6 → Option R) : Option R :=
k0 x0
theorem t43_0 (x0) : exec cl N c43_0 [(0, .v U15 x0)] K = (g43_0 x0 (fun y0 => K .normal [(1, .loc U15 .no y0)])) := by
  kernel_rfl
def g43_1 (x0 : V6) (k0 : Bool → Option R) : Option R :=
brB (x0.1 == (1 : Int)) (k0 true) (k0 (x0.1 == (2 : Int)))
theorem t43_1 (x0) : exec cl N c43_1 [(1, .loc U15 .no x0)] K = (g43_1 x0 (fun y0 => K .normal [(2, .v .bool y0)])) := by
  kernel_rfl
def g43_2 (x0 : V6) (k0 : Bool → Option R) : Option R :=
(g43_0 x0 (fun y0 => (g43_1 y0 (fun y0 => (k0 y0)))))
theorem t43_2 (x0) : exec cl N c43_2 [(0, .v U15 x0)] K = (g43_2 x0 (fun y0 => K .ret [(2, .v .bool y0)])) := by
  simp only [c43_2, exec_seq, seqK_normal, seqK_exit, seqK_ret, t43_0, t43_1, exec_ret]
  rfl
theorem rk43_0 (y0) : retK d43 .ret [(2, .v .bool y0)] = some [.v .bool y0] := by kernel_rfl
def g43 (x0 : V6) (k : Bool → Option R) : Option R :=
(g43_2 x0 (fun y0 => k y0))
theorem gen43 {N : Nat} {cl : Cal} (x0 : V6) {R : Type} (k : List E → Option R) : exec cl N c43 (params 0 [.v U15 x0]) (fun e env => (retK d43 e env).bind k) = g43 x0 (fun (r0 : Bool) => k [.v .bool r0]) := by
  have e0 : params 0 [.v U15 x0] = [(0, .v U15 x0)] := by kernel_rfl
  simp only [c43, e0, t43_2, rk43_0, Option.bind_some]
  rfl
def ctr43 (S : V6 → Option (Bool)) : Ctr := { A := V6 × Unit, B := Bool, f := 43, enc := fun a => [.v U15 a.1], dec := (decC (decV U15) dec0), S := fun a => S a.1, ent := fun b => [.v .bool b], ok := (decV_cons (T := U15) (fun es b h => dec0_some h)) }
def S43 (N : Nat) (x0 : V6) : Option (Bool) := g43 x0 (fun (r0 : Bool) => some (r0))
def g14_0 (x0 : V8) (k0 : V8 → Option R) : Option R :=
k0 x0
theorem t14_0 (x0) : exec cl N c14_0 [(0, .v U17 x0)] K = (g14_0 x0 (fun y0 => K .normal [(0, .v U17 y0)])) := by
  kernel_rfl
def g14_1 (x0 : V8) (k0 : V8 → Int → Option R) : Option R :=
k0 x0 (x0.length : Int)
theorem t14_1 (x0) : exec cl N c14_1 [(0, .v U17 x0)] K = (g14_1 x0 (fun y0 y1 => K .normal (e30 y0 y1))) := by
  kernel_rfl
def g14_2 (S43 : V6 → Option (Bool)) (x0 : V8) (x1 : Int) (k0 : V8 → Int → Bool → Option R) : Option R :=
brB (decide (x1 > (0 : Int))) (let v164 : Int := (IntKind.i64.wrap (x1 - (1 : Int)))
if 0 ≤ v164 ∧ v164 < (x0.length : Int) then
(S43 (x0.getD v164.toNat ((0 : Int), ((0 : Int), ([], ()))))).bind fun r165 =>
k0 x0 x1 r165
else none) (k0 x0 x1 false)
theorem t14_2 (S43) (h43 : (ctr43 S43).holds cl) (x0 x1) : exec cl N c14_2 (e30 x0 x1) K = (g14_2 S43 x0 x1 (fun y0 y1 y2 => K .normal (e31 y0 y1 y2))) := by
  rw [← put_eq h43]
  kernel_rfl
def g14_3 (x0 : V8) (x1 : Int) (x2 : Bool) (k0 : Int → Option R) : Option R :=
k0 (1 : Int)
theorem t14_3 (x0 x1 x2) : exec cl N c14_3 (e31 x0 x1 x2) K = (g14_3 x0 x1 x2 (fun y0 => K .normal [(2, .v U2 y0)])) := by
  kernel_rfl
theorem kp14_0 (x0) : keep [2] [(2, .v U2 x0)] = [(2, .v U2 x0)] := by kernel_rfl
def g14_4 (S43 : V6 → Option (Bool)) (x0 : V8) (x1 : Int) (x2 : Bool) (k0 : Bool → Option R) : Option R :=
brB (decide (x1 > (1 : Int))) (let v167 : Int := (IntKind.i64.wrap (x1 - (2 : Int)))
if 0 ≤ v167 ∧ v167 < (x0.length : Int) then
(S43 (x0.getD v167.toNat ((0 : Int), ((0 : Int), ([], ()))))).bind fun r168 =>
brB r168 (let v169 : Int := (IntKind.i64.wrap (x1 - (1 : Int)))
if 0 ≤ v169 ∧ v169 < (x0.length : Int) then
brB ((x0.getD v169.toNat ((0 : Int), ((0 : Int), ([], ())))).1 == (5 : Int)) (let v171 : Int := (IntKind.i64.wrap (x1 - (1 : Int)))
if 0 ≤ v171 ∧ v171 < (x0.length : Int) then
k0 ((x0.getD v171.toNat ((0 : Int), ((0 : Int), ([], ())))).2.2.1 == ([109] : List UInt8))
else none) (k0 false)
else none) (k0 false)
else none) (k0 false)
theorem t14_4 (S43) (h43 : (ctr43 S43).holds cl) (x0 x1 x2) : exec cl N c14_4 (e31 x0 x1 x2) K = (g14_4 S43 x0 x1 x2 (fun y0 => K .normal [(17, .v .bool y0)])) := by
  rw [← put_eq h43]
  kernel_rfl
def g14_5 (x0 : Bool) (k0 : Int → Option R) : Option R :=
k0 (2 : Int)
theorem t14_5 (x0) : exec cl N c14_5 [(17, .v .bool x0)] K = (g14_5 x0 (fun y0 => K .normal [(2, .v U2 y0)])) := by
  kernel_rfl
theorem kp14_1 (x0) : keep [2] [(17, .v .bool x0)] = [(2, .dead)] := by kernel_rfl
theorem hb14_0 (x0) : boolOf? (ent [(17, .v .bool x0)] (.t 17)) = some x0 := by kernel_rfl
theorem kp14_2 : keep [2] [(2, .dead)] = [(2, .dead)] := by kernel_rfl
theorem hb14_1 (x0 x1 x2) : boolOf? (ent (e31 x0 x1 x2) (.t 6)) = some x2 := by kernel_rfl
def g14_9 (k0 : Int → Option R) : Option R :=
k0 (0 : Int)
theorem t14_9 : exec cl N c14_9 [(2, .dead)] K = (g14_9 (fun y0 => K .normal [(2, .v U2 y0)])) := by
  kernel_rfl
def g14_10 (S43 : V6 → Option (Bool)) (x0 : V8) (k0 : Int → Option R) : Option R :=
(g14_0 x0 (fun y0 => (g14_1 y0 (fun y0 y1 => (g14_2 S43 y0 y1 (fun y0 y1 y2 => brB y2 (g14_3 y0 y1 y2 (fun y0 => ((fun y0 => (k0 y0)) y0))) (g14_4 S43 y0 y1 y2 (fun y0 => brB y0 (g14_5 y0 (fun y0 => ((fun y0 => (k0 y0)) y0))) (g14_9 (fun y0 => (k0 y0)))))))))))
theorem t14_10 (S43) (h43 : (ctr43 S43).holds cl) (x0) : exec cl N c14_10 [(0, .v U17 x0)] K = (g14_10 S43 x0 (fun y0 => K .ret [(2, .v U2 y0)])) := by
  simp only [c14_10, exec_seq, seqK_normal, seqK_exit, seqK_ret, t14_0, t14_1, c14_8, exec_out, exec_block, t14_2 S43 h43, c14_7, exec_cond', hb14_1, Option.bind_some, brB_true, brB_false, t14_3, exec_ret, t14_4 S43 h43, c14_6, hb14_0, t14_5, exec_skip, kp14_0, kp14_1, kp14_2, blockK_normal, blockK_ret, blockK_eq, t14_9]
  rfl
theorem rk14_0 (y0) : retK d14 .ret [(2, .v U2 y0)] = some [.v U2 y0] := by kernel_rfl
def g14 (S43 : V6 → Option (Bool)) (x0 : V8) (k : Int → Option R) : Option R :=
(g14_10 S43 x0 (fun y0 => k y0))
theorem gen14 {N : Nat} {cl : Cal} (S43 : V6 → Option (Bool)) (h43 : (ctr43 S43).holds cl) (x0 : V8) {R : Type} (k : List E → Option R) : exec cl N c14 (params 0 [.v U17 x0]) (fun e env => (retK d14 e env).bind k) = g14 S43 x0 (fun (r0 : Int) => k [.v U2 r0]) := by
  have e0 : params 0 [.v U17 x0] = [(0, .v U17 x0)] := by kernel_rfl
  simp only [c14, e0, t14_10 S43 h43, rk14_0, Option.bind_some]
  rfl
def ctr14 (S : V8 → Option (Int)) : Ctr := { A := V8 × Unit, B := Int, f := 14, enc := fun a => [.v U17 a.1], dec := (decC (decV U17) dec0), S := fun a => S a.1, ent := fun b => [.v U2 b], ok := (decV_cons (T := U17) (fun es b h => dec0_some h)) }
def S14 (N : Nat) (x0 : V8) : Option (Int) := g14 (S43 N) x0 (fun (r0 : Int) => some (r0))
def g62_0 (x0 : V6) (k0 : V6 → Option R) : Option R :=
k0 x0
theorem t62_0 (x0) : exec cl N c62_0 [(0, .v U15 x0)] K = (g62_0 x0 (fun y0 => K .normal [(1, .loc U15 .no y0)])) := by
  kernel_rfl
def g62_1 (x0 : V6) (k0 : Bool → Option R) : Option R :=
k0 (x0.1 != (9 : Int))
theorem t62_1 (x0) : exec cl N c62_1 [(1, .loc U15 .no x0)] K = (g62_1 x0 (fun y0 => K .normal [(2, .v .bool y0)])) := by
  kernel_rfl
def g62_2 (x0 : V6) (k0 : Bool → Option R) : Option R :=
(g62_0 x0 (fun y0 => (g62_1 y0 (fun y0 => (k0 y0)))))
theorem t62_2 (x0) : exec cl N c62_2 [(0, .v U15 x0)] K = (g62_2 x0 (fun y0 => K .ret [(2, .v .bool y0)])) := by
  simp only [c62_2, exec_seq, seqK_normal, seqK_exit, seqK_ret, t62_0, t62_1, exec_ret]
  rfl
theorem rk62_0 (y0) : retK d62 .ret [(2, .v .bool y0)] = some [.v .bool y0] := by kernel_rfl
def g62 (x0 : V6) (k : Bool → Option R) : Option R :=
(g62_2 x0 (fun y0 => k y0))
theorem gen62 {N : Nat} {cl : Cal} (x0 : V6) {R : Type} (k : List E → Option R) : exec cl N c62 (params 0 [.v U15 x0]) (fun e env => (retK d62 e env).bind k) = g62 x0 (fun (r0 : Bool) => k [.v .bool r0]) := by
  have e0 : params 0 [.v U15 x0] = [(0, .v U15 x0)] := by kernel_rfl
  simp only [c62, e0, t62_2, rk62_0, Option.bind_some]
  rfl
def ctr62 (S : V6 → Option (Bool)) : Ctr := { A := V6 × Unit, B := Bool, f := 62, enc := fun a => [.v U15 a.1], dec := (decC (decV U15) dec0), S := fun a => S a.1, ent := fun b => [.v .bool b], ok := (decV_cons (T := U15) (fun es b h => dec0_some h)) }
def S62 (N : Nat) (x0 : V6) : Option (Bool) := g62 x0 (fun (r0 : Bool) => some (r0))
def g61_0 (x0 : V8) (x1 : V12) (k0 : V8 → V12 → Option R) : Option R :=
k0 x0 x1
theorem t61_0 (x0 x1) : exec cl N c61_0 (e32 x0 x1) K = (g61_0 x0 x1 (fun y0 y1 => K .normal (e32 y0 y1))) := by
  kernel_rfl
def g61_1 (x0 : V8) (x1 : V12) (k0 : V8 → V12 → Int → Int → Option R) : Option R :=
k0 x0 x1 (x0.length : Int) (0 : Int)
theorem t61_1 (x0 x1) : exec cl N c61_1 (e32 x0 x1) K = (g61_1 x0 x1 (fun y0 y1 y2 y3 => K .normal (e33 y0 y1 y2 y3))) := by
  kernel_rfl
theorem kp61_0 (x0 x1 x2 x3) : keep [0, 1, 7, 8] (e33 x0 x1 x2 x3) = (e33 x0 x1 x2 x3) := by kernel_rfl
def g61_2 (x0 : V8) (x1 : V12) (x2 x3 : Int) (k0 : V8 → V12 → Int → Int → Bool → Option R) : Option R :=
k0 x0 x1 x2 x3 (decide (x3 < x2))
theorem t61_2 (x0 x1 x2 x3) : exec cl N c61_2 (e33 x0 x1 x2 x3) K = (g61_2 x0 x1 x2 x3 (fun y0 y1 y2 y3 y4 => K .normal (e34 y0 y1 y2 y3 y4))) := by
  kernel_rfl
theorem kp61_1 (x0 x1 x2 x3 x4) : keep [0, 1, 7, 8] (e34 x0 x1 x2 x3 x4) = (e33 x0 x1 x2 x3) := by kernel_rfl
theorem hb61_0 (x0 x1 x2 x3 x4) : boolOf? (ent (e34 x0 x1 x2 x3 x4) (.t 9)) = some x4 := by kernel_rfl
def g61_4 (x0 : V8) (x1 : V12) (x2 x3 : Int) (k0 : V8 → V12 → Int → Int → Int → Option R) : Option R :=
k0 x0 x1 x3 x2 x3
theorem t61_4 (x0 x1 x2 x3) : exec cl N c61_4 (e33 x0 x1 x2 x3) K = (g61_4 x0 x1 x2 x3 (fun y0 y1 y2 y3 y4 => K .normal [(0, .v U17 y0), (1, .v U23 y1), (5, .v U2 y2), (7, .v U2 y3), (8, .v U2 y4)])) := by
  kernel_rfl
def g61_5 (x0 : V8) (x1 : V12) (x2 x3 x4 : Int) (k0 : V8 → V12 → Int → Int → Int → Bool → Option R) : Option R :=
if 0 ≤ x2 ∧ x2 < (x0.length : Int) then
(x1 ((x0.getD x2.toNat ((0 : Int), ((0 : Int), ([], ())))), ())).bind fun r183 =>
k0 x0 x1 x2 x3 x4 r183
else none
theorem t61_5 (x0 x1 x2 x3 x4) : exec cl N c61_5 [(0, .v U17 x0), (1, .v U23 x1), (5, .v U2 x2), (7, .v U2 x3), (8, .v U2 x4)] K = (g61_5 x0 x1 x2 x3 x4 (fun y0 y1 y2 y3 y4 y5 => K .normal (e35 y0 y1 y2 y3 y4 y5))) := by
  kernel_rfl
def g61_6 (x0 : V8) (x1 : V12) (x2 x3 x4 : Int) (x5 : Bool) (k0 : Int → Option R) : Option R :=
k0 x2
theorem t61_6 (x0 x1 x2 x3 x4 x5) : exec cl N c61_6 (e35 x0 x1 x2 x3 x4 x5) K = (g61_6 x0 x1 x2 x3 x4 x5 (fun y0 => K .normal [(4, .v U2 y0)])) := by
  kernel_rfl
theorem kp61_2 (x0) : keep [0, 1, 4, 7, 8] [(4, .v U2 x0)] = (e36 x0) := by kernel_rfl
theorem kp61_3 (x0 x1 x2 x3 x4 x5) : keep [0, 1, 4, 7, 8] (e35 x0 x1 x2 x3 x4 x5) = (e37 x0 x1 x3 x4) := by kernel_rfl
theorem hb61_1 (x0 x1 x2 x3 x4 x5) : boolOf? (ent (e35 x0 x1 x2 x3 x4 x5) (.t 16)) = some x5 := by kernel_rfl
theorem kp61_4 (x0) : keep [0, 1, 4, 7, 8] (e36 x0) = (e36 x0) := by kernel_rfl
theorem kp61_5 (x0 x1 x2 x3) : keep [0, 1, 4, 7, 8] (e37 x0 x1 x2 x3) = (e37 x0 x1 x2 x3) := by kernel_rfl
def g61_9 (x0 : V8) (x1 : V12) (x2 x3 : Int) (k0 : V8 → V12 → Int → Int → Option R) : Option R :=
k0 x0 x1 x2 (IntKind.i64.wrap (x3 + (1 : Int)))
theorem t61_9 (x0 x1 x2 x3) : exec cl N c61_9 (e37 x0 x1 x2 x3) K = (g61_9 x0 x1 x2 x3 (fun y0 y1 y2 y3 => K .normal (e33 y0 y1 y2 y3))) := by
  kernel_rfl
def g61_10 (x0 : V8) (x1 : V12) (x2 x3 : Int) (k0 : Int → Option R) (k1 : V8 → V12 → Int → Int → Option R) (k2 : V8 → V12 → Int → Int → Option R) : Option R :=
(g61_2 x0 x1 x2 x3 (fun y0 y1 y2 y3 y4 => brB y4 ((fun y0 y1 y2 y3 => (g61_4 y0 y1 y2 y3 (fun y0 y1 y2 y3 y4 => (g61_5 y0 y1 y2 y3 y4 (fun y0 y1 y2 y3 y4 y5 => brB y5 (g61_6 y0 y1 y2 y3 y4 y5 (fun y0 => ((fun y0 => (k0 y0)) y0))) (g61_9 y0 y1 y3 y4 k1)))))) y0 y1 y2 y3) (k2 y0 y1 y2 y3)))
theorem t61_10 (x0 x1 x2 x3) : exec cl N c61_10 (e33 x0 x1 x2 x3) K = (g61_10 x0 x1 x2 x3 (fun y0 => K .ret (e36 y0)) (fun y0 y1 y2 y3 => K .normal (e33 y0 y1 y2 y3)) (fun y0 y1 y2 y3 => K (.exit 0) (e33 y0 y1 y2 y3))) := by
  simp only [c61_10, exec_seq, seqK_normal, seqK_exit, seqK_ret, t61_2, c61_3, exec_out, exec_cond', hb61_0, Option.bind_some, brB_true, brB_false, exec_skip, exec_exit, kp61_1, c61_8, exec_block, t61_4, t61_5, c61_7, hb61_1, t61_6, exec_ret, kp61_2, kp61_3, blockK_normal, blockK_ret, blockK_eq, kp61_4, kp61_5, t61_9]
  rfl
def l61_11 {R : Type} (k0 : Int → Option R) (k1 : V8 → V12 → Int → Int → Option R) : Nat → V8 → V12 → Int → Int → Option R
  | 0, _, _, _, _ => none
  | m + 1, x0, x1, x2, x3 => (g61_10 x0 x1 x2 x3 k0 (fun y0 y1 y2 y3 => l61_11 k0 k1 m y0 y1 y2 y3) k1)
theorem lt61_11 : ∀ (m) (x0 x1 x2 x3), iter [0, 1, 7, 8] (fun env K => exec cl N c61_10 env K) K m (e33 x0 x1 x2 x3) = l61_11 (fun y0 => K .ret (e36 y0)) (fun y0 y1 y2 y3 => K (.exit 0) (e33 y0 y1 y2 y3)) m x0 x1 x2 x3 := by
  intro m
  induction m with
  | zero => intros; rfl
  | succ m ih =>
    intro x0 x1 x2 x3
    simp only [iter_succ, t61_10, loopK_normal, loopK_exit, loopK_ret, kp61_0, ih]
    rfl
theorem kp61_6 (x0) : keep [4] (e36 x0) = [(4, .v U2 x0)] := by kernel_rfl
theorem kp61_7 (x0 x1 x2 x3) : keep [4] (e33 x0 x1 x2 x3) = [(4, .dead)] := by kernel_rfl
def g61_11 (N : Nat) (x0 : V8) (x1 : V12) (x2 x3 : Int) (k0 : Int → Option R) (k1 : Option R) : Option R :=
l61_11 (fun y0 => k0 y0) (fun y0 y1 y2 y3 => k1) N x0 x1 x2 x3
theorem t61_11 (x0 x1 x2 x3) : exec cl N c61_11 (e33 x0 x1 x2 x3) K = (g61_11 N x0 x1 x2 x3 (fun y0 => K .ret [(4, .v U2 y0)]) (K (.exit 0) [(4, .dead)])) := by
  simp only [c61_11, exec_out, exec_loop, kp61_0, lt61_11, kp61_6, kp61_7]
  rfl
theorem kp61_8 (x0) : keep [4] [(4, .v U2 x0)] = [(4, .v U2 x0)] := by kernel_rfl
theorem kp61_9 : keep [4] [(4, .dead)] = [(4, .dead)] := by kernel_rfl
def g61_13 (k0 : Int → Option R) : Option R :=
k0 (-1 : Int)
theorem t61_13 : exec cl N c61_13 [(4, .dead)] K = (g61_13 (fun y0 => K .normal [(4, .v U2 y0)])) := by
  kernel_rfl
def g61_14 (N : Nat) (x0 : V8) (x1 : V12) (k0 : Int → Option R) : Option R :=
(g61_0 x0 x1 (fun y0 y1 => (g61_1 y0 y1 (fun y0 y1 y2 y3 => (g61_11 N y0 y1 y2 y3 (fun y0 => (k0 y0)) (g61_13 (fun y0 => (k0 y0))))))))
theorem t61_14 (x0 x1) : exec cl N c61_14 (e32 x0 x1) K = (g61_14 N x0 x1 (fun y0 => K .ret [(4, .v U2 y0)])) := by
  simp only [c61_14, exec_seq, seqK_normal, seqK_exit, seqK_ret, t61_0, t61_1, c61_12, exec_out, exec_block, t61_11, blockK_normal, blockK_ret, blockK_eq, kp61_8, kp61_9, t61_13, exec_ret]
  rfl
theorem rk61_0 (y0) : retK d61 .ret [(4, .v U2 y0)] = some [.v U2 y0] := by kernel_rfl
def g61 (N : Nat) (x0 : V8) (x1 : V12) (k : Int → Option R) : Option R :=
(g61_14 N x0 x1 (fun y0 => k y0))
theorem gen61 {N : Nat} {cl : Cal} (x0 : V8) (x1 : V12) {R : Type} (k : List E → Option R) : exec cl N c61 (params 0 [.v U17 x0, .v U23 x1]) (fun e env => (retK d61 e env).bind k) = g61 N x0 x1 (fun (r0 : Int) => k [.v U2 r0]) := by
  have e0 : params 0 [.v U17 x0, .v U23 x1] = (e32 x0 x1) := by kernel_rfl
  simp only [c61, e0, t61_14, rk61_0, Option.bind_some]
  rfl
def ctr61 (S : V8 → V12 → Option (Int)) : Ctr := { A := V8 × V12 × Unit, B := Int, f := 61, enc := fun a => [.v U17 a.1, .v U23 a.2.1], dec := (decC (decV U17) (decC (decV U23) dec0)), S := fun a => S a.1 a.2.1, ent := fun b => [.v U2 b], ok := (decV_cons (T := U17) (decV_cons (T := U23) (fun es b h => dec0_some h))) }
def S61 (N : Nat) (x0 : V8) (x1 : V12) : Option (Int) := g61 N x0 x1 (fun (r0 : Int) => some (r0))
def g42_0 (x0 : V8) (k0 : V8 → Option R) : Option R :=
k0 x0
theorem t42_0 (x0) : exec cl N c42_0 [(0, .v U17 x0)] K = (g42_0 x0 (fun y0 => K .normal [(0, .v U17 y0)])) := by
  kernel_rfl
def g42_1 (S61 : V8 → V12 → Option (Int)) (S62 : V6 → Option (Bool)) (x0 : V8) (k0 : V8 → Int → Option R) : Option R :=
(S61 x0 (fun (x187 : (V6 × Unit)) => ((S62 x187.1).bind fun b188 => some [.v .bool b188]).bind (unE .bool))).bind fun r189 =>
k0 x0 r189
theorem t42_1 (S61) (S62) (h61 : (ctr61 S61).holds cl) (h62 : (ctr62 S62).holds cl) (x0) : exec cl N c42_1 [(0, .v U17 x0)] K = (g42_1 S61 S62 x0 (fun y0 y1 => K .normal (e30 y0 y1))) := by
  rw [← put_eq h61]
  rw [← put_eq h62]
  kernel_rfl
def g42_2 (x0 : V8) (x1 : Int) (k0 : V8 → Int → Bool → Option R) : Option R :=
k0 x0 x1 (decide (x1 < (0 : Int)))
theorem t42_2 (x0 x1) : exec cl N c42_2 (e30 x0 x1) K = (g42_2 x0 x1 (fun y0 y1 y2 => K .normal (e38 y0 y1 y2))) := by
  kernel_rfl
def g42_3 (x0 : V8) (x1 : Int) (x2 : Bool) (k0 : Int → Option R) : Option R :=
k0 (x0.length : Int)
theorem t42_3 (x0 x1 x2) : exec cl N c42_3 (e38 x0 x1 x2) K = (g42_3 x0 x1 x2 (fun y0 => K .normal [(2, .v U2 y0)])) := by
  kernel_rfl
theorem kp42_0 (x0) : keep [2, 3] [(2, .v U2 x0)] = [(2, .v U2 x0), (3, .dead)] := by kernel_rfl
theorem kp42_1 (x0 x1 x2) : keep [2, 3] (e38 x0 x1 x2) = [(2, .dead), (3, .v U2 x1)] := by kernel_rfl
theorem hb42_0 (x0 x1 x2) : boolOf? (ent (e38 x0 x1 x2) (.t 7)) = some x2 := by kernel_rfl
def g42_5 (x0 : Int) (k0 : Int → Option R) : Option R :=
k0 x0
theorem t42_5 (x0) : exec cl N c42_5 [(2, .dead), (3, .v U2 x0)] K = (g42_5 x0 (fun y0 => K .normal [(2, .v U2 y0)])) := by
  kernel_rfl
def g42_6 (S61 : V8 → V12 → Option (Int)) (S62 : V6 → Option (Bool)) (x0 : V8) (k0 : Int → Option R) (k1 : Int → Option R) : Option R :=
(g42_0 x0 (fun y0 => (g42_1 S61 S62 y0 (fun y0 y1 => (g42_2 y0 y1 (fun y0 y1 y2 => brB y2 (g42_3 y0 y1 y2 (fun y0 => ((fun y0 => (k0 y0)) y0))) ((fun y0 => (g42_5 y0 (fun y0 => (k1 y0)))) y1)))))))
theorem t42_6 (S61) (S62) (h61 : (ctr61 S61).holds cl) (h62 : (ctr62 S62).holds cl) (x0) : exec cl N c42_6 [(0, .v U17 x0)] K = (g42_6 S61 S62 x0 (fun y0 => K .ret [(2, .v U2 y0), (3, .dead)]) (fun y0 => K .ret [(2, .v U2 y0)])) := by
  simp only [c42_6, exec_seq, seqK_normal, seqK_exit, seqK_ret, t42_0, t42_1 S61 S62 h61 h62, t42_2, c42_4, exec_out, exec_cond', hb42_0, Option.bind_some, brB_true, brB_false, t42_3, exec_ret, exec_skip, kp42_0, kp42_1, t42_5]
  rfl
theorem rk42_0 (y0) : retK d42 .ret [(2, .v U2 y0), (3, .dead)] = some [.v U2 y0] := by kernel_rfl
theorem rk42_1 (y0) : retK d42 .ret [(2, .v U2 y0)] = some [.v U2 y0] := by kernel_rfl
def g42 (S61 : V8 → V12 → Option (Int)) (S62 : V6 → Option (Bool)) (x0 : V8) (k : Int → Option R) : Option R :=
(g42_6 S61 S62 x0 (fun y0 => k y0) (fun y0 => k y0))
theorem gen42 {N : Nat} {cl : Cal} (S61 : V8 → V12 → Option (Int)) (S62 : V6 → Option (Bool)) (h61 : (ctr61 S61).holds cl) (h62 : (ctr62 S62).holds cl) (x0 : V8) {R : Type} (k : List E → Option R) : exec cl N c42 (params 0 [.v U17 x0]) (fun e env => (retK d42 e env).bind k) = g42 S61 S62 x0 (fun (r0 : Int) => k [.v U2 r0]) := by
  have e0 : params 0 [.v U17 x0] = [(0, .v U17 x0)] := by kernel_rfl
  simp only [c42, e0, t42_6 S61 S62 h61 h62, rk42_0, rk42_1, Option.bind_some]
  rfl
def ctr42 (S : V8 → Option (Int)) : Ctr := { A := V8 × Unit, B := Int, f := 42, enc := fun a => [.v U17 a.1], dec := (decC (decV U17) dec0), S := fun a => S a.1, ent := fun b => [.v U2 b], ok := (decV_cons (T := U17) (fun es b h => dec0_some h)) }
def S42 (N : Nat) (x0 : V8) : Option (Int) := g42 (S61 N) (S62 N) x0 (fun (r0 : Int) => some (r0))
def g13_0 (x0 : V8) (k0 : V8 → Option R) : Option R :=
k0 x0
theorem t13_0 (x0) : exec cl N c13_0 [(0, .v U17 x0)] K = (g13_0 x0 (fun y0 => K .normal [(0, .v U17 y0)])) := by
  kernel_rfl
def g13_1 (S42 : V8 → Option (Int)) (x0 : V8) (k0 : V8 → Int → Option R) : Option R :=
(S42 x0).bind fun r194 =>
k0 x0 r194
theorem t13_1 (S42) (h42 : (ctr42 S42).holds cl) (x0) : exec cl N c13_1 [(0, .v U17 x0)] K = (g13_1 S42 x0 (fun y0 y1 => K .normal (e30 y0 y1))) := by
  rw [← put_eq h42]
  kernel_rfl
def g13_2 (S43 : V6 → Option (Bool)) (x0 : V8) (x1 : Int) (k0 : Bool → Option R) : Option R :=
brB (decide (x1 < (x0.length : Int))) (if 0 ≤ x1 ∧ x1 < (x0.length : Int) then
(S43 (x0.getD x1.toNat ((0 : Int), ((0 : Int), ([], ()))))).bind fun r196 =>
k0 r196
else none) (k0 false)
theorem t13_2 (S43) (h43 : (ctr43 S43).holds cl) (x0 x1) : exec cl N c13_2 (e30 x0 x1) K = (g13_2 S43 x0 x1 (fun y0 => K .normal [(2, .v .bool y0)])) := by
  rw [← put_eq h43]
  kernel_rfl
def g13_3 (S42 : V8 → Option (Int)) (S43 : V6 → Option (Bool)) (x0 : V8) (k0 : Bool → Option R) : Option R :=
(g13_0 x0 (fun y0 => (g13_1 S42 y0 (fun y0 y1 => (g13_2 S43 y0 y1 (fun y0 => (k0 y0)))))))
theorem t13_3 (S42) (S43) (h42 : (ctr42 S42).holds cl) (h43 : (ctr43 S43).holds cl) (x0) : exec cl N c13_3 [(0, .v U17 x0)] K = (g13_3 S42 S43 x0 (fun y0 => K .ret [(2, .v .bool y0)])) := by
  simp only [c13_3, exec_seq, seqK_normal, seqK_exit, seqK_ret, t13_0, t13_1 S42 h42, t13_2 S43 h43, exec_ret]
  rfl
theorem rk13_0 (y0) : retK d13 .ret [(2, .v .bool y0)] = some [.v .bool y0] := by kernel_rfl
def g13 (S42 : V8 → Option (Int)) (S43 : V6 → Option (Bool)) (x0 : V8) (k : Bool → Option R) : Option R :=
(g13_3 S42 S43 x0 (fun y0 => k y0))
theorem gen13 {N : Nat} {cl : Cal} (S42 : V8 → Option (Int)) (S43 : V6 → Option (Bool)) (h42 : (ctr42 S42).holds cl) (h43 : (ctr43 S43).holds cl) (x0 : V8) {R : Type} (k : List E → Option R) : exec cl N c13 (params 0 [.v U17 x0]) (fun e env => (retK d13 e env).bind k) = g13 S42 S43 x0 (fun (r0 : Bool) => k [.v .bool r0]) := by
  have e0 : params 0 [.v U17 x0] = [(0, .v U17 x0)] := by kernel_rfl
  simp only [c13, e0, t13_3 S42 S43 h42 h43, rk13_0, Option.bind_some]
  rfl
def ctr13 (S : V8 → Option (Bool)) : Ctr := { A := V8 × Unit, B := Bool, f := 13, enc := fun a => [.v U17 a.1], dec := (decC (decV U17) dec0), S := fun a => S a.1, ent := fun b => [.v .bool b], ok := (decV_cons (T := U17) (fun es b h => dec0_some h)) }
def S13 (N : Nat) (x0 : V8) : Option (Bool) := g13 (S42 N) (S43 N) x0 (fun (r0 : Bool) => some (r0))
def g37_0 (x0 x1 : V8) (k0 : V8 → V8 → Option R) : Option R :=
k0 x0 x1
theorem t37_0 (x0 x1) : exec cl N c37_0 (e28 x0 x1) K = (g37_0 x0 x1 (fun y0 y1 => K .normal (e28 y0 y1))) := by
  kernel_rfl
def g37_1 (S14 : V8 → Option (Int)) (x0 x1 : V8) (k0 : V8 → V8 → Int → Option R) : Option R :=
(S14 x0).bind fun r201 =>
k0 x0 x1 r201
theorem t37_1 (S14) (h14 : (ctr14 S14).holds cl) (x0 x1) : exec cl N c37_1 (e28 x0 x1) K = (g37_1 S14 x0 x1 (fun y0 y1 y2 => K .normal (e39 y0 y1 y2))) := by
  rw [← put_eq h14]
  kernel_rfl
def g37_2 (S13 : V8 → Option (Bool)) (x0 x1 : V8) (x2 : Int) (k0 : V8 → Int → Bool → Option R) : Option R :=
brB (x2 == (0 : Int)) (k0 x0 x2 true) ((S13 x1).bind fun r203 =>
k0 x0 x2 (!r203))
theorem t37_2 (S13) (h13 : (ctr13 S13).holds cl) (x0 x1 x2) : exec cl N c37_2 (e39 x0 x1 x2) K = (g37_2 S13 x0 x1 x2 (fun y0 y1 y2 => K .normal (e40 y0 y1 y2))) := by
  rw [← put_eq h13]
  kernel_rfl
def g37_3 (x0 : V8) (x1 : Int) (x2 : Bool) (k0 : V0 → Option R) : Option R :=
k0 [(0 : Int)]
theorem t37_3 (x0 x1 x2) : exec cl N c37_3 (e40 x0 x1 x2) K = (g37_3 x0 x1 x2 (fun y0 => K .normal (e41 y0))) := by
  kernel_rfl
theorem kp37_0 (x0) : keep [4] (e41 x0) = (e41 x0) := by kernel_rfl
def g37_4 (x0 : V8) (x1 : Int) (x2 : Bool) (k0 : V8 → Bool → Option R) : Option R :=
k0 x0 (x1 == (2 : Int))
theorem t37_4 (x0 x1 x2) : exec cl N c37_4 (e40 x0 x1 x2) K = (g37_4 x0 x1 x2 (fun y0 y1 => K .normal (e42 y0 y1))) := by
  kernel_rfl
def g37_5 (x0 : V8) (x1 : Bool) (k0 : V0 → Option R) : Option R :=
k0 [(1 : Int), (3 : Int)]
theorem t37_5 (x0 x1) : exec cl N c37_5 (e42 x0 x1) K = (g37_5 x0 x1 (fun y0 => K .normal (e41 y0))) := by
  kernel_rfl
def g37_6 (x0 : V8) (x1 : Bool) (k0 : Bool → Option R) : Option R :=
let v205 : Int := (IntKind.i64.wrap ((x0.length : Int) - (1 : Int)))
if 0 ≤ v205 ∧ v205 < (x0.length : Int) then
k0 ((x0.getD v205.toNat ((0 : Int), ((0 : Int), ([], ())))).2.1 == (1 : Int))
else none
theorem t37_6 (x0 x1) : exec cl N c37_6 (e42 x0 x1) K = (g37_6 x0 x1 (fun y0 => K .normal [(21, .v .bool y0)])) := by
  kernel_rfl
def g37_7 (x0 : Bool) (k0 : V0 → Option R) : Option R :=
k0 [(1 : Int), (2 : Int), (3 : Int)]
theorem t37_7 (x0) : exec cl N c37_7 [(21, .v .bool x0)] K = (g37_7 x0 (fun y0 => K .normal (e41 y0))) := by
  kernel_rfl
theorem kp37_1 (x0) : keep [4] [(21, .v .bool x0)] = [(4, .dead)] := by kernel_rfl
theorem hb37_0 (x0) : boolOf? (ent [(21, .v .bool x0)] (.t 21)) = some x0 := by kernel_rfl
theorem kp37_2 : keep [4] [(4, .dead)] = [(4, .dead)] := by kernel_rfl
theorem hb37_1 (x0 x1) : boolOf? (ent (e42 x0 x1) (.t 17)) = some x1 := by kernel_rfl
theorem hb37_2 (x0 x1 x2) : boolOf? (ent (e40 x0 x1 x2) (.t 8)) = some x2 := by kernel_rfl
def g37_12 (k0 : V0 → Option R) : Option R :=
k0 [(1 : Int), (2 : Int), (3 : Int), (4 : Int)]
theorem t37_12 : exec cl N c37_12 [(4, .dead)] K = (g37_12 (fun y0 => K .normal (e41 y0))) := by
  kernel_rfl
def g37_13 (S13 : V8 → Option (Bool)) (S14 : V8 → Option (Int)) (x0 x1 : V8) (k0 : V0 → Option R) : Option R :=
(g37_0 x0 x1 (fun y0 y1 => (g37_1 S14 y0 y1 (fun y0 y1 y2 => (g37_2 S13 y0 y1 y2 (fun y0 y1 y2 => brB y2 (g37_3 y0 y1 y2 (fun y0 => ((fun y0 => (k0 y0)) y0))) (g37_4 y0 y1 y2 (fun y0 y1 => brB y1 (g37_5 y0 y1 (fun y0 => ((fun y0 => (k0 y0)) y0))) (g37_6 y0 y1 (fun y0 => brB y0 (g37_7 y0 (fun y0 => ((fun y0 => (k0 y0)) y0))) (g37_12 (fun y0 => (k0 y0)))))))))))))
theorem t37_13 (S13) (S14) (h13 : (ctr13 S13).holds cl) (h14 : (ctr14 S14).holds cl) (x0 x1) : exec cl N c37_13 (e28 x0 x1) K = (g37_13 S13 S14 x0 x1 (fun y0 => K .ret (e41 y0))) := by
  simp only [c37_13, exec_seq, seqK_normal, seqK_exit, seqK_ret, t37_0, t37_1 S14 h14, c37_11, exec_out, exec_block, t37_2 S13 h13, c37_10, exec_cond', hb37_2, Option.bind_some, brB_true, brB_false, t37_3, exec_ret, t37_4, c37_9, hb37_1, t37_5, t37_6, c37_8, hb37_0, t37_7, exec_skip, kp37_0, kp37_1, kp37_2, blockK_normal, blockK_ret, blockK_eq, t37_12]
  rfl
theorem rk37_0 (y0) : retK d37 .ret (e41 y0) = some [.own true 3 U2 .no y0] := by kernel_rfl
def g37 (S13 : V8 → Option (Bool)) (S14 : V8 → Option (Int)) (x0 x1 : V8) (k : V0 → Option R) : Option R :=
(g37_13 S13 S14 x0 x1 (fun y0 => k y0))
theorem gen37 {N : Nat} {cl : Cal} (S13 : V8 → Option (Bool)) (S14 : V8 → Option (Int)) (h13 : (ctr13 S13).holds cl) (h14 : (ctr14 S14).holds cl) (x0 : V8) (x1 : V8) {R : Type} (k : List E → Option R) : exec cl N c37 (params 0 [.v U17 x0, .v U17 x1]) (fun e env => (retK d37 e env).bind k) = g37 S13 S14 x0 x1 (fun (r0 : V0) => k [.own true 3 U2 .no r0]) := by
  have e0 : params 0 [.v U17 x0, .v U17 x1] = (e28 x0 x1) := by kernel_rfl
  simp only [c37, e0, t37_13 S13 S14 h13 h14, rk37_0, Option.bind_some]
  rfl
def ctr37 (S : V8 → V8 → Option V2) : Ctr := { A := V8 × V8 × Unit, B := V0, f := 37, enc := fun a => [.v U17 a.1, .v U17 a.2.1], dec := (decC (decV U17) (decC (decV U17) dec0)), S := fun a => S a.1 a.2.1, ent := fun b => [.own true 3 U2 .no b], ok := (decV_cons (T := U17) (decV_cons (T := U17) (fun es b h => dec0_some h))) }
def S37 (N : Nat) (x0 : V8) (x1 : V8) : Option V2 := g37 (S13 N) (S14 N) x0 x1 (fun (r0 : V0) => some (r0))
def g80_0 (x0 : V0) (x1 : Int) (k0 : V0 → Int → Option R) : Option R :=
k0 x0 x1
theorem t80_0 (x0 x1) : exec cl N c80_0 (e43 x0 x1) K = (g80_0 x0 x1 (fun y0 y1 => K .normal (e43 y0 y1))) := by
  kernel_rfl
def g80_1 (x0 : V0) (x1 : Int) (k0 : V0 → Int → Int → Int → Option R) : Option R :=
k0 x0 x1 (x0.length : Int) (0 : Int)
theorem t80_1 (x0 x1) : exec cl N c80_1 (e43 x0 x1) K = (g80_1 x0 x1 (fun y0 y1 y2 y3 => K .normal (e44 y0 y1 y2 y3))) := by
  kernel_rfl
theorem kp80_0 (x0 x1 x2 x3) : keep [0, 1, 7, 8] (e44 x0 x1 x2 x3) = (e44 x0 x1 x2 x3) := by kernel_rfl
def g80_2 (x0 : V0) (x1 x2 x3 : Int) (k0 : V0 → Int → Int → Int → Bool → Option R) : Option R :=
k0 x0 x1 x2 x3 (decide (x3 < x2))
theorem t80_2 (x0 x1 x2 x3) : exec cl N c80_2 (e44 x0 x1 x2 x3) K = (g80_2 x0 x1 x2 x3 (fun y0 y1 y2 y3 y4 => K .normal (e45 y0 y1 y2 y3 y4))) := by
  kernel_rfl
theorem kp80_1 (x0 x1 x2 x3 x4) : keep [0, 1, 7, 8] (e45 x0 x1 x2 x3 x4) = (e44 x0 x1 x2 x3) := by kernel_rfl
theorem hb80_0 (x0 x1 x2 x3 x4) : boolOf? (ent (e45 x0 x1 x2 x3 x4) (.t 9)) = some x4 := by kernel_rfl
def g80_4 (x0 : V0) (x1 x2 x3 : Int) (k0 : V0 → Int → Int → Int → Int → Option R) : Option R :=
k0 x0 x1 x3 x2 x3
theorem t80_4 (x0 x1 x2 x3) : exec cl N c80_4 (e44 x0 x1 x2 x3) K = (g80_4 x0 x1 x2 x3 (fun y0 y1 y2 y3 y4 => K .normal [(0, .v U5 y0), (1, .v U2 y1), (5, .v U2 y2), (7, .v U2 y3), (8, .v U2 y4)])) := by
  kernel_rfl
def g80_5 (x0 : V0) (x1 x2 x3 x4 : Int) (k0 : V0 → Int → Int → Int → Int → Bool → Option R) : Option R :=
if 0 ≤ x2 ∧ x2 < (x0.length : Int) then
k0 x0 x1 x2 x3 x4 (x1 == (x0.getD x2.toNat (0 : Int)))
else none
theorem t80_5 (x0 x1 x2 x3 x4) : exec cl N c80_5 [(0, .v U5 x0), (1, .v U2 x1), (5, .v U2 x2), (7, .v U2 x3), (8, .v U2 x4)] K = (g80_5 x0 x1 x2 x3 x4 (fun y0 y1 y2 y3 y4 y5 => K .normal (e46 y0 y1 y2 y3 y4 y5))) := by
  kernel_rfl
def g80_6 (x0 : V0) (x1 x2 x3 x4 : Int) (x5 : Bool) (k0 : Int → Option R) : Option R :=
k0 x2
theorem t80_6 (x0 x1 x2 x3 x4 x5) : exec cl N c80_6 (e46 x0 x1 x2 x3 x4 x5) K = (g80_6 x0 x1 x2 x3 x4 x5 (fun y0 => K .normal [(4, .v U2 y0)])) := by
  kernel_rfl
theorem kp80_2 (x0) : keep [0, 1, 4, 7, 8] [(4, .v U2 x0)] = (e36 x0) := by kernel_rfl
theorem kp80_3 (x0 x1 x2 x3 x4 x5) : keep [0, 1, 4, 7, 8] (e46 x0 x1 x2 x3 x4 x5) = (e47 x0 x1 x3 x4) := by kernel_rfl
theorem hb80_1 (x0 x1 x2 x3 x4 x5) : boolOf? (ent (e46 x0 x1 x2 x3 x4 x5) (.t 16)) = some x5 := by kernel_rfl
theorem kp80_4 (x0) : keep [0, 1, 4, 7, 8] (e36 x0) = (e36 x0) := by kernel_rfl
theorem kp80_5 (x0 x1 x2 x3) : keep [0, 1, 4, 7, 8] (e47 x0 x1 x2 x3) = (e47 x0 x1 x2 x3) := by kernel_rfl
def g80_9 (x0 : V0) (x1 x2 x3 : Int) (k0 : V0 → Int → Int → Int → Option R) : Option R :=
k0 x0 x1 x2 (IntKind.i64.wrap (x3 + (1 : Int)))
theorem t80_9 (x0 x1 x2 x3) : exec cl N c80_9 (e47 x0 x1 x2 x3) K = (g80_9 x0 x1 x2 x3 (fun y0 y1 y2 y3 => K .normal (e44 y0 y1 y2 y3))) := by
  kernel_rfl
def g80_10 (x0 : V0) (x1 x2 x3 : Int) (k0 : Int → Option R) (k1 : V0 → Int → Int → Int → Option R) (k2 : V0 → Int → Int → Int → Option R) : Option R :=
(g80_2 x0 x1 x2 x3 (fun y0 y1 y2 y3 y4 => brB y4 ((fun y0 y1 y2 y3 => (g80_4 y0 y1 y2 y3 (fun y0 y1 y2 y3 y4 => (g80_5 y0 y1 y2 y3 y4 (fun y0 y1 y2 y3 y4 y5 => brB y5 (g80_6 y0 y1 y2 y3 y4 y5 (fun y0 => ((fun y0 => (k0 y0)) y0))) (g80_9 y0 y1 y3 y4 k1)))))) y0 y1 y2 y3) (k2 y0 y1 y2 y3)))
theorem t80_10 (x0 x1 x2 x3) : exec cl N c80_10 (e44 x0 x1 x2 x3) K = (g80_10 x0 x1 x2 x3 (fun y0 => K .ret (e36 y0)) (fun y0 y1 y2 y3 => K .normal (e44 y0 y1 y2 y3)) (fun y0 y1 y2 y3 => K (.exit 0) (e44 y0 y1 y2 y3))) := by
  simp only [c80_10, exec_seq, seqK_normal, seqK_exit, seqK_ret, t80_2, c80_3, exec_out, exec_cond', hb80_0, Option.bind_some, brB_true, brB_false, exec_skip, exec_exit, kp80_1, c80_8, exec_block, t80_4, t80_5, c80_7, hb80_1, t80_6, exec_ret, kp80_2, kp80_3, blockK_normal, blockK_ret, blockK_eq, kp80_4, kp80_5, t80_9]
  rfl
def l80_11 {R : Type} (k0 : Int → Option R) (k1 : V0 → Int → Int → Int → Option R) : Nat → V0 → Int → Int → Int → Option R
  | 0, _, _, _, _ => none
  | m + 1, x0, x1, x2, x3 => (g80_10 x0 x1 x2 x3 k0 (fun y0 y1 y2 y3 => l80_11 k0 k1 m y0 y1 y2 y3) k1)
theorem lt80_11 : ∀ (m) (x0 x1 x2 x3), iter [0, 1, 7, 8] (fun env K => exec cl N c80_10 env K) K m (e44 x0 x1 x2 x3) = l80_11 (fun y0 => K .ret (e36 y0)) (fun y0 y1 y2 y3 => K (.exit 0) (e44 y0 y1 y2 y3)) m x0 x1 x2 x3 := by
  intro m
  induction m with
  | zero => intros; rfl
  | succ m ih =>
    intro x0 x1 x2 x3
    simp only [iter_succ, t80_10, loopK_normal, loopK_exit, loopK_ret, kp80_0, ih]
    rfl
theorem kp80_6 (x0) : keep [4] (e36 x0) = [(4, .v U2 x0)] := by kernel_rfl
theorem kp80_7 (x0 x1 x2 x3) : keep [4] (e44 x0 x1 x2 x3) = [(4, .dead)] := by kernel_rfl
def g80_11 (N : Nat) (x0 : V0) (x1 x2 x3 : Int) (k0 : Int → Option R) (k1 : Option R) : Option R :=
l80_11 (fun y0 => k0 y0) (fun y0 y1 y2 y3 => k1) N x0 x1 x2 x3
theorem t80_11 (x0 x1 x2 x3) : exec cl N c80_11 (e44 x0 x1 x2 x3) K = (g80_11 N x0 x1 x2 x3 (fun y0 => K .ret [(4, .v U2 y0)]) (K (.exit 0) [(4, .dead)])) := by
  simp only [c80_11, exec_out, exec_loop, kp80_0, lt80_11, kp80_6, kp80_7]
  rfl
theorem kp80_8 (x0) : keep [4] [(4, .v U2 x0)] = [(4, .v U2 x0)] := by kernel_rfl
theorem kp80_9 : keep [4] [(4, .dead)] = [(4, .dead)] := by kernel_rfl
def g80_13 (k0 : Int → Option R) : Option R :=
k0 (-1 : Int)
theorem t80_13 : exec cl N c80_13 [(4, .dead)] K = (g80_13 (fun y0 => K .normal [(4, .v U2 y0)])) := by
  kernel_rfl
def g80_14 (N : Nat) (x0 : V0) (x1 : Int) (k0 : Int → Option R) : Option R :=
(g80_0 x0 x1 (fun y0 y1 => (g80_1 y0 y1 (fun y0 y1 y2 y3 => (g80_11 N y0 y1 y2 y3 (fun y0 => (k0 y0)) (g80_13 (fun y0 => (k0 y0))))))))
theorem t80_14 (x0 x1) : exec cl N c80_14 (e43 x0 x1) K = (g80_14 N x0 x1 (fun y0 => K .ret [(4, .v U2 y0)])) := by
  simp only [c80_14, exec_seq, seqK_normal, seqK_exit, seqK_ret, t80_0, t80_1, c80_12, exec_out, exec_block, t80_11, blockK_normal, blockK_ret, blockK_eq, kp80_8, kp80_9, t80_13, exec_ret]
  rfl
theorem rk80_0 (y0) : retK d80 .ret [(4, .v U2 y0)] = some [.v U2 y0] := by kernel_rfl
def g80 (N : Nat) (x0 : V0) (x1 : Int) (k : Int → Option R) : Option R :=
(g80_14 N x0 x1 (fun y0 => k y0))
theorem gen80 {N : Nat} {cl : Cal} (x0 : V0) (x1 : Int) {R : Type} (k : List E → Option R) : exec cl N c80 (params 0 [.v U5 x0, .v U2 x1]) (fun e env => (retK d80 e env).bind k) = g80 N x0 x1 (fun (r0 : Int) => k [.v U2 r0]) := by
  have e0 : params 0 [.v U5 x0, .v U2 x1] = (e43 x0 x1) := by kernel_rfl
  simp only [c80, e0, t80_14, rk80_0, Option.bind_some]
  rfl
def ctr80 (S : V0 → Int → Option (Int)) : Ctr := { A := V0 × Int × Unit, B := Int, f := 80, enc := fun a => [.v U5 a.1, .v U2 a.2.1], dec := (decC (decV U5) (decC (decV U2) dec0)), S := fun a => S a.1 a.2.1, ent := fun b => [.v U2 b], ok := (decV_cons (T := U5) (decV_cons (T := U2) (fun es b h => dec0_some h))) }
def S80 (N : Nat) (x0 : V0) (x1 : Int) : Option (Int) := g80 N x0 x1 (fun (r0 : Int) => some (r0))
def g63_0 (x0 : V0) (x1 : Int) (k0 : V0 → Int → Option R) : Option R :=
k0 x0 x1
theorem t63_0 (x0 x1) : exec cl N c63_0 (e43 x0 x1) K = (g63_0 x0 x1 (fun y0 y1 => K .normal (e43 y0 y1))) := by
  kernel_rfl
def g63_1 (S80 : V0 → Int → Option (Int)) (x0 : V0) (x1 : Int) (k0 : Bool → Option R) : Option R :=
(S80 x0 x1).bind fun r216 =>
k0 (decide (r216 ≥ (0 : Int)))
theorem t63_1 (S80) (h80 : (ctr80 S80).holds cl) (x0 x1) : exec cl N c63_1 (e43 x0 x1) K = (g63_1 S80 x0 x1 (fun y0 => K .normal [(4, .v .bool y0)])) := by
  rw [← put_eq h80]
  kernel_rfl
def g63_2 (S80 : V0 → Int → Option (Int)) (x0 : V0) (x1 : Int) (k0 : Bool → Option R) : Option R :=
(g63_0 x0 x1 (fun y0 y1 => (g63_1 S80 y0 y1 (fun y0 => (k0 y0)))))
theorem t63_2 (S80) (h80 : (ctr80 S80).holds cl) (x0 x1) : exec cl N c63_2 (e43 x0 x1) K = (g63_2 S80 x0 x1 (fun y0 => K .ret [(4, .v .bool y0)])) := by
  simp only [c63_2, exec_seq, seqK_normal, seqK_exit, seqK_ret, t63_0, t63_1 S80 h80, exec_ret]
  rfl
theorem rk63_0 (y0) : retK d63 .ret [(4, .v .bool y0)] = some [.v .bool y0] := by kernel_rfl
def g63 (S80 : V0 → Int → Option (Int)) (x0 : V0) (x1 : Int) (k : Bool → Option R) : Option R :=
(g63_2 S80 x0 x1 (fun y0 => k y0))
theorem gen63 {N : Nat} {cl : Cal} (S80 : V0 → Int → Option (Int)) (h80 : (ctr80 S80).holds cl) (x0 : V0) (x1 : Int) {R : Type} (k : List E → Option R) : exec cl N c63 (params 0 [.v U5 x0, .v U2 x1]) (fun e env => (retK d63 e env).bind k) = g63 S80 x0 x1 (fun (r0 : Bool) => k [.v .bool r0]) := by
  have e0 : params 0 [.v U5 x0, .v U2 x1] = (e43 x0 x1) := by kernel_rfl
  simp only [c63, e0, t63_2 S80 h80, rk63_0, Option.bind_some]
  rfl
def ctr63 (S : V0 → Int → Option (Bool)) : Ctr := { A := V0 × Int × Unit, B := Bool, f := 63, enc := fun a => [.v U5 a.1, .v U2 a.2.1], dec := (decC (decV U5) (decC (decV U2) dec0)), S := fun a => S a.1 a.2.1, ent := fun b => [.v .bool b], ok := (decV_cons (T := U5) (decV_cons (T := U2) (fun es b h => dec0_some h))) }
def S63 (N : Nat) (x0 : V0) (x1 : Int) : Option (Bool) := g63 (S80 N) x0 x1 (fun (r0 : Bool) => some (r0))
def g44_0 (x0 x1 : V8) (x2 : Int) (k0 : V8 → V8 → Int → Option R) : Option R :=
k0 x0 x1 x2
theorem t44_0 (x0 x1 x2) : exec cl N c44_0 (e48 x0 x1 x2) K = (g44_0 x0 x1 x2 (fun y0 y1 y2 => K .normal (e48 y0 y1 y2))) := by
  kernel_rfl
def g44_1 (S36 : V8 → V8 → Option (Int)) (x0 x1 : V8) (x2 : Int) (k0 : V8 → V8 → Int → Int → Option R) : Option R :=
(S36 x0 x1).bind fun r236 =>
k0 x0 x1 x2 r236
theorem t44_1 (S36) (h36 : (ctr36 S36).holds cl) (x0 x1 x2) : exec cl N c44_1 (e48 x0 x1 x2) K = (g44_1 S36 x0 x1 x2 (fun y0 y1 y2 y3 => K .normal [(0, .v U17 y0), (1, .v U17 y1), (2, .v U2 y2), (10, .v U2 y3)])) := by
  rw [← put_eq h36]
  kernel_rfl
def g44_2 (x0 x1 : V8) (x2 x3 : Int) (k0 : V8 → V8 → Int → Int → Bool → Option R) : Option R :=
k0 x0 x1 x2 x3 (x3 != (0 : Int))
theorem t44_2 (x0 x1 x2 x3) : exec cl N c44_2 [(0, .v U17 x0), (1, .v U17 x1), (2, .v U2 x2), (10, .v U2 x3)] K = (g44_2 x0 x1 x2 x3 (fun y0 y1 y2 y3 y4 => K .normal (e49 y0 y1 y2 y3 y4))) := by
  kernel_rfl
def g44_3 (x0 x1 : V8) (x2 x3 : Int) (x4 : Bool) (k0 : V8 → V8 → V8 → Int → Option R) : Option R :=
k0 [] [] [] x3
theorem t44_3 (x0 x1 x2 x3 x4) : exec cl N c44_3 (e49 x0 x1 x2 x3 x4) K = (g44_3 x0 x1 x2 x3 x4 (fun y0 y1 y2 y3 => K .normal (e50 y0 y1 y2 y3))) := by
  kernel_rfl
theorem kp44_0 (x0 x1 x2 x3) : keep [0, 1, 2, 6, 7, 8, 9] (e50 x0 x1 x2 x3) = (e51 x0 x1 x2 x3) := by kernel_rfl
theorem kp44_1 (x0 x1 x2 x3 x4) : keep [0, 1, 2, 6, 7, 8, 9] (e49 x0 x1 x2 x3 x4) = (e52 x0 x1 x2) := by kernel_rfl
theorem hb44_0 (x0 x1 x2 x3 x4) : boolOf? (ent (e49 x0 x1 x2 x3 x4) (.t 21)) = some x4 := by kernel_rfl
def g44_5 (x0 x1 : V8) (x2 : Int) (k0 : V8 → V8 → Int → Bool → Option R) : Option R :=
brB (decide (x2 < (0 : Int))) (k0 x0 x1 x2 true) (k0 x0 x1 x2 (decide (x2 > (4 : Int))))
theorem t44_5 (x0 x1 x2) : exec cl N c44_5 (e52 x0 x1 x2) K = (g44_5 x0 x1 x2 (fun y0 y1 y2 y3 => K .normal (e53 y0 y1 y2 y3))) := by
  kernel_rfl
def g44_6 (x0 x1 : V8) (x2 : Int) (x3 : Bool) (k0 : V8 → V8 → V8 → Int → Option R) : Option R :=
k0 [] [] [] (6 : Int)
theorem t44_6 (x0 x1 x2 x3) : exec cl N c44_6 (e53 x0 x1 x2 x3) K = (g44_6 x0 x1 x2 x3 (fun y0 y1 y2 y3 => K .normal (e50 y0 y1 y2 y3))) := by
  kernel_rfl
theorem kp44_2 (x0 x1 x2 x3) : keep [0, 1, 2, 6, 7, 8, 9] (e53 x0 x1 x2 x3) = (e52 x0 x1 x2) := by kernel_rfl
theorem hb44_1 (x0 x1 x2 x3) : boolOf? (ent (e53 x0 x1 x2 x3) (.t 28)) = some x3 := by kernel_rfl
def g44_8 (S37 : V8 → V8 → Option V2) (S63 : V0 → Int → Option (Bool)) (x0 x1 : V8) (x2 : Int) (k0 : V8 → V8 → Int → Bool → Option R) : Option R :=
(S37 x0 x1).bind fun r240 =>
(S63 r240 x2).bind fun r241 =>
k0 x0 x1 x2 (!r241)
theorem t44_8 (S37) (S63) (h37 : (ctr37 S37).holds cl) (h63 : (ctr63 S63).holds cl) (x0 x1 x2) : exec cl N c44_8 (e52 x0 x1 x2) K = (g44_8 S37 S63 x0 x1 x2 (fun y0 y1 y2 y3 => K .normal (e54 y0 y1 y2 y3))) := by
  rw [← put_eq h37]
  rw [← put_eq h63]
  kernel_rfl
def g44_9 (x0 x1 : V8) (x2 : Int) (x3 : Bool) (k0 : V8 → V8 → V8 → Int → Option R) : Option R :=
k0 [] [] [] (8 : Int)
theorem t44_9 (x0 x1 x2 x3) : exec cl N c44_9 (e54 x0 x1 x2 x3) K = (g44_9 x0 x1 x2 x3 (fun y0 y1 y2 y3 => K .normal (e50 y0 y1 y2 y3))) := by
  kernel_rfl
theorem kp44_3 (x0 x1 x2 x3) : keep [0, 1, 2, 6, 7, 8, 9] (e54 x0 x1 x2 x3) = (e52 x0 x1 x2) := by kernel_rfl
theorem hb44_2 (x0 x1 x2 x3) : boolOf? (ent (e54 x0 x1 x2 x3) (.t 34)) = some x3 := by kernel_rfl
def g44_11 (S23 : V8 → Option V9) (x0 x1 : V8) (x2 : Int) (k0 : V8 → V8 → Int → V8 → V8 → Option R) : Option R :=
(S23 x0).bind fun r242 =>
(S23 x1).bind fun r243 =>
k0 x0 x1 x2 r242 r243
theorem t44_11 (S23) (h23 : (ctr23 S23).holds cl) (x0 x1 x2) : exec cl N c44_11 (e52 x0 x1 x2) K = (g44_11 S23 x0 x1 x2 (fun y0 y1 y2 y3 y4 => K .normal (e55 y0 y1 y2 y3 y4))) := by
  rw [← put_eq h23]
  kernel_rfl
def g44_12 (x0 x1 : V8) (x2 : Int) (x3 x4 : V8) (k0 : V8 → V8 → Int → V8 → V8 → V8 → Option R) : Option R :=
k0 x0 x1 x2 x3 x4 []
theorem t44_12 (x0 x1 x2 x3 x4) : exec cl N c44_12 (e55 x0 x1 x2 x3 x4) K = (g44_12 x0 x1 x2 x3 x4 (fun y0 y1 y2 y3 y4 y5 => K .normal (e56 y0 y1 y2 y3 y4 y5))) := by
  kernel_rfl
def g44_13 (x0 x1 : V8) (x2 : Int) (x3 x4 x5 : V8) (k0 : V8 → V8 → V8 → V8 → V8 → Int → Option R) : Option R :=
k0 x0 x1 x3 x4 x5 x2
theorem t44_13 (x0 x1 x2 x3 x4 x5) : exec cl N c44_13 (e56 x0 x1 x2 x3 x4 x5) K = (g44_13 x0 x1 x2 x3 x4 x5 (fun y0 y1 y2 y3 y4 y5 => K .normal (e57 y0 y1 y2 y3 y4 y5))) := by
  kernel_rfl
def g44_14 (x0 x1 x2 x3 x4 : V8) (x5 : Int) (k0 : V8 → V8 → V8 → V8 → V8 → Int → Bool → Option R) : Option R :=
k0 x0 x1 x2 x3 x4 x5 (x5 == (1 : Int))
theorem t44_14 (x0 x1 x2 x3 x4 x5) : exec cl N c44_14 (e57 x0 x1 x2 x3 x4 x5) K = (g44_14 x0 x1 x2 x3 x4 x5 (fun y0 y1 y2 y3 y4 y5 y6 => K .normal (e58 y0 y1 y2 y3 y4 y5 y6))) := by
  kernel_rfl
def g44_15 (S14 : V8 → Option (Int)) (x0 x1 x2 x3 x4 : V8) (x5 : Int) (x6 : Bool) (k0 : V8 → V8 → V8 → Int → Option R) : Option R :=
(S14 x0).bind fun r245 =>
k0 x0 x2 x3 (IntKind.i64.wrap ((x0.length : Int) - r245))
theorem t44_15 (S14) (h14 : (ctr14 S14).holds cl) (x0 x1 x2 x3 x4 x5 x6) : exec cl N c44_15 (e58 x0 x1 x2 x3 x4 x5 x6) K = (g44_15 S14 x0 x1 x2 x3 x4 x5 x6 (fun y0 y1 y2 y3 => K .normal (e59 y0 y1 y2 y3))) := by
  rw [← put_eq h14]
  kernel_rfl
def g44_16 (S23 : V8 → Option V9) (x0 x1 x2 : V8) (x3 : Int) (k0 : V8 → V8 → V8 → Option R) : Option R :=
if 0 ≤ (0 : Int) ∧ (0 : Int) ≤ x3 ∧ x3 ≤ x3 ∧ x3 ≤ (x1.length : Int) then
if 0 ≤ x3 ∧ x3 ≤ (x0.length : Int) ∧ (x0.length : Int) ≤ (x0.length : Int) ∧ (x0.length : Int) ≤ (x0.length : Int) then
(S23 ((x0.drop x3.toNat).take ((x0.length : Int).toNat - x3.toNat))).bind fun r249 =>
k0 ((x1.drop (0 : Int).toNat).take (x3.toNat - (0 : Int).toNat)) x2 r249
else none
else none
theorem t44_16 (S23) (h23 : (ctr23 S23).holds cl) (x0 x1 x2 x3) : exec cl N c44_16 (e59 x0 x1 x2 x3) K = (g44_16 S23 x0 x1 x2 x3 (fun y0 y1 y2 => K .normal (e60 y0 y1 y2))) := by
  rw [← put_eq h23]
  kernel_rfl
theorem kp44_4 (x0 x1 x2) : keep [11, 12, 13] (e60 x0 x1 x2) = (e60 x0 x1 x2) := by kernel_rfl
def g44_17 (x0 x1 x2 x3 x4 : V8) (x5 : Int) (x6 : Bool) (k0 : V8 → V8 → V8 → V8 → Int → Bool → Option R) : Option R :=
k0 x1 x2 x3 x4 x5 (x5 == (2 : Int))
theorem t44_17 (x0 x1 x2 x3 x4 x5 x6) : exec cl N c44_17 (e58 x0 x1 x2 x3 x4 x5 x6) K = (g44_17 x0 x1 x2 x3 x4 x5 x6 (fun y0 y1 y2 y3 y4 y5 => K .normal (e61 y0 y1 y2 y3 y4 y5))) := by
  kernel_rfl
def g44_18 (S42 : V8 → Option (Int)) (x0 x1 x2 x3 : V8) (x4 : Int) (x5 : Bool) (k0 : V8 → V8 → Int → Option R) : Option R :=
(S42 x0).bind fun r251 =>
k0 x0 x1 (IntKind.i64.wrap (r251 + (1 : Int)))
theorem t44_18 (S42) (h42 : (ctr42 S42).holds cl) (x0 x1 x2 x3 x4 x5) : exec cl N c44_18 (e61 x0 x1 x2 x3 x4 x5) K = (g44_18 S42 x0 x1 x2 x3 x4 x5 (fun y0 y1 y2 => K .normal [(1, .v U17 y0), (11, .own true 55 U15 .no y1), (15, .v U2 y2)])) := by
  rw [← put_eq h42]
  kernel_rfl
def g44_19 (S23 : V8 → Option V9) (x0 x1 : V8) (x2 : Int) (k0 : V8 → V8 → V8 → Option R) : Option R :=
if 0 ≤ x2 ∧ x2 ≤ (x0.length : Int) ∧ (x0.length : Int) ≤ (x0.length : Int) ∧ (x0.length : Int) ≤ (x0.length : Int) then
(S23 ((x0.drop x2.toNat).take ((x0.length : Int).toNat - x2.toNat))).bind fun r254 =>
if 0 ≤ (0 : Int) ∧ (0 : Int) ≤ x2 ∧ x2 ≤ (x0.length : Int) ∧ (x0.length : Int) ≤ (x0.length : Int) then
(S23 ((x0.drop (0 : Int).toNat).take (x2.toNat - (0 : Int).toNat))).bind fun r256 =>
k0 x1 r254 r256
else none
else none
theorem t44_19 (S23) (h23 : (ctr23 S23).holds cl) (x0 x1 x2) : exec cl N c44_19 [(1, .v U17 x0), (11, .own true 55 U15 .no x1), (15, .v U2 x2)] K = (g44_19 S23 x0 x1 x2 (fun y0 y1 y2 => K .normal (e62 y0 y1 y2))) := by
  rw [← put_eq h23]
  kernel_rfl
theorem kp44_5 (x0 x1 x2) : keep [11, 12, 13] (e62 x0 x1 x2) = (e62 x0 x1 x2) := by kernel_rfl
def g44_20 (x0 x1 x2 x3 : V8) (x4 : Int) (x5 : Bool) (k0 : V8 → V8 → V8 → Bool → Option R) : Option R :=
k0 x1 x2 x3 (x4 == (4 : Int))
theorem t44_20 (x0 x1 x2 x3 x4 x5) : exec cl N c44_20 (e61 x0 x1 x2 x3 x4 x5) K = (g44_20 x0 x1 x2 x3 x4 x5 (fun y0 y1 y2 y3 => K .normal (e63 y0 y1 y2 y3))) := by
  kernel_rfl
def g44_21 (x0 x1 x2 : V8) (x3 : Bool) (k0 : V8 → V8 → V8 → Nat → Option R) : Option R :=
let v258 : Int := (IntKind.i64.wrap ((x0.length : Int) - (1 : Int)))
if 0 ≤ v258 ∧ v258 < (x0.length : Int) then
k0 x0 x1 x2 v258.toNat
else none
theorem t44_21 (x0 x1 x2 x3) : exec cl N c44_21 (e63 x0 x1 x2 x3) K = (g44_21 x0 x1 x2 x3 (fun y0 y1 y2 y3 => K .normal (e64 y0 y1 y2 y3))) := by
  kernel_rfl
def g44_22 (x0 x1 x2 : V8) (x3 : Nat) (k0 : V8 → V8 → V8 → Option R) : Option R :=
if x3 < x0.length then
if x3 < (x0.set x3 ((1 : Int), (x0.getD x3 ((0 : Int), ((0 : Int), ([], ())))).2)).length then
k0 ((x0.set x3 ((1 : Int), (x0.getD x3 ((0 : Int), ((0 : Int), ([], ())))).2)).set x3 (((x0.set x3 ((1 : Int), (x0.getD x3 ((0 : Int), ((0 : Int), ([], ())))).2)).getD x3 ((0 : Int), ((0 : Int), ([], ())))).1, ((1 : Int), ((x0.set x3 ((1 : Int), (x0.getD x3 ((0 : Int), ((0 : Int), ([], ())))).2)).getD x3 ((0 : Int), ((0 : Int), ([], ())))).2.2))) x1 x2
else none
else none
theorem t44_22 (x0 x1 x2 x3) : exec cl N c44_22 (e64 x0 x1 x2 x3) K = (g44_22 x0 x1 x2 x3 (fun y0 y1 y2 => K .normal (e62 y0 y1 y2))) := by
  kernel_rfl
theorem kp44_6 (x0 x1 x2 x3) : keep [11, 12, 13] (e63 x0 x1 x2 x3) = (e62 x0 x1 x2) := by kernel_rfl
theorem hb44_3 (x0 x1 x2 x3) : boolOf? (ent (e63 x0 x1 x2 x3) (.t 68)) = some x3 := by kernel_rfl
theorem hb44_4 (x0 x1 x2 x3 x4 x5) : boolOf? (ent (e61 x0 x1 x2 x3 x4 x5) (.t 55)) = some x5 := by kernel_rfl
theorem hb44_5 (x0 x1 x2 x3 x4 x5 x6) : boolOf? (ent (e58 x0 x1 x2 x3 x4 x5 x6) (.t 40)) = some x6 := by kernel_rfl
def g44_27 (S14 : V8 → Option (Int)) (S23 : V8 → Option V9) (S42 : V8 → Option (Int)) (x0 x1 : V8) (x2 : Int) (x3 x4 x5 : V8) (k0 : V8 → V8 → V8 → Option R) (k1 : V8 → V8 → V8 → Option R) : Option R :=
(g44_13 x0 x1 x2 x3 x4 x5 (fun y0 y1 y2 y3 y4 y5 => (g44_14 y0 y1 y2 y3 y4 y5 (fun y0 y1 y2 y3 y4 y5 y6 => brB y6 (g44_15 S14 y0 y1 y2 y3 y4 y5 y6 (fun y0 y1 y2 y3 => (g44_16 S23 y0 y1 y2 y3 (fun y0 y1 y2 => (k0 y0 y1 y2))))) (g44_17 y0 y1 y2 y3 y4 y5 y6 (fun y0 y1 y2 y3 y4 y5 => brB y5 (g44_18 S42 y0 y1 y2 y3 y4 y5 (fun y0 y1 y2 => (g44_19 S23 y0 y1 y2 (fun y0 y1 y2 => (k1 y0 y1 y2))))) (g44_20 y0 y1 y2 y3 y4 y5 (fun y0 y1 y2 y3 => brB y3 (g44_21 y0 y1 y2 y3 (fun y0 y1 y2 y3 => (g44_22 y0 y1 y2 y3 (fun y0 y1 y2 => (k1 y0 y1 y2))))) (k1 y0 y1 y2)))))))))
theorem t44_27 (S14) (S23) (S42) (h14 : (ctr14 S14).holds cl) (h23 : (ctr23 S23).holds cl) (h42 : (ctr42 S42).holds cl) (x0 x1 x2 x3 x4 x5) : exec cl N c44_27 (e56 x0 x1 x2 x3 x4 x5) K = (g44_27 S14 S23 S42 x0 x1 x2 x3 x4 x5 (fun y0 y1 y2 => K .normal (e60 y0 y1 y2)) (fun y0 y1 y2 => K .normal (e62 y0 y1 y2))) := by
  simp only [c44_27, exec_seq, seqK_normal, seqK_exit, seqK_ret, t44_13, c44_26, exec_out, exec_block, t44_14, c44_25, exec_cond', hb44_5, Option.bind_some, brB_true, brB_false, t44_15 S14 h14, t44_16 S23 h23, t44_17, c44_24, hb44_4, t44_18 S42 h42, t44_19 S23 h23, t44_20, c44_23, hb44_3, t44_21, t44_22, exec_skip, kp44_5, kp44_6, kp44_4, blockK_normal, blockK_ret, blockK_eq]
  rfl
def g44_28 (x0 x1 x2 : V8) (k0 : V8 → Int → V8 → V8 → V8 → Option R) : Option R :=
k0 x0 (0 : Int) x0 x1 x2
theorem t44_28 (x0 x1 x2) : exec cl N c44_28 (e60 x0 x1 x2) K = (g44_28 x0 x1 x2 (fun y0 y1 y2 y3 y4 => K .normal (e65 y0 y1 y2 y3 y4))) := by
  kernel_rfl
def g44_28b (x0 x1 x2 : V8) (k0 : Int → V8 → V8 → V8 → Option R) : Option R :=
k0 (0 : Int) x0 x1 x2
theorem t44_28b (x0 x1 x2) : exec cl N c44_28 (e62 x0 x1 x2) K = (g44_28b x0 x1 x2 (fun y0 y1 y2 y3 => K .normal (e66 y0 y1 y2 y3))) := by
  kernel_rfl
def g44_29 (S14 : V8 → Option (Int)) (S23 : V8 → Option V9) (S36 : V8 → V8 → Option (Int)) (S37 : V8 → V8 → Option V2) (S42 : V8 → Option (Int)) (S63 : V0 → Int → Option (Bool)) (x0 x1 : V8) (x2 : Int) (k0 : V8 → V8 → V8 → Int → Option R) (k1 : V8 → Int → V8 → V8 → V8 → Option R) (k2 : Int → V8 → V8 → V8 → Option R) : Option R :=
(g44_0 x0 x1 x2 (fun y0 y1 y2 => (g44_1 S36 y0 y1 y2 (fun y0 y1 y2 y3 => (g44_2 y0 y1 y2 y3 (fun y0 y1 y2 y3 y4 => brB y4 (g44_3 y0 y1 y2 y3 y4 (fun y0 y1 y2 y3 => ((fun y0 y1 y2 y3 => (k0 y0 y1 y2 y3)) y0 y1 y2 y3))) ((fun y0 y1 y2 => (g44_5 y0 y1 y2 (fun y0 y1 y2 y3 => brB y3 (g44_6 y0 y1 y2 y3 (fun y0 y1 y2 y3 => ((fun y0 y1 y2 y3 => (k0 y0 y1 y2 y3)) y0 y1 y2 y3))) ((fun y0 y1 y2 => (g44_8 S37 S63 y0 y1 y2 (fun y0 y1 y2 y3 => brB y3 (g44_9 y0 y1 y2 y3 (fun y0 y1 y2 y3 => ((fun y0 y1 y2 y3 => (k0 y0 y1 y2 y3)) y0 y1 y2 y3))) ((fun y0 y1 y2 => (g44_11 S23 y0 y1 y2 (fun y0 y1 y2 y3 y4 => (g44_12 y0 y1 y2 y3 y4 (fun y0 y1 y2 y3 y4 y5 => (g44_27 S14 S23 S42 y0 y1 y2 y3 y4 y5 (fun y0 y1 y2 => (g44_28 y0 y1 y2 (fun y0 y1 y2 y3 y4 => (k1 y0 y1 y2 y3 y4)))) (fun y0 y1 y2 => (g44_28b y0 y1 y2 (fun y0 y1 y2 y3 => (k2 y0 y1 y2 y3)))))))))) y0 y1 y2)))) y0 y1 y2)))) y0 y1 y2)))))))
theorem t44_29 (S14) (S23) (S36) (S37) (S42) (S63) (h14 : (ctr14 S14).holds cl) (h23 : (ctr23 S23).holds cl) (h36 : (ctr36 S36).holds cl) (h37 : (ctr37 S37).holds cl) (h42 : (ctr42 S42).holds cl) (h63 : (ctr63 S63).holds cl) (x0 x1 x2) : exec cl N c44_29 (e48 x0 x1 x2) K = (g44_29 S14 S23 S36 S37 S42 S63 x0 x1 x2 (fun y0 y1 y2 y3 => K .ret (e51 y0 y1 y2 y3)) (fun y0 y1 y2 y3 y4 => K .ret (e65 y0 y1 y2 y3 y4)) (fun y0 y1 y2 y3 => K .ret (e66 y0 y1 y2 y3))) := by
  simp only [c44_29, exec_seq, seqK_normal, seqK_exit, seqK_ret, t44_0, t44_1 S36 h36, t44_2, c44_4, exec_out, exec_cond', hb44_0, Option.bind_some, brB_true, brB_false, t44_3, exec_ret, exec_skip, kp44_0, kp44_1, t44_5, c44_7, hb44_1, t44_6, kp44_2, t44_8 S37 S63 h37 h63, c44_10, hb44_2, t44_9, kp44_3, t44_11 S23 h23, t44_12, t44_27 S14 S23 S42 h14 h23 h42, t44_28, t44_28b]
  rfl
theorem rk44_0 (y0 y1 y2 y3) : retK d44 .ret (e51 y0 y1 y2 y3) = some [.v U17 y0, .own true 55 U15 .no y1, .own true 55 U15 .no y2, .v U2 y3] := by kernel_rfl
theorem rk44_1 (y0 y1 y2 y3 y4) : retK d44 .ret (e65 y0 y1 y2 y3 y4) = some [.v U17 y0, .own true 55 U15 .no y3, .own true 55 U15 .no y4, .v U2 y1] := by kernel_rfl
theorem rk44_2 (y0 y1 y2 y3) : retK d44 .ret (e66 y0 y1 y2 y3) = some [.v U17 y1, .own true 55 U15 .no y2, .own true 55 U15 .no y3, .v U2 y0] := by kernel_rfl
def g44 (S14 : V8 → Option (Int)) (S23 : V8 → Option V9) (S36 : V8 → V8 → Option (Int)) (S37 : V8 → V8 → Option V2) (S42 : V8 → Option (Int)) (S63 : V0 → Int → Option (Bool)) (x0 x1 : V8) (x2 : Int) (k : V8 → V8 → V8 → Int → Option R) : Option R :=
(g44_29 S14 S23 S36 S37 S42 S63 x0 x1 x2 (fun y0 y1 y2 y3 => k y0 y1 y2 y3) (fun y0 y1 y2 y3 y4 => k y0 y3 y4 y1) (fun y0 y1 y2 y3 => k y1 y2 y3 y0))
theorem gen44 {N : Nat} {cl : Cal} (S14 : V8 → Option (Int)) (S23 : V8 → Option V9) (S36 : V8 → V8 → Option (Int)) (S37 : V8 → V8 → Option V2) (S42 : V8 → Option (Int)) (S63 : V0 → Int → Option (Bool)) (h14 : (ctr14 S14).holds cl) (h23 : (ctr23 S23).holds cl) (h36 : (ctr36 S36).holds cl) (h37 : (ctr37 S37).holds cl) (h42 : (ctr42 S42).holds cl) (h63 : (ctr63 S63).holds cl) (x0 : V8) (x1 : V8) (x2 : Int) {R : Type} (k : List E → Option R) : exec cl N c44 (params 0 [.v U17 x0, .v U17 x1, .v U2 x2]) (fun e env => (retK d44 e env).bind k) = g44 S14 S23 S36 S37 S42 S63 x0 x1 x2 (fun (r0 : V8) (r1 : V8) (r2 : V8) (r3 : Int) => k [.v U17 r0, .own true 55 U15 .no r1, .own true 55 U15 .no r2, .v U2 r3]) := by
  have e0 : params 0 [.v U17 x0, .v U17 x1, .v U2 x2] = (e48 x0 x1 x2) := by kernel_rfl
  simp only [c44, e0, t44_29 S14 S23 S36 S37 S42 S63 h14 h23 h36 h37 h42 h63, rk44_0, rk44_1, rk44_2, Option.bind_some]
  rfl
def ctr44 (S : V8 → V8 → Int → Option V14) : Ctr := { A := V8 × V8 × Int × Unit, B := V8 × V8 × V8 × Int, f := 44, enc := fun a => [.v U17 a.1, .v U17 a.2.1, .v U2 a.2.2.1], dec := (decC (decV U17) (decC (decV U17) (decC (decV U2) dec0))), S := fun a => S a.1 a.2.1 a.2.2.1, ent := fun b => [.v U17 b.1, .own true 55 U15 .no b.2.1, .own true 55 U15 .no b.2.2.1, .v U2 b.2.2.2], ok := (decV_cons (T := U17) (decV_cons (T := U17) (decV_cons (T := U2) (fun es b h => dec0_some h)))) }
def S44 (N : Nat) (x0 : V8) (x1 : V8) (x2 : Int) : Option V14 := g44 (S14 N) (S23 N) (S36 N) (S37 N) (S42 N) (S63 N) x0 x1 x2 (fun (r0 : V8) (r1 : V8) (r2 : V8) (r3 : Int) => some (r0, r1, r2, r3))
def g16_0 (x0 x1 : V8) (x2 : Int) (k0 : V8 → V8 → Int → Option R) : Option R :=
k0 x0 x1 x2
theorem t16_0 (x0 x1 x2) : exec cl N c16_0 (e48 x0 x1 x2) K = (g16_0 x0 x1 x2 (fun y0 y1 y2 => K .normal (e48 y0 y1 y2))) := by
  kernel_rfl
def g16_1 (S44 : V8 → V8 → Int → Option V14) (x0 x1 : V8) (x2 : Int) (k0 : V8 → V8 → Int → Option R) : Option R :=
(S44 x0 x1 x2).bind fun r260 =>
k0 r260.1 r260.2.1 r260.2.2.2
theorem t16_1 (S44) (h44 : (ctr44 S44).holds cl) (x0 x1 x2) : exec cl N c16_1 (e48 x0 x1 x2) K = (g16_1 S44 x0 x1 x2 (fun y0 y1 y2 => K .normal [(9, .v U17 y0), (10, .own true 55 U15 .no y1), (12, .v U2 y2)])) := by
  rw [← put_eq h44]
  kernel_rfl
def g16_2 (x0 x1 : V8) (x2 : Int) (k0 : V8 → Int → V8 → Option R) : Option R :=
k0 x0 x2 x1
theorem t16_2 (x0 x1 x2) : exec cl N c16_2 [(9, .v U17 x0), (10, .own true 55 U15 .no x1), (12, .v U2 x2)] K = (g16_2 x0 x1 x2 (fun y0 y1 y2 => K .normal (e67 y0 y1 y2))) := by
  kernel_rfl
def g16_3 (S44 : V8 → V8 → Int → Option V14) (x0 x1 : V8) (x2 : Int) (k0 : V8 → Int → V8 → Option R) : Option R :=
(g16_0 x0 x1 x2 (fun y0 y1 y2 => (g16_1 S44 y0 y1 y2 (fun y0 y1 y2 => (g16_2 y0 y1 y2 (fun y0 y1 y2 => (k0 y0 y1 y2)))))))
theorem t16_3 (S44) (h44 : (ctr44 S44).holds cl) (x0 x1 x2) : exec cl N c16_3 (e48 x0 x1 x2) K = (g16_3 S44 x0 x1 x2 (fun y0 y1 y2 => K .ret (e67 y0 y1 y2))) := by
  simp only [c16_3, exec_seq, seqK_normal, seqK_exit, seqK_ret, t16_0, t16_1 S44 h44, t16_2, exec_ret]
  rfl
theorem rk16_0 (y0 y1 y2) : retK d16 .ret (e67 y0 y1 y2) = some [.v U17 y0, .own true 55 U15 .no y2, .v U2 y1] := by kernel_rfl
def g16 (S44 : V8 → V8 → Int → Option V14) (x0 x1 : V8) (x2 : Int) (k : V8 → V8 → Int → Option R) : Option R :=
(g16_3 S44 x0 x1 x2 (fun y0 y1 y2 => k y0 y2 y1))
theorem gen16 {N : Nat} {cl : Cal} (S44 : V8 → V8 → Int → Option V14) (h44 : (ctr44 S44).holds cl) (x0 : V8) (x1 : V8) (x2 : Int) {R : Type} (k : List E → Option R) : exec cl N c16 (params 0 [.v U17 x0, .v U17 x1, .v U2 x2]) (fun e env => (retK d16 e env).bind k) = g16 S44 x0 x1 x2 (fun (r0 : V8) (r1 : V8) (r2 : Int) => k [.v U17 r0, .own true 55 U15 .no r1, .v U2 r2]) := by
  have e0 : params 0 [.v U17 x0, .v U17 x1, .v U2 x2] = (e48 x0 x1 x2) := by kernel_rfl
  simp only [c16, e0, t16_3 S44 h44, rk16_0, Option.bind_some]
  rfl
def ctr16 (S : V8 → V8 → Int → Option V13) : Ctr := { A := V8 × V8 × Int × Unit, B := V8 × V8 × Int, f := 16, enc := fun a => [.v U17 a.1, .v U17 a.2.1, .v U2 a.2.2.1], dec := (decC (decV U17) (decC (decV U17) (decC (decV U2) dec0))), S := fun a => S a.1 a.2.1 a.2.2.1, ent := fun b => [.v U17 b.1, .own true 55 U15 .no b.2.1, .v U2 b.2.2], ok := (decV_cons (T := U17) (decV_cons (T := U17) (decV_cons (T := U2) (fun es b h => dec0_some h)))) }
def S16 (N : Nat) (x0 : V8) (x1 : V8) (x2 : Int) : Option V13 := g16 (S44 N) x0 x1 x2 (fun (r0 : V8) (r1 : V8) (r2 : Int) => some (r0, r1, r2))
def g28_0 (x0 x1 : V8) (x2 : Int) (k0 : V8 → V8 → Int → Option R) : Option R :=
k0 x0 x1 x2
theorem t28_0 (x0 x1 x2) : exec cl N c28_0 (e48 x0 x1 x2) K = (g28_0 x0 x1 x2 (fun y0 y1 y2 => K .normal (e48 y0 y1 y2))) := by
  kernel_rfl
def g28_1 (S44 : V8 → V8 → Int → Option V14) (x0 x1 : V8) (x2 : Int) (k0 : V8 → Int → Option R) : Option R :=
(S44 x0 x1 x2).bind fun r265 =>
k0 r265.2.2.1 r265.2.2.2
theorem t28_1 (S44) (h44 : (ctr44 S44).holds cl) (x0 x1 x2) : exec cl N c28_1 (e48 x0 x1 x2) K = (g28_1 S44 x0 x1 x2 (fun y0 y1 => K .normal [(10, .own true 55 U15 .no y0), (11, .v U2 y1)])) := by
  rw [← put_eq h44]
  kernel_rfl
def g28_2 (x0 : V8) (x1 : Int) (k0 : Int → V8 → Option R) : Option R :=
k0 x1 x0
theorem t28_2 (x0 x1) : exec cl N c28_2 [(10, .own true 55 U15 .no x0), (11, .v U2 x1)] K = (g28_2 x0 x1 (fun y0 y1 => K .normal (e68 y0 y1))) := by
  kernel_rfl
def g28_3 (S44 : V8 → V8 → Int → Option V14) (x0 x1 : V8) (x2 : Int) (k0 : Int → V8 → Option R) : Option R :=
(g28_0 x0 x1 x2 (fun y0 y1 y2 => (g28_1 S44 y0 y1 y2 (fun y0 y1 => (g28_2 y0 y1 (fun y0 y1 => (k0 y0 y1)))))))
theorem t28_3 (S44) (h44 : (ctr44 S44).holds cl) (x0 x1 x2) : exec cl N c28_3 (e48 x0 x1 x2) K = (g28_3 S44 x0 x1 x2 (fun y0 y1 => K .ret (e68 y0 y1))) := by
  simp only [c28_3, exec_seq, seqK_normal, seqK_exit, seqK_ret, t28_0, t28_1 S44 h44, t28_2, exec_ret]
  rfl
theorem rk28_0 (y0 y1) : retK d28 .ret (e68 y0 y1) = some [.own true 55 U15 .no y1, .v U2 y0] := by kernel_rfl
def g28 (S44 : V8 → V8 → Int → Option V14) (x0 x1 : V8) (x2 : Int) (k : V8 → Int → Option R) : Option R :=
(g28_3 S44 x0 x1 x2 (fun y0 y1 => k y1 y0))
theorem gen28 {N : Nat} {cl : Cal} (S44 : V8 → V8 → Int → Option V14) (h44 : (ctr44 S44).holds cl) (x0 : V8) (x1 : V8) (x2 : Int) {R : Type} (k : List E → Option R) : exec cl N c28 (params 0 [.v U17 x0, .v U17 x1, .v U2 x2]) (fun e env => (retK d28 e env).bind k) = g28 S44 x0 x1 x2 (fun (r0 : V8) (r1 : Int) => k [.own true 55 U15 .no r0, .v U2 r1]) := by
  have e0 : params 0 [.v U17 x0, .v U17 x1, .v U2 x2] = (e48 x0 x1 x2) := by kernel_rfl
  simp only [c28, e0, t28_3 S44 h44, rk28_0, Option.bind_some]
  rfl
def ctr28 (S : V8 → V8 → Int → Option V11) : Ctr := { A := V8 × V8 × Int × Unit, B := V8 × Int, f := 28, enc := fun a => [.v U17 a.1, .v U17 a.2.1, .v U2 a.2.2.1], dec := (decC (decV U17) (decC (decV U17) (decC (decV U2) dec0))), S := fun a => S a.1 a.2.1 a.2.2.1, ent := fun b => [.own true 55 U15 .no b.1, .v U2 b.2], ok := (decV_cons (T := U17) (decV_cons (T := U17) (decV_cons (T := U2) (fun es b h => dec0_some h)))) }
def S28 (N : Nat) (x0 : V8) (x1 : V8) (x2 : Int) : Option V11 := g28 (S44 N) x0 x1 x2 (fun (r0 : V8) (r1 : Int) => some (r0, r1))
def g64_0 (x0 x1 : Int) (k0 : Int → Int → Option R) : Option R :=
k0 x0 x1
theorem t64_0 (x0 x1) : exec cl N c64_0 (e69 x0 x1) K = (g64_0 x0 x1 (fun y0 y1 => K .normal (e69 y0 y1))) := by
  kernel_rfl
def g64_1 (x0 x1 : Int) (k0 : Int → Int → Bool → Option R) : Option R :=
k0 x0 x1 (decide (x0 < x1))
theorem t64_1 (x0 x1) : exec cl N c64_1 (e69 x0 x1) K = (g64_1 x0 x1 (fun y0 y1 y2 => K .normal (e70 y0 y1 y2))) := by
  kernel_rfl
def g64_2 (x0 x1 : Int) (x2 : Bool) (k0 : Int → Option R) : Option R :=
k0 (-1 : Int)
theorem t64_2 (x0 x1 x2) : exec cl N c64_2 (e70 x0 x1 x2) K = (g64_2 x0 x1 x2 (fun y0 => K .normal [(4, .v U2 y0)])) := by
  kernel_rfl
theorem kp64_0 (x0) : keep [0, 1, 4] [(4, .v U2 x0)] = (e71 x0) := by kernel_rfl
theorem kp64_1 (x0 x1 x2) : keep [0, 1, 4] (e70 x0 x1 x2) = [(0, .v U2 x0), (1, .v U2 x1), (4, .dead)] := by kernel_rfl
theorem hb64_0 (x0 x1 x2) : boolOf? (ent (e70 x0 x1 x2) (.t 7)) = some x2 := by kernel_rfl
def g64_4 (x0 x1 : Int) (k0 : Bool → Option R) : Option R :=
k0 (decide (x0 > x1))
theorem t64_4 (x0 x1) : exec cl N c64_4 [(0, .v U2 x0), (1, .v U2 x1), (4, .dead)] K = (g64_4 x0 x1 (fun y0 => K .normal [(10, .v .bool y0)])) := by
  kernel_rfl
def g64_5 (x0 : Bool) (k0 : Int → Option R) : Option R :=
k0 (1 : Int)
theorem t64_5 (x0) : exec cl N c64_5 [(10, .v .bool x0)] K = (g64_5 x0 (fun y0 => K .normal [(4, .v U2 y0)])) := by
  kernel_rfl
theorem kp64_2 (x0) : keep [4] [(4, .v U2 x0)] = [(4, .v U2 x0)] := by kernel_rfl
theorem kp64_3 (x0) : keep [4] [(10, .v .bool x0)] = [(4, .dead)] := by kernel_rfl
theorem hb64_1 (x0) : boolOf? (ent [(10, .v .bool x0)] (.t 10)) = some x0 := by kernel_rfl
def g64_7 (k0 : Int → Option R) : Option R :=
k0 (0 : Int)
theorem t64_7 : exec cl N c64_7 [(4, .dead)] K = (g64_7 (fun y0 => K .normal [(4, .v U2 y0)])) := by
  kernel_rfl
def g64_8 (x0 x1 : Int) (k0 : Int → Option R) (k1 : Int → Option R) : Option R :=
(g64_0 x0 x1 (fun y0 y1 => (g64_1 y0 y1 (fun y0 y1 y2 => brB y2 (g64_2 y0 y1 y2 (fun y0 => ((fun y0 => (k0 y0)) y0))) ((fun y0 y1 => (g64_4 y0 y1 (fun y0 => brB y0 (g64_5 y0 (fun y0 => ((fun y0 => (k1 y0)) y0))) (g64_7 (fun y0 => (k1 y0)))))) y0 y1)))))
theorem t64_8 (x0 x1) : exec cl N c64_8 (e69 x0 x1) K = (g64_8 x0 x1 (fun y0 => K .ret (e71 y0)) (fun y0 => K .ret [(4, .v U2 y0)])) := by
  simp only [c64_8, exec_seq, seqK_normal, seqK_exit, seqK_ret, t64_0, t64_1, c64_3, exec_out, exec_cond', hb64_0, Option.bind_some, brB_true, brB_false, t64_2, exec_ret, exec_skip, kp64_0, kp64_1, t64_4, c64_6, hb64_1, t64_5, kp64_2, kp64_3, t64_7]
  rfl
theorem rk64_0 (y0) : retK d64 .ret (e71 y0) = some [.v U2 y0] := by kernel_rfl
theorem rk64_1 (y0) : retK d64 .ret [(4, .v U2 y0)] = some [.v U2 y0] := by kernel_rfl
def g64 (x0 x1 : Int) (k : Int → Option R) : Option R :=
(g64_8 x0 x1 (fun y0 => k y0) (fun y0 => k y0))
theorem gen64 {N : Nat} {cl : Cal} (x0 : Int) (x1 : Int) {R : Type} (k : List E → Option R) : exec cl N c64 (params 0 [.v U2 x0, .v U2 x1]) (fun e env => (retK d64 e env).bind k) = g64 x0 x1 (fun (r0 : Int) => k [.v U2 r0]) := by
  have e0 : params 0 [.v U2 x0, .v U2 x1] = (e69 x0 x1) := by kernel_rfl
  simp only [c64, e0, t64_8, rk64_0, rk64_1, Option.bind_some]
  rfl
def ctr64 (S : Int → Int → Option (Int)) : Ctr := { A := Int × Int × Unit, B := Int, f := 64, enc := fun a => [.v U2 a.1, .v U2 a.2.1], dec := (decC (decV U2) (decC (decV U2) dec0)), S := fun a => S a.1 a.2.1, ent := fun b => [.v U2 b], ok := (decV_cons (T := U2) (decV_cons (T := U2) (fun es b h => dec0_some h))) }
def S64 (N : Nat) (x0 : Int) (x1 : Int) : Option (Int) := g64 x0 x1 (fun (r0 : Int) => some (r0))
def g48_0 (x0 x1 : V6) (k0 : V6 → V6 → Option R) : Option R :=
k0 x0 x1
theorem t48_0 (x0 x1) : exec cl N c48_0 [(0, .v U15 x0), (1, .v U15 x1)] K = (g48_0 x0 x1 (fun y0 y1 => K .normal [(2, .loc U15 .no y0), (3, .loc U15 .no y1)])) := by
  kernel_rfl
def g48_1 (S64 : Int → Int → Option (Int)) (x0 x1 : V6) (k0 : V6 → V6 → Int → Option R) : Option R :=
(S64 x0.1 x1.1).bind fun r292 =>
k0 x0 x1 r292
theorem t48_1 (S64) (h64 : (ctr64 S64).holds cl) (x0 x1) : exec cl N c48_1 [(2, .loc U15 .no x0), (3, .loc U15 .no x1)] K = (g48_1 S64 x0 x1 (fun y0 y1 y2 => K .normal [(2, .loc U15 .no y0), (3, .loc U15 .no y1), (5, .v U2 y2)])) := by
  rw [← put_eq h64]
  kernel_rfl
def g48_2 (x0 x1 : V6) (x2 : Int) (k0 : V6 → V6 → Int → Bool → Option R) : Option R :=
k0 x0 x1 x2 (x2 != (0 : Int))
theorem t48_2 (x0 x1 x2) : exec cl N c48_2 [(2, .loc U15 .no x0), (3, .loc U15 .no x1), (5, .v U2 x2)] K = (g48_2 x0 x1 x2 (fun y0 y1 y2 y3 => K .normal (e72 y0 y1 y2 y3))) := by
  kernel_rfl
def g48_3 (x0 x1 : V6) (x2 : Int) (x3 : Bool) (k0 : Int → Option R) : Option R :=
k0 x2
theorem t48_3 (x0 x1 x2 x3) : exec cl N c48_3 (e72 x0 x1 x2 x3) K = (g48_3 x0 x1 x2 x3 (fun y0 => K .normal [(4, .v U2 y0)])) := by
  kernel_rfl
theorem kp48_0 (x0) : keep [2, 3, 4] [(4, .v U2 x0)] = (e73 x0) := by kernel_rfl
theorem kp48_1 (x0 x1 x2 x3) : keep [2, 3, 4] (e72 x0 x1 x2 x3) = (e74 x0 x1) := by kernel_rfl
theorem hb48_0 (x0 x1 x2 x3) : boolOf? (ent (e72 x0 x1 x2 x3) (.t 13)) = some x3 := by kernel_rfl
def g48_5 (S64 : Int → Int → Option (Int)) (x0 x1 : V6) (k0 : V6 → V6 → Int → Option R) : Option R :=
(S64 x0.2.1 x1.2.1).bind fun r294 =>
k0 x0 x1 r294
theorem t48_5 (S64) (h64 : (ctr64 S64).holds cl) (x0 x1) : exec cl N c48_5 (e74 x0 x1) K = (g48_5 S64 x0 x1 (fun y0 y1 y2 => K .normal [(2, .loc U15 .no y0), (3, .loc U15 .no y1), (6, .v U2 y2)])) := by
  rw [← put_eq h64]
  kernel_rfl
def g48_6 (x0 x1 : V6) (x2 : Int) (k0 : V6 → V6 → Int → Bool → Option R) : Option R :=
k0 x0 x1 x2 (x2 != (0 : Int))
theorem t48_6 (x0 x1 x2) : exec cl N c48_6 [(2, .loc U15 .no x0), (3, .loc U15 .no x1), (6, .v U2 x2)] K = (g48_6 x0 x1 x2 (fun y0 y1 y2 y3 => K .normal (e75 y0 y1 y2 y3))) := by
  kernel_rfl
def g48_7 (x0 x1 : V6) (x2 : Int) (x3 : Bool) (k0 : Int → Option R) : Option R :=
k0 x2
theorem t48_7 (x0 x1 x2 x3) : exec cl N c48_7 (e75 x0 x1 x2 x3) K = (g48_7 x0 x1 x2 x3 (fun y0 => K .normal [(4, .v U2 y0)])) := by
  kernel_rfl
theorem kp48_2 (x0 x1 x2 x3) : keep [2, 3, 4] (e75 x0 x1 x2 x3) = (e74 x0 x1) := by kernel_rfl
theorem hb48_1 (x0 x1 x2 x3) : boolOf? (ent (e75 x0 x1 x2 x3) (.t 21)) = some x3 := by kernel_rfl
def g48_9 (x0 x1 : V6) (k0 : V6 → V6 → Bool → Option R) : Option R :=
k0 x0 x1 (Op.bytesLess x0.2.2.1 x1.2.2.1)
theorem t48_9 (x0 x1) : exec cl N c48_9 (e74 x0 x1) K = (g48_9 x0 x1 (fun y0 y1 y2 => K .normal (e76 y0 y1 y2))) := by
  kernel_rfl
def g48_10 (x0 x1 : V6) (x2 : Bool) (k0 : Int → Option R) : Option R :=
k0 (-1 : Int)
theorem t48_10 (x0 x1 x2) : exec cl N c48_10 (e76 x0 x1 x2) K = (g48_10 x0 x1 x2 (fun y0 => K .normal [(4, .v U2 y0)])) := by
  kernel_rfl
theorem kp48_3 (x0 x1 x2) : keep [2, 3, 4] (e76 x0 x1 x2) = (e74 x0 x1) := by kernel_rfl
theorem hb48_2 (x0 x1 x2) : boolOf? (ent (e76 x0 x1 x2) (.t 27)) = some x2 := by kernel_rfl
def g48_12 (x0 x1 : V6) (k0 : Bool → Option R) : Option R :=
k0 (!((Op.bytesLess x0.2.2.1 x1.2.2.1) || x0.2.2.1 == x1.2.2.1))
theorem t48_12 (x0 x1) : exec cl N c48_12 (e74 x0 x1) K = (g48_12 x0 x1 (fun y0 => K .normal [(32, .v .bool y0)])) := by
  kernel_rfl
def g48_13 (x0 : Bool) (k0 : Int → Option R) : Option R :=
k0 (1 : Int)
theorem t48_13 (x0) : exec cl N c48_13 [(32, .v .bool x0)] K = (g48_13 x0 (fun y0 => K .normal [(4, .v U2 y0)])) := by
  kernel_rfl
theorem kp48_4 (x0) : keep [4] [(4, .v U2 x0)] = [(4, .v U2 x0)] := by kernel_rfl
theorem kp48_5 (x0) : keep [4] [(32, .v .bool x0)] = [(4, .dead)] := by kernel_rfl
theorem hb48_3 (x0) : boolOf? (ent [(32, .v .bool x0)] (.t 32)) = some x0 := by kernel_rfl
def g48_15 (k0 : Int → Option R) : Option R :=
k0 (0 : Int)
theorem t48_15 : exec cl N c48_15 [(4, .dead)] K = (g48_15 (fun y0 => K .normal [(4, .v U2 y0)])) := by
  kernel_rfl
def g48_16 (S64 : Int → Int → Option (Int)) (x0 x1 : V6) (k0 : Int → Option R) (k1 : Int → Option R) : Option R :=
(g48_0 x0 x1 (fun y0 y1 => (g48_1 S64 y0 y1 (fun y0 y1 y2 => (g48_2 y0 y1 y2 (fun y0 y1 y2 y3 => brB y3 (g48_3 y0 y1 y2 y3 (fun y0 => ((fun y0 => (k0 y0)) y0))) ((fun y0 y1 => (g48_5 S64 y0 y1 (fun y0 y1 y2 => (g48_6 y0 y1 y2 (fun y0 y1 y2 y3 => brB y3 (g48_7 y0 y1 y2 y3 (fun y0 => ((fun y0 => (k0 y0)) y0))) ((fun y0 y1 => (g48_9 y0 y1 (fun y0 y1 y2 => brB y2 (g48_10 y0 y1 y2 (fun y0 => ((fun y0 => (k0 y0)) y0))) ((fun y0 y1 => (g48_12 y0 y1 (fun y0 => brB y0 (g48_13 y0 (fun y0 => ((fun y0 => (k1 y0)) y0))) (g48_15 (fun y0 => (k1 y0)))))) y0 y1)))) y0 y1)))))) y0 y1)))))))
theorem t48_16 (S64) (h64 : (ctr64 S64).holds cl) (x0 x1) : exec cl N c48_16 [(0, .v U15 x0), (1, .v U15 x1)] K = (g48_16 S64 x0 x1 (fun y0 => K .ret (e73 y0)) (fun y0 => K .ret [(4, .v U2 y0)])) := by
  simp only [c48_16, exec_seq, seqK_normal, seqK_exit, seqK_ret, t48_0, t48_1 S64 h64, t48_2, c48_4, exec_out, exec_cond', hb48_0, Option.bind_some, brB_true, brB_false, t48_3, exec_ret, exec_skip, kp48_0, kp48_1, t48_5 S64 h64, t48_6, c48_8, hb48_1, t48_7, kp48_2, t48_9, c48_11, hb48_2, t48_10, kp48_3, t48_12, c48_14, hb48_3, t48_13, kp48_4, kp48_5, t48_15]
  rfl
theorem rk48_0 (y0) : retK d48 .ret (e73 y0) = some [.v U2 y0] := by kernel_rfl
theorem rk48_1 (y0) : retK d48 .ret [(4, .v U2 y0)] = some [.v U2 y0] := by kernel_rfl
def g48 (S64 : Int → Int → Option (Int)) (x0 x1 : V6) (k : Int → Option R) : Option R :=
(g48_16 S64 x0 x1 (fun y0 => k y0) (fun y0 => k y0))
theorem gen48 {N : Nat} {cl : Cal} (S64 : Int → Int → Option (Int)) (h64 : (ctr64 S64).holds cl) (x0 : V6) (x1 : V6) {R : Type} (k : List E → Option R) : exec cl N c48 (params 0 [.v U15 x0, .v U15 x1]) (fun e env => (retK d48 e env).bind k) = g48 S64 x0 x1 (fun (r0 : Int) => k [.v U2 r0]) := by
  have e0 : params 0 [.v U15 x0, .v U15 x1] = [(0, .v U15 x0), (1, .v U15 x1)] := by kernel_rfl
  simp only [c48, e0, t48_16 S64 h64, rk48_0, rk48_1, Option.bind_some]
  rfl
def ctr48 (S : V6 → V6 → Option (Int)) : Ctr := { A := V6 × V6 × Unit, B := Int, f := 48, enc := fun a => [.v U15 a.1, .v U15 a.2.1], dec := (decC (decV U15) (decC (decV U15) dec0)), S := fun a => S a.1 a.2.1, ent := fun b => [.v U2 b], ok := (decV_cons (T := U15) (decV_cons (T := U15) (fun es b h => dec0_some h))) }
def S48 (N : Nat) (x0 : V6) (x1 : V6) : Option (Int) := g48 (S64 N) x0 x1 (fun (r0 : Int) => some (r0))
def g29_0 (x0 x1 : V8) (k0 : V8 → V8 → Option R) : Option R :=
k0 x0 x1
theorem t29_0 (x0 x1) : exec cl N c29_0 (e28 x0 x1) K = (g29_0 x0 x1 (fun y0 y1 => K .normal (e28 y0 y1))) := by
  kernel_rfl
def g29_1 (x0 x1 : V8) (k0 : V8 → V8 → Bool → Option R) : Option R :=
k0 x0 x1 ((x0.length : Int) != (x1.length : Int))
theorem t29_1 (x0 x1) : exec cl N c29_1 (e28 x0 x1) K = (g29_1 x0 x1 (fun y0 y1 y2 => K .normal (e77 y0 y1 y2))) := by
  kernel_rfl
def g29_2 (x0 x1 : V8) (x2 : Bool) (k0 : Bool → Option R) : Option R :=
k0 false
theorem t29_2 (x0 x1 x2) : exec cl N c29_2 (e77 x0 x1 x2) K = (g29_2 x0 x1 x2 (fun y0 => K .normal [(4, .v .bool y0)])) := by
  kernel_rfl
theorem kp29_0 (x0) : keep [0, 1, 4] [(4, .v .bool x0)] = (e78 x0) := by kernel_rfl
theorem kp29_1 (x0 x1 x2) : keep [0, 1, 4] (e77 x0 x1 x2) = [(0, .v U17 x0), (1, .v U17 x1), (4, .dead)] := by kernel_rfl
theorem hb29_0 (x0 x1 x2) : boolOf? (ent (e77 x0 x1 x2) (.t 10)) = some x2 := by kernel_rfl
def g29_4 (x0 x1 : V8) (k0 : V8 → V8 → Int → Option R) : Option R :=
k0 x0 x1 (0 : Int)
theorem t29_4 (x0 x1) : exec cl N c29_4 [(0, .v U17 x0), (1, .v U17 x1), (4, .dead)] K = (g29_4 x0 x1 (fun y0 y1 y2 => K .normal (e39 y0 y1 y2))) := by
  kernel_rfl
theorem kp29_2 (x0 x1 x2) : keep [0, 1, 5] (e39 x0 x1 x2) = (e39 x0 x1 x2) := by kernel_rfl
def g29_5 (x0 x1 : V8) (x2 : Int) (k0 : V8 → V8 → Int → Bool → Option R) : Option R :=
k0 x0 x1 x2 (decide (x2 < (x0.length : Int)))
theorem t29_5 (x0 x1 x2) : exec cl N c29_5 (e39 x0 x1 x2) K = (g29_5 x0 x1 x2 (fun y0 y1 y2 y3 => K .normal (e79 y0 y1 y2 y3))) := by
  kernel_rfl
theorem kp29_3 (x0 x1 x2 x3) : keep [0, 1, 5] (e79 x0 x1 x2 x3) = (e39 x0 x1 x2) := by kernel_rfl
theorem hb29_1 (x0 x1 x2 x3) : boolOf? (ent (e79 x0 x1 x2 x3) (.t 14)) = some x3 := by kernel_rfl
def g29_7 (S48 : V6 → V6 → Option (Int)) (x0 x1 : V8) (x2 : Int) (k0 : V8 → V8 → Int → Bool → Option R) : Option R :=
if 0 ≤ x2 ∧ x2 < (x0.length : Int) then
if 0 ≤ x2 ∧ x2 < (x1.length : Int) then
(S48 (x0.getD x2.toNat ((0 : Int), ((0 : Int), ([], ())))) (x1.getD x2.toNat ((0 : Int), ((0 : Int), ([], ()))))).bind fun r303 =>
k0 x0 x1 x2 (r303 != (0 : Int))
else none
else none
theorem t29_7 (S48) (h48 : (ctr48 S48).holds cl) (x0 x1 x2) : exec cl N c29_7 (e39 x0 x1 x2) K = (g29_7 S48 x0 x1 x2 (fun y0 y1 y2 y3 => K .normal (e80 y0 y1 y2 y3))) := by
  rw [← put_eq h48]
  kernel_rfl
def g29_8 (x0 x1 : V8) (x2 : Int) (x3 : Bool) (k0 : Bool → Option R) : Option R :=
k0 false
theorem t29_8 (x0 x1 x2 x3) : exec cl N c29_8 (e80 x0 x1 x2 x3) K = (g29_8 x0 x1 x2 x3 (fun y0 => K .normal [(4, .v .bool y0)])) := by
  kernel_rfl
theorem kp29_4 (x0) : keep [0, 1, 4, 5] [(4, .v .bool x0)] = (e81 x0) := by kernel_rfl
theorem kp29_5 (x0 x1 x2 x3) : keep [0, 1, 4, 5] (e80 x0 x1 x2 x3) = (e82 x0 x1 x2) := by kernel_rfl
theorem hb29_2 (x0 x1 x2 x3) : boolOf? (ent (e80 x0 x1 x2 x3) (.t 26)) = some x3 := by kernel_rfl
theorem kp29_6 (x0) : keep [0, 1, 4, 5] (e81 x0) = (e81 x0) := by kernel_rfl
theorem kp29_7 (x0 x1 x2) : keep [0, 1, 4, 5] (e82 x0 x1 x2) = (e82 x0 x1 x2) := by kernel_rfl
def g29_11 (x0 x1 : V8) (x2 : Int) (k0 : V8 → V8 → Int → Option R) : Option R :=
k0 x0 x1 (IntKind.i64.wrap (x2 + (1 : Int)))
theorem t29_11 (x0 x1 x2) : exec cl N c29_11 (e82 x0 x1 x2) K = (g29_11 x0 x1 x2 (fun y0 y1 y2 => K .normal (e39 y0 y1 y2))) := by
  kernel_rfl
def g29_12 (S48 : V6 → V6 → Option (Int)) (x0 x1 : V8) (x2 : Int) (k0 : Bool → Option R) (k1 : V8 → V8 → Int → Option R) (k2 : V8 → V8 → Int → Option R) : Option R :=
(g29_5 x0 x1 x2 (fun y0 y1 y2 y3 => brB y3 ((fun y0 y1 y2 => (g29_7 S48 y0 y1 y2 (fun y0 y1 y2 y3 => brB y3 (g29_8 y0 y1 y2 y3 (fun y0 => ((fun y0 => (k0 y0)) y0))) (g29_11 y0 y1 y2 k1)))) y0 y1 y2) (k2 y0 y1 y2)))
theorem t29_12 (S48) (h48 : (ctr48 S48).holds cl) (x0 x1 x2) : exec cl N c29_12 (e39 x0 x1 x2) K = (g29_12 S48 x0 x1 x2 (fun y0 => K .ret (e81 y0)) (fun y0 y1 y2 => K .normal (e39 y0 y1 y2)) (fun y0 y1 y2 => K (.exit 0) (e39 y0 y1 y2))) := by
  simp only [c29_12, exec_seq, seqK_normal, seqK_exit, seqK_ret, t29_5, c29_6, exec_out, exec_cond', hb29_1, Option.bind_some, brB_true, brB_false, exec_skip, exec_exit, kp29_3, c29_10, exec_block, t29_7 S48 h48, c29_9, hb29_2, t29_8, exec_ret, kp29_4, kp29_5, blockK_normal, blockK_ret, blockK_eq, kp29_6, kp29_7, t29_11]
  rfl
def l29_13 {R : Type} (S48 : V6 → V6 → Option (Int)) (k0 : Bool → Option R) (k1 : V8 → V8 → Int → Option R) : Nat → V8 → V8 → Int → Option R
  | 0, _, _, _ => none
  | m + 1, x0, x1, x2 => (g29_12 S48 x0 x1 x2 k0 (fun y0 y1 y2 => l29_13 S48 k0 k1 m y0 y1 y2) k1)
theorem lt29_13 (S48) (h48 : (ctr48 S48).holds cl) : ∀ (m) (x0 x1 x2), iter [0, 1, 5] (fun env K => exec cl N c29_12 env K) K m (e39 x0 x1 x2) = l29_13 S48 (fun y0 => K .ret (e81 y0)) (fun y0 y1 y2 => K (.exit 0) (e39 y0 y1 y2)) m x0 x1 x2 := by
  intro m
  induction m with
  | zero => intros; rfl
  | succ m ih =>
    intro x0 x1 x2
    simp only [iter_succ, t29_12 S48 h48, loopK_normal, loopK_exit, loopK_ret, kp29_2, ih]
    rfl
theorem kp29_8 (x0) : keep [4] (e81 x0) = [(4, .v .bool x0)] := by kernel_rfl
theorem kp29_9 (x0 x1 x2) : keep [4] (e39 x0 x1 x2) = [(4, .dead)] := by kernel_rfl
def g29_13 (N : Nat) (S48 : V6 → V6 → Option (Int)) (x0 x1 : V8) (x2 : Int) (k0 : Bool → Option R) (k1 : Option R) : Option R :=
l29_13 S48 (fun y0 => k0 y0) (fun y0 y1 y2 => k1) N x0 x1 x2
theorem t29_13 (S48) (h48 : (ctr48 S48).holds cl) (x0 x1 x2) : exec cl N c29_13 (e39 x0 x1 x2) K = (g29_13 N S48 x0 x1 x2 (fun y0 => K .ret [(4, .v .bool y0)]) (K (.exit 0) [(4, .dead)])) := by
  simp only [c29_13, exec_out, exec_loop, kp29_2, lt29_13 S48 h48, kp29_8, kp29_9]
  rfl
theorem kp29_10 (x0) : keep [4] [(4, .v .bool x0)] = [(4, .v .bool x0)] := by kernel_rfl
theorem kp29_11 : keep [4] [(4, .dead)] = [(4, .dead)] := by kernel_rfl
def g29_15 (k0 : Bool → Option R) : Option R :=
k0 true
theorem t29_15 : exec cl N c29_15 [(4, .dead)] K = (g29_15 (fun y0 => K .normal [(4, .v .bool y0)])) := by
  kernel_rfl
def g29_16 (N : Nat) (S48 : V6 → V6 → Option (Int)) (x0 x1 : V8) (k0 : Bool → Option R) (k1 : Bool → Option R) : Option R :=
(g29_0 x0 x1 (fun y0 y1 => (g29_1 y0 y1 (fun y0 y1 y2 => brB y2 (g29_2 y0 y1 y2 (fun y0 => ((fun y0 => (k0 y0)) y0))) ((fun y0 y1 => (g29_4 y0 y1 (fun y0 y1 y2 => (g29_13 N S48 y0 y1 y2 (fun y0 => (k1 y0)) (g29_15 (fun y0 => (k1 y0))))))) y0 y1)))))
theorem t29_16 (S48) (h48 : (ctr48 S48).holds cl) (x0 x1) : exec cl N c29_16 (e28 x0 x1) K = (g29_16 N S48 x0 x1 (fun y0 => K .ret (e78 y0)) (fun y0 => K .ret [(4, .v .bool y0)])) := by
  simp only [c29_16, exec_seq, seqK_normal, seqK_exit, seqK_ret, t29_0, t29_1, c29_3, exec_out, exec_cond', hb29_0, Option.bind_some, brB_true, brB_false, t29_2, exec_ret, exec_skip, kp29_0, kp29_1, t29_4, c29_14, exec_block, t29_13 S48 h48, blockK_normal, blockK_ret, blockK_eq, kp29_10, kp29_11, t29_15]
  rfl
theorem rk29_0 (y0) : retK d29 .ret (e78 y0) = some [.v .bool y0] := by kernel_rfl
theorem rk29_1 (y0) : retK d29 .ret [(4, .v .bool y0)] = some [.v .bool y0] := by kernel_rfl
def g29 (N : Nat) (S48 : V6 → V6 → Option (Int)) (x0 x1 : V8) (k : Bool → Option R) : Option R :=
(g29_16 N S48 x0 x1 (fun y0 => k y0) (fun y0 => k y0))
theorem gen29 {N : Nat} {cl : Cal} (S48 : V6 → V6 → Option (Int)) (h48 : (ctr48 S48).holds cl) (x0 : V8) (x1 : V8) {R : Type} (k : List E → Option R) : exec cl N c29 (params 0 [.v U17 x0, .v U17 x1]) (fun e env => (retK d29 e env).bind k) = g29 N S48 x0 x1 (fun (r0 : Bool) => k [.v .bool r0]) := by
  have e0 : params 0 [.v U17 x0, .v U17 x1] = (e28 x0 x1) := by kernel_rfl
  simp only [c29, e0, t29_16 S48 h48, rk29_0, rk29_1, Option.bind_some]
  rfl
def ctr29 (S : V8 → V8 → Option (Bool)) : Ctr := { A := V8 × V8 × Unit, B := Bool, f := 29, enc := fun a => [.v U17 a.1, .v U17 a.2.1], dec := (decC (decV U17) (decC (decV U17) dec0)), S := fun a => S a.1 a.2.1, ent := fun b => [.v .bool b], ok := (decV_cons (T := U17) (decV_cons (T := U17) (fun es b h => dec0_some h))) }
def S29 (N : Nat) (x0 : V8) (x1 : V8) : Option (Bool) := g29 N (S48 N) x0 x1 (fun (r0 : Bool) => some (r0))
def g30_0 (x0 : V10) (k0 : V10 → Option R) : Option R :=
k0 x0
theorem t30_0 (x0) : exec cl N c30_0 [(0, .v U20 x0)] K = (g30_0 x0 (fun y0 => K .normal [(0, .v U20 y0)])) := by
  kernel_rfl
def g30_1 (x0 : V10) (k0 : V10 → Int → Option R) : Option R :=
k0 x0 (0 : Int)
theorem t30_1 (x0) : exec cl N c30_1 [(0, .v U20 x0)] K = (g30_1 x0 (fun y0 y1 => K .normal (e83 y0 y1))) := by
  kernel_rfl
def g30_2 (x0 : V10) (x1 : Int) (k0 : V10 → Int → V10 → Int → Int → Option R) : Option R :=
k0 x0 x1 x0 (x0.length : Int) (0 : Int)
theorem t30_2 (x0 x1) : exec cl N c30_2 (e83 x0 x1) K = (g30_2 x0 x1 (fun y0 y1 y2 y3 y4 => K .normal (e84 y0 y1 y2 y3 y4))) := by
  kernel_rfl
theorem kp30_0 (x0 x1 x2 x3 x4) : keep [0, 3, 9, 10, 11] (e84 x0 x1 x2 x3 x4) = (e84 x0 x1 x2 x3 x4) := by kernel_rfl
def g30_3 (x0 : V10) (x1 : Int) (x2 : V10) (x3 x4 : Int) (k0 : V10 → Int → V10 → Int → Int → Bool → Option R) : Option R :=
k0 x0 x1 x2 x3 x4 (decide (x4 < x3))
theorem t30_3 (x0 x1 x2 x3 x4) : exec cl N c30_3 (e84 x0 x1 x2 x3 x4) K = (g30_3 x0 x1 x2 x3 x4 (fun y0 y1 y2 y3 y4 y5 => K .normal (e85 y0 y1 y2 y3 y4 y5))) := by
  kernel_rfl
theorem kp30_1 (x0 x1 x2 x3 x4 x5) : keep [0, 3, 9, 10, 11] (e85 x0 x1 x2 x3 x4 x5) = (e84 x0 x1 x2 x3 x4) := by kernel_rfl
theorem hb30_0 (x0 x1 x2 x3 x4 x5) : boolOf? (ent (e85 x0 x1 x2 x3 x4 x5) (.t 12)) = some x5 := by kernel_rfl
def g30_5 (x0 : V10) (x1 : Int) (x2 : V10) (x3 x4 : Int) (k0 : V10 → Int → V8 → V10 → Int → Int → Option R) : Option R :=
if 0 ≤ x4 ∧ x4 < (x2.length : Int) then
k0 x0 x1 (x2.getD x4.toNat []) x2 x3 x4
else none
theorem t30_5 (x0 x1 x2 x3 x4) : exec cl N c30_5 (e84 x0 x1 x2 x3 x4) K = (g30_5 x0 x1 x2 x3 x4 (fun y0 y1 y2 y3 y4 y5 => K .normal [(0, .v U20 y0), (3, .v U2 y1), (5, .v U17 y2), (9, .v U20 y3), (10, .v U2 y4), (11, .v U2 y5)])) := by
  kernel_rfl
def g30_6 (x0 : V10) (x1 : Int) (x2 : V8) (x3 : V10) (x4 x5 : Int) (k0 : V10 → Int → V10 → Int → Int → Option R) : Option R :=
k0 x0 (IntKind.i64.wrap (x1 + (x2.length : Int))) x3 x4 x5
theorem t30_6 (x0 x1 x2 x3 x4 x5) : exec cl N c30_6 [(0, .v U20 x0), (3, .v U2 x1), (5, .v U17 x2), (9, .v U20 x3), (10, .v U2 x4), (11, .v U2 x5)] K = (g30_6 x0 x1 x2 x3 x4 x5 (fun y0 y1 y2 y3 y4 => K .normal (e84 y0 y1 y2 y3 y4))) := by
  kernel_rfl
def g30_7 (x0 : V10) (x1 : Int) (x2 : V10) (x3 x4 : Int) (k0 : V10 → Int → V10 → Int → Int → Bool → Option R) : Option R :=
k0 x0 x1 x2 x3 x4 (decide (x1 < (0 : Int)))
theorem t30_7 (x0 x1 x2 x3 x4) : exec cl N c30_7 (e84 x0 x1 x2 x3 x4) K = (g30_7 x0 x1 x2 x3 x4 (fun y0 y1 y2 y3 y4 y5 => K .normal (e86 y0 y1 y2 y3 y4 y5))) := by
  kernel_rfl
def g30_8 (x0 : V10) (x1 : Int) (x2 : V10) (x3 x4 : Int) (x5 : Bool) : Option R :=
none /- operation makeInterface -/
theorem t30_8 (x0 x1 x2 x3 x4 x5) : exec cl N c30_8 (e86 x0 x1 x2 x3 x4 x5) K = (g30_8 x0 x1 x2 x3 x4 x5) := by
  kernel_rfl
theorem kp30_2 (x0 x1 x2 x3 x4 x5) : keep [0, 3, 9, 10, 11] (e86 x0 x1 x2 x3 x4 x5) = (e84 x0 x1 x2 x3 x4) := by kernel_rfl
theorem hb30_1 (x0 x1 x2 x3 x4 x5) : boolOf? (ent (e86 x0 x1 x2 x3 x4 x5) (.t 20)) = some x5 := by kernel_rfl
def g30_11 (x0 : V10) (x1 : Int) (x2 : V10) (x3 x4 : Int) (k0 : V10 → Int → V10 → Int → Int → Option R) : Option R :=
k0 x0 x1 x2 x3 (IntKind.i64.wrap (x4 + (1 : Int)))
theorem t30_11 (x0 x1 x2 x3 x4) : exec cl N c30_11 (e84 x0 x1 x2 x3 x4) K = (g30_11 x0 x1 x2 x3 x4 (fun y0 y1 y2 y3 y4 => K .normal (e84 y0 y1 y2 y3 y4))) := by
  kernel_rfl
def g30_12 (x0 : V10) (x1 : Int) (x2 : V10) (x3 x4 : Int) (k0 : V10 → Int → V10 → Int → Int → Option R) (k1 : V10 → Int → V10 → Int → Int → Option R) : Option R :=
(g30_3 x0 x1 x2 x3 x4 (fun y0 y1 y2 y3 y4 y5 => brB y5 ((fun y0 y1 y2 y3 y4 => (g30_5 y0 y1 y2 y3 y4 (fun y0 y1 y2 y3 y4 y5 => (g30_6 y0 y1 y2 y3 y4 y5 (fun y0 y1 y2 y3 y4 => (g30_7 y0 y1 y2 y3 y4 (fun y0 y1 y2 y3 y4 y5 => brB y5 (g30_8 y0 y1 y2 y3 y4 y5) (g30_11 y0 y1 y2 y3 y4 k0)))))))) y0 y1 y2 y3 y4) (k1 y0 y1 y2 y3 y4)))
theorem t30_12 (x0 x1 x2 x3 x4) : exec cl N c30_12 (e84 x0 x1 x2 x3 x4) K = (g30_12 x0 x1 x2 x3 x4 (fun y0 y1 y2 y3 y4 => K .normal (e84 y0 y1 y2 y3 y4)) (fun y0 y1 y2 y3 y4 => K (.exit 0) (e84 y0 y1 y2 y3 y4))) := by
  simp only [c30_12, exec_seq, seqK_normal, seqK_exit, seqK_ret, t30_3, c30_4, exec_out, exec_cond', hb30_0, Option.bind_some, brB_true, brB_false, exec_skip, exec_exit, kp30_1, c30_10, exec_block, t30_5, t30_6, t30_7, c30_9, hb30_1, t30_8, kp30_2, blockK_normal, blockK_ret, blockK_eq, kp30_0, t30_11]
  rfl
def l30_13 {R : Type} (k0 : V10 → Int → V10 → Int → Int → Option R) : Nat → V10 → Int → V10 → Int → Int → Option R
  | 0, _, _, _, _, _ => none
  | m + 1, x0, x1, x2, x3, x4 => (g30_12 x0 x1 x2 x3 x4 (fun y0 y1 y2 y3 y4 => l30_13 k0 m y0 y1 y2 y3 y4) k0)
theorem lt30_13 : ∀ (m) (x0 x1 x2 x3 x4), iter [0, 3, 9, 10, 11] (fun env K => exec cl N c30_12 env K) K m (e84 x0 x1 x2 x3 x4) = l30_13 (fun y0 y1 y2 y3 y4 => K (.exit 0) (e84 y0 y1 y2 y3 y4)) m x0 x1 x2 x3 x4 := by
  intro m
  induction m with
  | zero => intros; rfl
  | succ m ih =>
    intro x0 x1 x2 x3 x4
    simp only [iter_succ, t30_12, loopK_normal, loopK_exit, loopK_ret, kp30_0, ih]
    rfl
theorem kp30_3 (x0 x1 x2 x3 x4) : keep [0, 3] (e84 x0 x1 x2 x3 x4) = (e83 x0 x1) := by kernel_rfl
def g30_13 (N : Nat) (x0 : V10) (x1 : Int) (x2 : V10) (x3 x4 : Int) (k0 : V10 → Int → Option R) : Option R :=
l30_13 (fun y0 y1 y2 y3 y4 => k0 y0 y1) N x0 x1 x2 x3 x4
theorem t30_13 (x0 x1 x2 x3 x4) : exec cl N c30_13 (e84 x0 x1 x2 x3 x4) K = (g30_13 N x0 x1 x2 x3 x4 (fun y0 y1 => K (.exit 0) (e83 y0 y1))) := by
  simp only [c30_13, exec_out, exec_loop, kp30_0, lt30_13, kp30_3]
  rfl
theorem kp30_4 (x0 x1) : keep [0, 3] (e83 x0 x1) = (e83 x0 x1) := by kernel_rfl
def g30_15 (S49 : Int → Option V9) (x0 : V10) (x1 : Int) (k0 : V10 → V8 → Option R) : Option R :=
(S49 x1).bind fun r324 =>
k0 x0 r324
theorem t30_15 (S49) (h49 : (ctr49 S49).holds cl) (x0 x1) : exec cl N c30_15 (e83 x0 x1) K = (g30_15 S49 x0 x1 (fun y0 y1 => K .normal [(0, .v U20 y0), (6, .own true 55 U15 .no y1)])) := by
  rw [← put_eq h49]
  kernel_rfl
def g30_16 (x0 : V10) (x1 : V8) (k0 : V8 → V10 → Int → Int → Option R) : Option R :=
k0 x1 x0 (x0.length : Int) (0 : Int)
theorem t30_16 (x0 x1) : exec cl N c30_16 [(0, .v U20 x0), (6, .own true 55 U15 .no x1)] K = (g30_16 x0 x1 (fun y0 y1 y2 y3 => K .normal (e87 y0 y1 y2 y3))) := by
  kernel_rfl
theorem kp30_5 (x0 x1 x2 x3) : keep [6, 25, 26, 27] (e87 x0 x1 x2 x3) = (e87 x0 x1 x2 x3) := by kernel_rfl
def g30_17 (x0 : V8) (x1 : V10) (x2 x3 : Int) (k0 : V8 → V10 → Int → Int → Bool → Option R) : Option R :=
k0 x0 x1 x2 x3 (decide (x3 < x2))
theorem t30_17 (x0 x1 x2 x3) : exec cl N c30_17 (e87 x0 x1 x2 x3) K = (g30_17 x0 x1 x2 x3 (fun y0 y1 y2 y3 y4 => K .normal (e88 y0 y1 y2 y3 y4))) := by
  kernel_rfl
theorem kp30_6 (x0 x1 x2 x3 x4) : keep [6, 25, 26, 27] (e88 x0 x1 x2 x3 x4) = (e87 x0 x1 x2 x3) := by kernel_rfl
theorem hb30_2 (x0 x1 x2 x3 x4) : boolOf? (ent (e88 x0 x1 x2 x3 x4) (.t 28)) = some x4 := by kernel_rfl
def g30_19 (x0 : V8) (x1 : V10) (x2 x3 : Int) (k0 : V8 → V8 → V10 → Int → Int → Option R) : Option R :=
if 0 ≤ x3 ∧ x3 < (x1.length : Int) then
k0 x0 (x1.getD x3.toNat []) x1 x2 x3
else none
theorem t30_19 (x0 x1 x2 x3) : exec cl N c30_19 (e87 x0 x1 x2 x3) K = (g30_19 x0 x1 x2 x3 (fun y0 y1 y2 y3 y4 => K .normal (e89 y0 y1 y2 y3 y4))) := by
  kernel_rfl
def g30_20 (x0 x1 : V8) (x2 : V10) (x3 x4 : Int) (k0 : V8 → V10 → Int → Int → Option R) : Option R :=
if x0.length + x1.length ≤ 4398046511104 then
k0 (x0 ++ x1) x2 x3 x4
else none
theorem t30_20 (x0 x1 x2 x3 x4) : exec cl N c30_20 (e89 x0 x1 x2 x3 x4) K = (g30_20 x0 x1 x2 x3 x4 (fun y0 y1 y2 y3 => K .normal (e87 y0 y1 y2 y3))) := by
  kernel_rfl
def g30_22 (x0 : V8) (x1 : V10) (x2 x3 : Int) (k0 : V8 → V10 → Int → Int → Option R) : Option R :=
k0 x0 x1 x2 (IntKind.i64.wrap (x3 + (1 : Int)))
theorem t30_22 (x0 x1 x2 x3) : exec cl N c30_22 (e87 x0 x1 x2 x3) K = (g30_22 x0 x1 x2 x3 (fun y0 y1 y2 y3 => K .normal (e87 y0 y1 y2 y3))) := by
  kernel_rfl
def g30_23 (x0 : V8) (x1 : V10) (x2 x3 : Int) (k0 : V8 → V10 → Int → Int → Option R) (k1 : V8 → V10 → Int → Int → Option R) : Option R :=
(g30_17 x0 x1 x2 x3 (fun y0 y1 y2 y3 y4 => brB y4 ((fun y0 y1 y2 y3 => (g30_19 y0 y1 y2 y3 (fun y0 y1 y2 y3 y4 => (g30_20 y0 y1 y2 y3 y4 (fun y0 y1 y2 y3 => (g30_22 y0 y1 y2 y3 k0)))))) y0 y1 y2 y3) (k1 y0 y1 y2 y3)))
theorem t30_23 (x0 x1 x2 x3) : exec cl N c30_23 (e87 x0 x1 x2 x3) K = (g30_23 x0 x1 x2 x3 (fun y0 y1 y2 y3 => K .normal (e87 y0 y1 y2 y3)) (fun y0 y1 y2 y3 => K (.exit 2) (e87 y0 y1 y2 y3))) := by
  simp only [c30_23, exec_seq, seqK_normal, seqK_exit, seqK_ret, t30_17, c30_18, exec_out, exec_cond', hb30_2, Option.bind_some, brB_true, brB_false, exec_skip, exec_exit, kp30_6, c30_21, exec_block, t30_19, t30_20, blockK_normal, blockK_ret, blockK_eq, kp30_5, t30_22]
  rfl
def l30_24 {R : Type} (k0 : V8 → V10 → Int → Int → Option R) : Nat → V8 → V10 → Int → Int → Option R
  | 0, _, _, _, _ => none
  | m + 1, x0, x1, x2, x3 => (g30_23 x0 x1 x2 x3 (fun y0 y1 y2 y3 => l30_24 k0 m y0 y1 y2 y3) k0)
theorem lt30_24 : ∀ (m) (x0 x1 x2 x3), iter [6, 25, 26, 27] (fun env K => exec cl N c30_23 env K) K m (e87 x0 x1 x2 x3) = l30_24 (fun y0 y1 y2 y3 => K (.exit 2) (e87 y0 y1 y2 y3)) m x0 x1 x2 x3 := by
  intro m
  induction m with
  | zero => intros; rfl
  | succ m ih =>
    intro x0 x1 x2 x3
    simp only [iter_succ, t30_23, loopK_normal, loopK_exit, loopK_ret, kp30_5, ih]
    rfl
theorem kp30_7 (x0 x1 x2 x3) : keep [6] (e87 x0 x1 x2 x3) = (e90 x0) := by kernel_rfl
def g30_24 (N : Nat) (x0 : V8) (x1 : V10) (x2 x3 : Int) (k0 : V8 → Option R) : Option R :=
l30_24 (fun y0 y1 y2 y3 => k0 y0) N x0 x1 x2 x3
theorem t30_24 (x0 x1 x2 x3) : exec cl N c30_24 (e87 x0 x1 x2 x3) K = (g30_24 N x0 x1 x2 x3 (fun y0 => K (.exit 2) (e90 y0))) := by
  simp only [c30_24, exec_out, exec_loop, kp30_5, lt30_24, kp30_7]
  rfl
theorem kp30_8 (x0) : keep [6] (e90 x0) = (e90 x0) := by kernel_rfl
def g30_26 (x0 : V8) (k0 : V8 → Option R) : Option R :=
k0 x0
theorem t30_26 (x0) : exec cl N c30_26 (e90 x0) K = (g30_26 x0 (fun y0 => K .normal (e91 y0))) := by
  kernel_rfl
def g30_27 (N : Nat) (S49 : Int → Option V9) (x0 : V10) (k0 : V8 → Option R) : Option R :=
(g30_0 x0 (fun y0 => (g30_1 y0 (fun y0 y1 => (g30_2 y0 y1 (fun y0 y1 y2 y3 y4 => (g30_13 N y0 y1 y2 y3 y4 (fun y0 y1 => ((fun y0 y1 => (g30_15 S49 y0 y1 (fun y0 y1 => (g30_16 y0 y1 (fun y0 y1 y2 y3 => (g30_24 N y0 y1 y2 y3 (fun y0 => ((fun y0 => (g30_26 y0 (fun y0 => (k0 y0)))) y0)))))))) y0 y1)))))))))
theorem t30_27 (S49) (h49 : (ctr49 S49).holds cl) (x0) : exec cl N c30_27 [(0, .v U20 x0)] K = (g30_27 N S49 x0 (fun y0 => K .ret (e91 y0))) := by
  simp only [c30_27, exec_seq, seqK_normal, seqK_exit, seqK_ret, t30_0, t30_1, t30_2, c30_14, exec_out, exec_block, t30_13, blockK_normal, blockK_ret, blockK_eq, kp30_4, t30_15 S49 h49, t30_16, c30_25, t30_24, kp30_8, t30_26, exec_ret]
  rfl
theorem rk30_0 (y0) : retK d30 .ret (e91 y0) = some [.own true 55 U15 .no y0] := by kernel_rfl
def g30 (N : Nat) (S49 : Int → Option V9) (x0 : V10) (k : V8 → Option R) : Option R :=
(g30_27 N S49 x0 (fun y0 => k y0))
theorem gen30 {N : Nat} {cl : Cal} (S49 : Int → Option V9) (h49 : (ctr49 S49).holds cl) (x0 : V10) {R : Type} (k : List E → Option R) : exec cl N c30 (params 0 [.v U20 x0]) (fun e env => (retK d30 e env).bind k) = g30 N S49 x0 (fun (r0 : V8) => k [.own true 55 U15 .no r0]) := by
  have e0 : params 0 [.v U20 x0] = [(0, .v U20 x0)] := by kernel_rfl
  simp only [c30, e0, t30_27 S49 h49, rk30_0, Option.bind_some]
  rfl
def ctr30 (S : V10 → Option V9) : Ctr := { A := V10 × Unit, B := V8, f := 30, enc := fun a => [.v U20 a.1], dec := (decC (decV U20) dec0), S := fun a => S a.1, ent := fun b => [.own true 55 U15 .no b], ok := (decV_cons (T := U20) (fun es b h => dec0_some h)) }
def S30 (N : Nat) (x0 : V10) : Option V9 := g30 N (S49 N) x0 (fun (r0 : V8) => some (r0))
def g7_0 (x0 x1 : V0) (x2 : Int) (k0 : V0 → V0 → Int → Option R) : Option R :=
k0 x0 x1 x2
theorem t7_0 (x0 x1 x2) : exec cl N c7_0 (e92 x0 x1 x2) K = (g7_0 x0 x1 x2 (fun y0 y1 y2 => K .normal (e92 y0 y1 y2))) := by
  kernel_rfl
def g7_1 (S8 : Option (Bool)) (x0 x1 : V0) (x2 : Int) (k0 : V0 → V0 → Int → Bool → Option R) : Option R :=
(S8).bind fun r330 =>
brB (!r330) (k0 x0 x1 x2 true) (brB (decide ((x0.length : Int) > (60 : Int))) (k0 x0 x1 x2 true) (k0 x0 x1 x2 (decide ((x1.length : Int) > (60 : Int)))))
theorem t7_1 (S8) (h8 : (ctr8 S8).holds cl) (x0 x1 x2) : exec cl N c7_1 (e92 x0 x1 x2) K = (g7_1 S8 x0 x1 x2 (fun y0 y1 y2 y3 => K .normal (e93 y0 y1 y2 y3))) := by
  rw [← put_eq h8]
  kernel_rfl
def g7_2 (S8 : Option (Bool)) (x0 x1 : V0) (x2 : Int) (x3 : Bool) (k0 : Bool → Option R) : Option R :=
(S8).bind fun r333 =>
k0 r333
theorem t7_2 (S8) (h8 : (ctr8 S8).holds cl) (x0 x1 x2 x3) : exec cl N c7_2 (e93 x0 x1 x2 x3) K = (g7_2 S8 x0 x1 x2 x3 (fun y0 => K .normal [(6, .v .bool y0)])) := by
  rw [← put_eq h8]
  kernel_rfl
theorem kp7_0 (x0) : keep [0, 1, 2, 6] [(6, .v .bool x0)] = (e94 x0) := by kernel_rfl
theorem kp7_1 (x0 x1 x2 x3) : keep [0, 1, 2, 6] (e93 x0 x1 x2 x3) = [(0, .v U4 x0), (1, .v U4 x1), (2, .v U0 x2), (6, .dead)] := by kernel_rfl
theorem hb7_0 (x0 x1 x2 x3) : boolOf? (ent (e93 x0 x1 x2 x3) (.t 26)) = some x3 := by kernel_rfl
def g7_4 (S10 : V0 → Option V9) (x0 x1 : V0) (x2 : Int) (k0 : Int → V8 → V8 → Option R) : Option R :=
(S10 x0).bind fun r334 =>
(S10 x1).bind fun r335 =>
k0 x2 r334 r335
theorem t7_4 (S10) (h10 : (ctr10 S10).holds cl) (x0 x1 x2) : exec cl N c7_4 [(0, .v U4 x0), (1, .v U4 x1), (2, .v U0 x2), (6, .dead)] K = (g7_4 S10 x0 x1 x2 (fun y0 y1 y2 => K .normal (e95 y0 y1 y2))) := by
  rw [← put_eq h10]
  kernel_rfl
def g7_5 (S16 : V8 → V8 → Int → Option V13) (x0 : Int) (x1 x2 : V8) (k0 : Int → V8 → V8 → V8 → V8 → Int → Option R) : Option R :=
(S16 x1 x2 (IntKind.i64.wrap (Int.tmod x0 (5 : Int)))).bind fun r338 =>
k0 x0 x1 x2 r338.1 r338.2.1 r338.2.2
theorem t7_5 (S16) (h16 : (ctr16 S16).holds cl) (x0 x1 x2) : exec cl N c7_5 (e95 x0 x1 x2) K = (g7_5 S16 x0 x1 x2 (fun y0 y1 y2 y3 y4 y5 => K .normal (e96 y0 y1 y2 y3 y4 y5))) := by
  rw [← put_eq h16]
  kernel_rfl
def g7_6 (S28 : V8 → V8 → Int → Option V11) (x0 : Int) (x1 x2 x3 x4 : V8) (x5 : Int) (k0 : Int → V8 → V8 → V8 → V8 → Int → V8 → Int → Option R) : Option R :=
(S28 x1 x2 (IntKind.i64.wrap (Int.tmod x0 (5 : Int)))).bind fun r341 =>
k0 x0 x1 x2 x3 x4 x5 r341.1 r341.2
theorem t7_6 (S28) (h28 : (ctr28 S28).holds cl) (x0 x1 x2 x3 x4 x5) : exec cl N c7_6 (e96 x0 x1 x2 x3 x4 x5) K = (g7_6 S28 x0 x1 x2 x3 x4 x5 (fun y0 y1 y2 y3 y4 y5 y6 y7 => K .normal (e97 y0 y1 y2 y3 y4 y5 y6 y7))) := by
  rw [← put_eq h28]
  kernel_rfl
def g7_7 (x0 : Int) (x1 x2 x3 x4 : V8) (x5 : Int) (x6 : V8) (x7 : Int) (k0 : Int → V8 → V8 → V8 → V8 → Int → V8 → Int → Bool → Option R) : Option R :=
brB (x5 != (0 : Int)) (k0 x0 x1 x2 x3 x4 x5 x6 x7 true) (k0 x0 x1 x2 x3 x4 x5 x6 x7 (x7 != (0 : Int)))
theorem t7_7 (x0 x1 x2 x3 x4 x5 x6 x7) : exec cl N c7_7 (e97 x0 x1 x2 x3 x4 x5 x6 x7) K = (g7_7 x0 x1 x2 x3 x4 x5 x6 x7 (fun y0 y1 y2 y3 y4 y5 y6 y7 y8 => K .normal (e98 y0 y1 y2 y3 y4 y5 y6 y7 y8))) := by
  kernel_rfl
def g7_8 (x0 : Int) (x1 x2 x3 x4 : V8) (x5 : Int) (x6 : V8) (x7 : Int) (x8 : Bool) (k0 : Bool → Option R) : Option R :=
brB (x5 == (8 : Int)) (k0 (x7 == (8 : Int))) (k0 false)
theorem t7_8 (x0 x1 x2 x3 x4 x5 x6 x7 x8) : exec cl N c7_8 (e98 x0 x1 x2 x3 x4 x5 x6 x7 x8) K = (g7_8 x0 x1 x2 x3 x4 x5 x6 x7 x8 (fun y0 => K .normal [(6, .v .bool y0)])) := by
  kernel_rfl
theorem kp7_2 (x0) : keep [2, 6, 7, 8, 9, 10, 12] [(6, .v .bool x0)] = (e99 x0) := by kernel_rfl
theorem kp7_3 (x0 x1 x2 x3 x4 x5 x6 x7 x8) : keep [2, 6, 7, 8, 9, 10, 12] (e98 x0 x1 x2 x3 x4 x5 x6 x7 x8) = (e100 x0 x1 x2 x3 x4 x6) := by kernel_rfl
theorem hb7_1 (x0 x1 x2 x3 x4 x5 x6 x7 x8) : boolOf? (ent (e98 x0 x1 x2 x3 x4 x5 x6 x7 x8) (.t 56)) = some x8 := by kernel_rfl
def g7_10 (x0 : Int) (x1 x2 x3 x4 x5 : V8) (k0 : V8 → V8 → V8 → V8 → V8 → Bool → Option R) : Option R :=
k0 x1 x2 x3 x4 x5 ((IntKind.i64.wrap (Int.tmod x0 (5 : Int))) == (4 : Int))
theorem t7_10 (x0 x1 x2 x3 x4 x5) : exec cl N c7_10 (e100 x0 x1 x2 x3 x4 x5) K = (g7_10 x0 x1 x2 x3 x4 x5 (fun y0 y1 y2 y3 y4 y5 => K .normal (e101 y0 y1 y2 y3 y4 y5))) := by
  kernel_rfl
def g7_11 (x0 x1 x2 x3 x4 : V8) (x5 : Bool) (k0 : V8 → V8 → V8 → V8 → V8 → Int → Option R) : Option R :=
k0 x0 x1 x2 x3 x4 (IntKind.i64.wrap ((x0.length : Int) - (1 : Int)))
theorem t7_11 (x0 x1 x2 x3 x4 x5) : exec cl N c7_11 (e101 x0 x1 x2 x3 x4 x5) K = (g7_11 x0 x1 x2 x3 x4 x5 (fun y0 y1 y2 y3 y4 y5 => K .normal (e102 y0 y1 y2 y3 y4 y5))) := by
  kernel_rfl
def g7_12 (S29 : V8 → V8 → Option (Bool)) (x0 x1 x2 x3 x4 : V8) (x5 : Int) (k0 : Bool → Option R) : Option R :=
brB (decide (x5 ≥ (0 : Int))) (brB ((x2.length : Int) == (IntKind.i64.wrap (x5 + (1 : Int)))) (if 0 ≤ (0 : Int) ∧ (0 : Int) ≤ x5 ∧ x5 ≤ (x2.length : Int) ∧ (x2.length : Int) ≤ (x2.length : Int) then
if 0 ≤ (0 : Int) ∧ (0 : Int) ≤ x5 ∧ x5 ≤ (x0.length : Int) ∧ (x0.length : Int) ≤ (x0.length : Int) then
(S29 ((x2.drop (0 : Int).toNat).take (x5.toNat - (0 : Int).toNat)) ((x0.drop (0 : Int).toNat).take (x5.toNat - (0 : Int).toNat))).bind fun r355 =>
brB r355 (if 0 ≤ x5 ∧ x5 < (x2.length : Int) then
if 0 ≤ x5 ∧ x5 < (x0.length : Int) then
if x5.toNat < x0.length then
brB ((x2.getD x5.toNat ((0 : Int), ((0 : Int), ([], ())))).2.2.1 == ((x0.getD x5.toNat ((0 : Int), ((0 : Int), ([], ())))).2.2.1)) (if 0 ≤ x5 ∧ x5 < (x2.length : Int) then
brB ((x2.getD x5.toNat ((0 : Int), ((0 : Int), ([], ())))).1 == (1 : Int)) (if 0 ≤ x5 ∧ x5 < (x2.length : Int) then
brB ((x2.getD x5.toNat ((0 : Int), ((0 : Int), ([], ())))).2.1 == (1 : Int)) ((S29 x3 x1).bind fun r360 =>
brB r360 (k0 ((x4.length : Int) == (0 : Int))) (k0 false)) (k0 false)
else none) (k0 false)
else none) (k0 false)
else none
else none
else none) (k0 false)
else none
else none) (k0 false)) (k0 false)
theorem t7_12 (S29) (h29 : (ctr29 S29).holds cl) (x0 x1 x2 x3 x4 x5) : exec cl N c7_12 (e102 x0 x1 x2 x3 x4 x5) K = (g7_12 S29 x0 x1 x2 x3 x4 x5 (fun y0 => K .normal [(6, .v .bool y0)])) := by
  rw [← put_eq h29]
  kernel_rfl
theorem kp7_4 (x0) : keep [6, 7, 8, 9, 10, 12] [(6, .v .bool x0)] = (e103 x0) := by kernel_rfl
theorem kp7_5 (x0 x1 x2 x3 x4 x5) : keep [6, 7, 8, 9, 10, 12] (e101 x0 x1 x2 x3 x4 x5) = (e104 x0 x1 x2 x3 x4) := by kernel_rfl
theorem hb7_2 (x0 x1 x2 x3 x4 x5) : boolOf? (ent (e101 x0 x1 x2 x3 x4 x5) (.t 66)) = some x5 := by kernel_rfl
def g7_14 (S29 : V8 → V8 → Option (Bool)) (S30 : V10 → Option V9) (x0 x1 x2 x3 x4 : V8) (k0 : Bool → Option R) : Option R :=
(S30 [x2, x4, x3]).bind fun r362 =>
(S30 [x0, x1]).bind fun r363 =>
(S29 r362 r363).bind fun r364 =>
k0 r364
theorem t7_14 (S29) (S30) (h29 : (ctr29 S29).holds cl) (h30 : (ctr30 S30).holds cl) (x0 x1 x2 x3 x4) : exec cl N c7_14 (e104 x0 x1 x2 x3 x4) K = (g7_14 S29 S30 x0 x1 x2 x3 x4 (fun y0 => K .normal [(6, .v .bool y0)])) := by
  rw [← put_eq h29]
  rw [← put_eq h30]
  kernel_rfl
def g7_15 (S8 : Option (Bool)) (S10 : V0 → Option V9) (S16 : V8 → V8 → Int → Option V13) (S28 : V8 → V8 → Int → Option V11) (S29 : V8 → V8 → Option (Bool)) (S30 : V10 → Option V9) (x0 x1 : V0) (x2 : Int) (k0 : Bool → Option R) (k1 : Bool → Option R) (k2 : Bool → Option R) (k3 : Bool → Option R) : Option R :=
(g7_0 x0 x1 x2 (fun y0 y1 y2 => (g7_1 S8 y0 y1 y2 (fun y0 y1 y2 y3 => brB y3 (g7_2 S8 y0 y1 y2 y3 (fun y0 => ((fun y0 => (k0 y0)) y0))) ((fun y0 y1 y2 => (g7_4 S10 y0 y1 y2 (fun y0 y1 y2 => (g7_5 S16 y0 y1 y2 (fun y0 y1 y2 y3 y4 y5 => (g7_6 S28 y0 y1 y2 y3 y4 y5 (fun y0 y1 y2 y3 y4 y5 y6 y7 => (g7_7 y0 y1 y2 y3 y4 y5 y6 y7 (fun y0 y1 y2 y3 y4 y5 y6 y7 y8 => brB y8 (g7_8 y0 y1 y2 y3 y4 y5 y6 y7 y8 (fun y0 => ((fun y0 => (k1 y0)) y0))) ((fun y0 y1 y2 y3 y4 y5 => (g7_10 y0 y1 y2 y3 y4 y5 (fun y0 y1 y2 y3 y4 y5 => brB y5 (g7_11 y0 y1 y2 y3 y4 y5 (fun y0 y1 y2 y3 y4 y5 => (g7_12 S29 y0 y1 y2 y3 y4 y5 (fun y0 => ((fun y0 => (k2 y0)) y0))))) ((fun y0 y1 y2 y3 y4 => (g7_14 S29 S30 y0 y1 y2 y3 y4 (fun y0 => (k3 y0)))) y0 y1 y2 y3 y4)))) y0 y1 y2 y3 y4 y6)))))))))) y0 y1 y2)))))
theorem t7_15 (S8) (S10) (S16) (S28) (S29) (S30) (h8 : (ctr8 S8).holds cl) (h10 : (ctr10 S10).holds cl) (h16 : (ctr16 S16).holds cl) (h28 : (ctr28 S28).holds cl) (h29 : (ctr29 S29).holds cl) (h30 : (ctr30 S30).holds cl) (x0 x1 x2) : exec cl N c7_15 (e92 x0 x1 x2) K = (g7_15 S8 S10 S16 S28 S29 S30 x0 x1 x2 (fun y0 => K .ret (e94 y0)) (fun y0 => K .ret (e99 y0)) (fun y0 => K .ret (e103 y0)) (fun y0 => K .ret [(6, .v .bool y0)])) := by
  simp only [c7_15, exec_seq, seqK_normal, seqK_exit, seqK_ret, t7_0, t7_1 S8 h8, c7_3, exec_out, exec_cond', hb7_0, Option.bind_some, brB_true, brB_false, t7_2 S8 h8, exec_ret, exec_skip, kp7_0, kp7_1, t7_4 S10 h10, t7_5 S16 h16, t7_6 S28 h28, t7_7, c7_9, hb7_1, t7_8, kp7_2, kp7_3, t7_10, c7_13, hb7_2, t7_11, t7_12 S29 h29, kp7_4, kp7_5, t7_14 S29 S30 h29 h30]
  rfl
theorem rk7_0 (y0) : retK d7 .ret (e94 y0) = some [.v .bool y0] := by kernel_rfl
theorem rk7_1 (y0) : retK d7 .ret (e99 y0) = some [.v .bool y0] := by kernel_rfl
theorem rk7_2 (y0) : retK d7 .ret (e103 y0) = some [.v .bool y0] := by kernel_rfl
theorem rk7_3 (y0) : retK d7 .ret [(6, .v .bool y0)] = some [.v .bool y0] := by kernel_rfl
def g7 (S8 : Option (Bool)) (S10 : V0 → Option V9) (S16 : V8 → V8 → Int → Option V13) (S28 : V8 → V8 → Int → Option V11) (S29 : V8 → V8 → Option (Bool)) (S30 : V10 → Option V9) (x0 x1 : V0) (x2 : Int) (k : Bool → Option R) : Option R :=
(g7_15 S8 S10 S16 S28 S29 S30 x0 x1 x2 (fun y0 => k y0) (fun y0 => k y0) (fun y0 => k y0) (fun y0 => k y0))
theorem gen7 {N : Nat} {cl : Cal} (S8 : Option (Bool)) (S10 : V0 → Option V9) (S16 : V8 → V8 → Int → Option V13) (S28 : V8 → V8 → Int → Option V11) (S29 : V8 → V8 → Option (Bool)) (S30 : V10 → Option V9) (h8 : (ctr8 S8).holds cl) (h10 : (ctr10 S10).holds cl) (h16 : (ctr16 S16).holds cl) (h28 : (ctr28 S28).holds cl) (h29 : (ctr29 S29).holds cl) (h30 : (ctr30 S30).holds cl) (x0 : V0) (x1 : V0) (x2 : Int) {R : Type} (k : List E → Option R) : exec cl N c7 (params 0 [.v U4 x0, .v U4 x1, .v U0 x2]) (fun e env => (retK d7 e env).bind k) = g7 S8 S10 S16 S28 S29 S30 x0 x1 x2 (fun (r0 : Bool) => k [.v .bool r0]) := by
  have e0 : params 0 [.v U4 x0, .v U4 x1, .v U0 x2] = (e92 x0 x1 x2) := by kernel_rfl
  simp only [c7, e0, t7_15 S8 S10 S16 S28 S29 S30 h8 h10 h16 h28 h29 h30, rk7_0, rk7_1, rk7_2, rk7_3, Option.bind_some]
  rfl
def ctr7 (S : V0 → V0 → Int → Option (Bool)) : Ctr := { A := V0 × V0 × Int × Unit, B := Bool, f := 7, enc := fun a => [.v U4 a.1, .v U4 a.2.1, .v U0 a.2.2.1], dec := (decC (decV U4) (decC (decV U4) (decC (decV U0) dec0))), S := fun a => S a.1 a.2.1 a.2.2.1, ent := fun b => [.v .bool b], ok := (decV_cons (T := U4) (decV_cons (T := U4) (decV_cons (T := U0) (fun es b h => dec0_some h)))) }
def S7 (N : Nat) (x0 : V0) (x1 : V0) (x2 : Int) : Option (Bool) := g7 (S8 N) (S10 N) (S16 N) (S28 N) (S29 N) (S30 N) x0 x1 x2 (fun (r0 : Bool) => some (r0))
end Go.Fw.L19
