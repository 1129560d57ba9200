/- Printed by an own program for this claim: the machine's code of functions, or their typed forms with their equations; no conditions. -/
import Derived.Test.YtggppceiapjadaaGreatFwYp19
import Derived.Test.YtggppceiapjadaaGreatFwB1
set_option linter.unusedVariables false
set_option linter.unusedSimpArgs false
namespace Go.Fw.L19
open Go Go.Fw
set_option maxRecDepth 100000
set_option linter.unusedVariables false
set_option linter.unusedSimpArgs false
abbrev e0 := fun x0 x1 => ([(0, .v U17 x0), (1, .v U2 x1)] : Env)
abbrev e1 := fun x0 x1 => ([(0, .v U17 x0), (9, .v .bool x1)] : Env)
abbrev e2 := fun x0 => ([(0, .v U17 x0), (4, .dead)] : Env)
abbrev e3 := fun x0 x1 => ([(0, .v U17 x0), (5, .v U2 x1)] : Env)
abbrev e4 := fun x0 x1 x2 => ([(0, .v U17 x0), (5, .v U2 x1), (13, .v .bool x2)] : Env)
abbrev e5 := fun x0 x1 x2 => ([(0, .v U17 x0), (5, .v U2 x1), (22, .v .bool x2)] : Env)
abbrev e6 := fun x0 => ([(0, .dead), (4, .v .bool x0), (5, .dead)] : Env)
abbrev e7 := fun x0 x1 => ([(0, .v U17 x0), (4, .dead), (5, .v U2 x1)] : Env)
abbrev e8 := fun x0 x1 => ([(1, .loc U14 .no x0), (4, .v U2 x1)] : Env)
abbrev e9 := fun x0 x1 x2 => ([(1, .loc U14 .no x0), (4, .v U2 x1), (5, .v .bool x2)] : Env)
abbrev e10 := fun x0 => ([(1, .dead), (2, .v .bool x0)] : Env)
abbrev e11 := fun x0 x1 => ([(1, .loc U14 .no x0), (15, .v .bool x1)] : Env)
abbrev e12 := fun x0 => ([(1, .loc U14 .no x0), (2, .dead)] : Env)
abbrev e13 := fun x0 x1 x2 => ([(0, .v .str x0), (1, .v U9 x1), (2, .v .bool x2)] : Env)
abbrev e14 := fun x0 x1 x2 x3 => ([(1, .v U9 x0), (2, .v .bool x1), (10, .it x2 x3)] : Env)
abbrev e15 := fun x0 x1 x2 x3 x4 x5 x6 x7 => ([(1, .v U9 x0), (2, .v .bool x1), (10, .it x2 x3), (11, .tup [.v .bool x4, .v U2 x5, .v U3 x6]), (12, .v .bool x7)] : Env)
abbrev e16 := fun x0 x1 x2 x3 x4 x5 => ([(1, .v U9 x0), (2, .v .bool x1), (10, .it x2 x3), (11, .tup [.v .bool x4]), (12, .v .bool x5)] : Env)
abbrev e17 := fun x0 x1 x2 x3 x4 x5 x6 => ([(1, .v U9 x0), (2, .v .bool x1), (10, .it x2 x3), (11, .tup [.v .bool x4, .v U2 x5, .v U3 x6])] : Env)
abbrev e18 := fun x0 x1 x2 x3 x4 x5 => ([(1, .v U9 x0), (2, .v .bool x1), (7, .v U2 x2), (10, .it x3 x4), (19, .v .bool x5)] : Env)
abbrev e19 := fun x0 => ([(1, .dead), (2, .dead), (6, .v U2 x0), (10, .dead)] : Env)
abbrev e20 := fun x0 x1 x2 x3 => ([(1, .v U9 x0), (2, .v .bool x1), (6, .dead), (10, .it x2 x3)] : Env)
abbrev e21 := fun x0 x1 x2 x3 x4 => ([(1, .v U9 x0), (2, .v .bool x1), (10, .it x2 x3), (11, .tup [.v .bool x4])] : Env)
abbrev e22 := fun x0 x1 => ([(0, .v .str x0), (1, .v U9 x1)] : Env)
abbrev e23 := fun x0 x1 => ([(1, .loc U14 .no x0), (3, .v .bool x1)] : Env)
abbrev e24 := fun x0 x1 => ([(1, .loc U14 .no x0), (12, .v .bool x1)] : Env)
abbrev e25 := fun x0 x1 => ([(1, .loc U14 .no x0), (16, .v .bool x1)] : Env)
abbrev e26 := fun x0 x1 => ([(1, .loc U14 .no x0), (20, .v .bool x1)] : Env)
abbrev e27 := fun x0 x1 => ([(0, .v U17 x0), (8, .v .bool x1)] : Env)
abbrev e28 := fun x0 => ([(0, .dead), (2, .v U2 x0)] : Env)
abbrev e29 := fun x0 => ([(0, .v U17 x0), (2, .dead)] : Env)
abbrev e30 := fun x0 x1 x2 => ([(9, .v U17 x0), (10, .v U2 x1), (11, .v U2 x2)] : Env)
abbrev e31 := fun x0 x1 x2 x3 => ([(9, .v U17 x0), (10, .v U2 x1), (11, .v U2 x2), (12, .v .bool x3)] : Env)
abbrev e32 := fun x0 x1 x2 x3 x4 => ([(5, .v U2 x0), (9, .v U17 x1), (10, .v U2 x2), (11, .v U2 x3), (18, .v .bool x4)] : Env)
abbrev e33 := fun x0 => ([(2, .v U2 x0), (9, .dead), (10, .dead), (11, .dead)] : Env)
abbrev e34 := fun x0 x1 x2 => ([(2, .dead), (9, .v U17 x0), (10, .v U2 x1), (11, .v U2 x2)] : Env)
abbrev e35 := fun x0 x1 => ([(0, .v U17 x0), (1, .v U17 x1)] : Env)
abbrev e36 := fun x0 x1 => ([(1, .v U17 x0), (5, .v U2 x1)] : Env)
abbrev e37 := fun x0 x1 x2 => ([(1, .v U17 x0), (5, .v U2 x1), (9, .v .bool x2)] : Env)
abbrev e38 := fun x0 => ([(1, .dead), (4, .v U2 x0)] : Env)
abbrev e39 := fun x0 => ([(1, .v U17 x0), (4, .dead)] : Env)
abbrev e40 := fun x0 x1 => ([(0, .v U17 x0), (3, .v U2 x1)] : Env)
abbrev e41 := fun x0 x1 x2 => ([(0, .v U17 x0), (3, .v U2 x1), (6, .v .bool x2)] : Env)
abbrev e42 := fun x0 x1 => ([(0, .v U17 x0), (1, .v U21 x1)] : Env)
abbrev e43 := fun x0 x1 x2 x3 => ([(0, .v U17 x0), (1, .v U21 x1), (7, .v U2 x2), (8, .v U2 x3)] : Env)
abbrev e44 := fun x0 x1 x2 x3 x4 => ([(0, .v U17 x0), (1, .v U21 x1), (7, .v U2 x2), (8, .v U2 x3), (9, .v .bool x4)] : Env)
abbrev e45 := fun x0 x1 x2 x3 x4 x5 => ([(0, .v U17 x0), (1, .v U21 x1), (5, .v U2 x2), (7, .v U2 x3), (8, .v U2 x4), (16, .v .bool x5)] : Env)
abbrev e46 := fun x0 => ([(0, .dead), (1, .dead), (4, .v U2 x0), (7, .dead), (8, .dead)] : Env)
abbrev e47 := fun x0 x1 x2 x3 => ([(0, .v U17 x0), (1, .v U21 x1), (4, .dead), (7, .v U2 x2), (8, .v U2 x3)] : Env)
abbrev e48 := fun x0 x1 x2 => ([(0, .v U17 x0), (3, .v U2 x1), (7, .v .bool x2)] : Env)
abbrev e49 := fun x0 x1 x2 => ([(0, .v U17 x0), (1, .v U17 x1), (5, .v U2 x2)] : Env)
abbrev e50 := fun x0 x1 x2 => ([(0, .v U17 x0), (5, .v U2 x1), (8, .v .bool x2)] : Env)
abbrev e51 := fun x0 => ([(4, .own true 3 U2 .no x0)] : Env)
abbrev e52 := fun x0 x1 => ([(0, .v U17 x0), (17, .v .bool x1)] : Env)
abbrev e53 := fun x0 x1 => ([(0, .v U4 x0), (1, .v U2 x1)] : Env)
abbrev e54 := fun x0 x1 x2 x3 => ([(0, .v U4 x0), (1, .v U2 x1), (7, .v U2 x2), (8, .v U2 x3)] : Env)
abbrev e55 := fun x0 x1 x2 x3 x4 => ([(0, .v U4 x0), (1, .v U2 x1), (7, .v U2 x2), (8, .v U2 x3), (9, .v .bool x4)] : Env)
abbrev e56 := fun x0 x1 x2 x3 x4 x5 => ([(0, .v U4 x0), (1, .v U2 x1), (5, .v U2 x2), (7, .v U2 x3), (8, .v U2 x4), (16, .v .bool x5)] : Env)
abbrev e57 := fun x0 x1 x2 x3 => ([(0, .v U4 x0), (1, .v U2 x1), (4, .dead), (7, .v U2 x2), (8, .v U2 x3)] : Env)
abbrev e58 := fun x0 x1 x2 => ([(0, .v U17 x0), (1, .v U17 x1), (2, .v U2 x2)] : Env)
abbrev e59 := fun x0 x1 x2 x3 x4 => ([(0, .v U17 x0), (1, .v U17 x1), (2, .v U2 x2), (10, .v U2 x3), (21, .v .bool x4)] : Env)
abbrev e60 := fun x0 x1 x2 x3 => ([(6, .own true 30 U14 .no x0), (7, .own true 30 U14 .no x1), (8, .own true 30 U14 .no x2), (9, .v U2 x3)] : Env)
abbrev e61 := fun x0 x1 x2 x3 => ([(0, .dead), (1, .dead), (2, .dead), (6, .own true 30 U14 .no x0), (7, .own true 30 U14 .no x1), (8, .own true 30 U14 .no x2), (9, .v U2 x3)] : Env)
abbrev e62 := fun x0 x1 x2 => ([(0, .v U17 x0), (1, .v U17 x1), (2, .v U2 x2), (6, .dead), (7, .dead), (8, .dead), (9, .dead)] : Env)
abbrev e63 := fun x0 x1 x2 x3 => ([(0, .v U17 x0), (1, .v U17 x1), (2, .v U2 x2), (28, .v .bool x3)] : Env)
abbrev e64 := fun x0 x1 x2 x3 => ([(0, .v U17 x0), (1, .v U17 x1), (2, .v U2 x2), (34, .v .bool x3)] : Env)
abbrev e65 := fun x0 x1 x2 x3 x4 => ([(0, .v U17 x0), (1, .v U17 x1), (2, .v U2 x2), (11, .own true 30 U14 .no x3), (12, .own true 30 U14 .no x4)] : Env)
abbrev e66 := fun x0 x1 x2 x3 x4 x5 => ([(0, .v U17 x0), (1, .v U17 x1), (2, .v U2 x2), (11, .own true 30 U14 .no x3), (12, .own true 30 U14 .no x4), (13, .own true 30 U14 .no x5)] : Env)
abbrev e67 := fun x0 x1 x2 x3 x4 x5 => ([(0, .v U17 x0), (1, .v U17 x1), (11, .own true 30 U14 .no x2), (12, .own true 30 U14 .no x3), (13, .own true 30 U14 .no x4), (39, .v U2 x5)] : Env)
abbrev e68 := fun x0 x1 x2 x3 x4 x5 x6 => ([(0, .v U17 x0), (1, .v U17 x1), (11, .own true 30 U14 .no x2), (12, .own true 30 U14 .no x3), (13, .own true 30 U14 .no x4), (39, .v U2 x5), (40, .v .bool x6)] : Env)
abbrev e69 := fun x0 x1 x2 x3 => ([(0, .v U17 x0), (11, .own true 30 U14 .no x1), (12, .own true 30 U14 .no x2), (14, .v U2 x3)] : Env)
abbrev e70 := fun x0 x1 x2 => ([(11, .v U17 x0), (12, .own true 30 U14 .no x1), (13, .own true 30 U14 .no x2)] : Env)
abbrev e71 := fun x0 x1 x2 x3 x4 x5 => ([(1, .v U17 x0), (11, .own true 30 U14 .no x1), (12, .own true 30 U14 .no x2), (13, .own true 30 U14 .no x3), (39, .v U2 x4), (55, .v .bool x5)] : Env)
abbrev e72 := fun x0 x1 x2 => ([(11, .own true 30 U14 .no x0), (12, .own true 30 U14 .no x1), (13, .own true 30 U14 .no x2)] : Env)
abbrev e73 := fun x0 x1 x2 x3 => ([(11, .own true 30 U14 .no x0), (12, .own true 30 U14 .no x1), (13, .own true 30 U14 .no x2), (68, .v .bool x3)] : Env)
abbrev e74 := fun x0 x1 x2 x3 => ([(11, .own true 30 U14 .no x0), (12, .own true 30 U14 .no x1), (13, .own true 30 U14 .no x2), (16, .ptre 11 [] x3 [])] : Env)
abbrev e75 := fun x0 x1 x2 x3 x4 => ([(6, .v U17 x0), (7, .ref 12 []), (8, .ref 13 []), (9, .v U2 x1), (11, .v U17 x2), (12, .own true 30 U14 .no x3), (13, .own true 30 U14 .no x4)] : Env)
abbrev e76 := fun x0 x1 x2 x3 => ([(6, .ref 11 []), (7, .ref 12 []), (8, .ref 13 []), (9, .v U2 x0), (11, .own true 30 U14 .no x1), (12, .own true 30 U14 .no x2), (13, .own true 30 U14 .no x3)] : Env)
abbrev e77 := fun x0 x1 x2 => ([(6, .v U17 x0), (7, .ref 10 []), (8, .v U2 x1), (10, .own true 30 U14 .no x2)] : Env)
abbrev e78 := fun x0 x1 x2 => ([(1, .loc U14 .no x0), (3, .v .bool x1), (18, .v .bool x2)] : Env)
abbrev e79 := fun x0 x1 x2 => ([(1, .loc U14 .no x0), (3, .v .bool x1), (29, .v .bool x2)] : Env)
abbrev e80 := fun x0 x1 => ([(1, .loc U14 .no x0), (34, .v .bool x1)] : Env)
abbrev e81 := fun x0 x1 => ([(1, .loc U14 .no x0), (37, .v .bool x1)] : Env)
abbrev e82 := fun x0 x1 => ([(1, .loc U14 .no x0), (41, .v .bool x1)] : Env)
abbrev e83 := fun x0 x1 x2 => ([(1, .loc U14 .no x0), (4, .v U2 x1), (46, .v .bool x2)] : Env)
abbrev e84 := fun x0 x1 x2 => ([(1, .loc U14 .no x0), (4, .v U2 x1), (54, .v .bool x2)] : Env)
abbrev e85 := fun x0 => ([(1, .dead), (2, .v U2 x0), (4, .dead)] : Env)
abbrev e86 := fun x0 x1 => ([(1, .loc U14 .no x0), (2, .dead), (4, .v U2 x1)] : Env)
abbrev e87 := fun x0 x1 => ([(0, .v U17 x0), (7, .v .bool x1)] : Env)
abbrev e88 := fun x0 x1 x2 => ([(0, .v U17 x0), (3, .v U2 x1), (11, .v .bool x2)] : Env)
abbrev e89 := fun x0 x1 x2 x3 => ([(0, .v U17 x0), (3, .v U2 x1), (4, .v U2 x2), (20, .v .bool x3)] : Env)
abbrev e90 := fun x0 => ([(0, .dead), (2, .v U2 x0), (3, .dead)] : Env)
abbrev e91 := fun x0 x1 => ([(0, .v U17 x0), (2, .dead), (3, .v U2 x1)] : Env)
abbrev e92 := fun x0 x1 x2 => ([(0, .v U17 x0), (3, .v U2 x1), (15, .v .bool x2)] : Env)
abbrev e93 := fun x0 x1 x2 => ([(0, .v U17 x0), (3, .v U2 x1), (14, .v .bool x2)] : Env)
abbrev e94 := fun x0 x1 x2 => ([(0, .v U17 x0), (3, .v U2 x1), (21, .v .bool x2)] : Env)
abbrev e95 := fun x0 x1 x2 => ([(0, .v U17 x0), (5, .v U2 x1), (15, .v .bool x2)] : Env)
abbrev e96 := fun x0 => ([(0, .dead), (4, .own true 3 U2 .no x0), (5, .dead)] : Env)
abbrev e97 := fun x0 x1 => ([(0, .v U17 x0), (18, .v .bool x1)] : Env)
abbrev e98 := fun x0 => ([(0, .dead), (4, .own true 3 U2 .no x0)] : Env)
abbrev e99 := fun x0 x1 => ([(0, .v U17 x0), (6, .own true 3 U2 .no x1)] : Env)
abbrev e100 := fun x0 x1 => ([(6, .own true 3 U2 .no x0), (28, .v .bool x1)] : Env)
abbrev e101 := fun x0 => ([(6, .own true 3 U2 .no x0)] : Env)
abbrev e102 := fun x0 => ([(4, .ref 6 []), (6, .own true 3 U2 .no x0)] : Env)
abbrev e103 := fun x0 x1 x2 => ([(0, .v U4 x0), (1, .v U2 x1), (5, .v U2 x2)] : Env)
abbrev e104 := fun x0 x1 x2 x3 => ([(0, .v U4 x0), (1, .v U2 x1), (5, .v U2 x2), (9, .v .bool x3)] : Env)
abbrev e105 := fun x0 x1 x2 x3 => ([(0, .v U4 x0), (1, .v U2 x1), (5, .v U2 x2), (17, .v .bool x3)] : Env)
abbrev e106 := fun x0 => ([(0, .dead), (1, .dead), (4, .v .bool x0), (5, .dead)] : Env)
abbrev e107 := fun x0 x1 x2 => ([(0, .v U4 x0), (1, .v U2 x1), (4, .dead), (5, .v U2 x2)] : Env)
abbrev e108 := fun x0 x1 x2 x3 x4 => ([(0, .v U17 x0), (1, .v U17 x1), (2, .v U2 x2), (7, .v U2 x3), (12, .v .bool x4)] : Env)
abbrev e109 := fun x0 => ([(0, .dead), (1, .dead), (2, .dead), (6, .v U2 x0)] : Env)
abbrev e110 := fun x0 x1 x2 => ([(0, .v U17 x0), (1, .v U17 x1), (2, .v U2 x2), (6, .dead)] : Env)
abbrev e111 := fun x0 x1 x2 x3 => ([(0, .v U17 x0), (1, .v U17 x1), (2, .v U2 x2), (19, .v .bool x3)] : Env)
abbrev e112 := fun x0 x1 x2 => ([(0, .v U17 x0), (1, .v U2 x1), (2, .v U2 x2)] : Env)
abbrev e113 := fun x0 x1 x2 x3 => ([(0, .v U17 x0), (2, .v U2 x1), (7, .own true 30 U14 .no x2), (8, .v U2 x3)] : Env)
abbrev e114 := fun x0 x1 x2 x3 x4 => ([(0, .v U17 x0), (2, .v U2 x1), (7, .own true 30 U14 .no x2), (8, .v U2 x3), (12, .v .bool x4)] : Env)
abbrev e115 := fun x0 => ([(7, .own true 30 U14 .no x0)] : Env)
abbrev e116 := fun x0 => ([(6, .ref 7 []), (7, .own true 30 U14 .no x0)] : Env)
abbrev e117 := fun x0 x1 x2 x3 => ([(0, .v U17 x0), (1, .v U17 x1), (2, .v U2 x2), (9, .v U2 x3)] : Env)
abbrev e118 := fun x0 x1 x2 x3 x4 => ([(0, .v U17 x0), (1, .v U17 x1), (9, .v U2 x2), (14, .v U2 x3), (15, .v .bool x4)] : Env)
abbrev e119 := fun x0 x1 x2 => ([(6, .own true 30 U14 .no x0), (7, .own true 30 U14 .no x1), (8, .own true 30 U14 .no x2)] : Env)
abbrev e120 := fun x0 x1 x2 => ([(0, .dead), (1, .dead), (6, .own true 30 U14 .no x0), (7, .own true 30 U14 .no x1), (8, .own true 30 U14 .no x2), (9, .dead)] : Env)
abbrev e121 := fun x0 x1 x2 x3 x4 => ([(0, .v U17 x0), (1, .v U17 x1), (9, .v U2 x2), (14, .v U2 x3), (32, .v .bool x4)] : Env)
abbrev e122 := fun x0 x1 x2 x3 => ([(0, .v U17 x0), (1, .v U17 x1), (9, .v U2 x2), (48, .v .bool x3)] : Env)
abbrev e123 := fun x0 x1 x2 => ([(0, .v U17 x0), (1, .v U17 x1), (6, .dead), (7, .dead), (8, .dead), (9, .v U2 x2)] : Env)
abbrev e124 := fun x0 x1 x2 x3 x4 => ([(0, .v U17 x0), (1, .v U17 x1), (2, .v U2 x2), (9, .v U2 x3), (18, .v .bool x4)] : Env)
abbrev e125 := fun x0 x1 x2 => ([(6, .own true 30 U14 .no x0), (7, .own true 30 U14 .no x1), (8, .v U2 x2)] : Env)
abbrev e126 := fun x0 x1 x2 => ([(0, .dead), (1, .dead), (2, .dead), (6, .own true 30 U14 .no x0), (7, .own true 30 U14 .no x1), (8, .v U2 x2)] : Env)
abbrev e127 := fun x0 x1 x2 => ([(0, .v U17 x0), (1, .v U17 x1), (2, .v U2 x2), (6, .dead), (7, .dead), (8, .dead)] : Env)
abbrev e128 := fun x0 x1 => ([(10, .own true 30 U14 .no x0), (11, .own true 30 U14 .no x1)] : Env)
abbrev e129 := fun x0 x1 x2 => ([(6, .ref 10 []), (7, .ref 11 []), (8, .v U2 x0), (10, .own true 30 U14 .no x1), (11, .own true 30 U14 .no x2)] : Env)
abbrev e130 := fun x0 x1 => ([(6, .ref 10 []), (7, .v U2 x0), (10, .own true 30 U14 .no x1)] : Env)
abbrev e131 := fun x0 x1 x2 x3 x4 => ([(0, .v U17 x0), (1, .v U17 x1), (2, .v U2 x2), (8, .v U2 x3), (17, .v .bool x4)] : Env)
abbrev e132 := fun x0 x1 => ([(0, .dead), (1, .dead), (2, .dead), (6, .own true 30 U14 .no x0), (7, .v U2 x1)] : Env)
abbrev e133 := fun x0 x1 x2 => ([(0, .v U17 x0), (1, .v U17 x1), (2, .v U2 x2), (6, .dead), (7, .dead)] : Env)
abbrev e134 := fun x0 x1 => ([(6, .ref 11 []), (7, .v U2 x0), (11, .own true 30 U14 .no x1)] : Env)
abbrev e135 := fun x0 x1 => ([(0, .v U2 x0), (1, .v U2 x1)] : Env)
abbrev e136 := fun x0 x1 x2 => ([(0, .v U2 x0), (1, .v U2 x1), (7, .v .bool x2)] : Env)
abbrev e137 := fun x0 => ([(0, .dead), (1, .dead), (4, .v U2 x0)] : Env)
abbrev e138 := fun x0 x1 x2 x3 => ([(2, .loc U14 .no x0), (3, .loc U14 .no x1), (5, .v U2 x2), (13, .v .bool x3)] : Env)
abbrev e139 := fun x0 => ([(2, .dead), (3, .dead), (4, .v U2 x0)] : Env)
abbrev e140 := fun x0 x1 => ([(2, .loc U14 .no x0), (3, .loc U14 .no x1), (4, .dead)] : Env)
abbrev e141 := fun x0 x1 x2 x3 => ([(2, .loc U14 .no x0), (3, .loc U14 .no x1), (6, .v U2 x2), (21, .v .bool x3)] : Env)
abbrev e142 := fun x0 x1 x2 => ([(2, .loc U14 .no x0), (3, .loc U14 .no x1), (27, .v .bool x2)] : Env)
abbrev e143 := fun x0 x1 x2 => ([(0, .v U17 x0), (1, .v U17 x1), (10, .v .bool x2)] : Env)
abbrev e144 := fun x0 => ([(0, .dead), (1, .dead), (4, .v .bool x0)] : Env)
abbrev e145 := fun x0 x1 x2 x3 => ([(0, .v U17 x0), (1, .v U17 x1), (5, .v U2 x2), (14, .v .bool x3)] : Env)
abbrev e146 := fun x0 x1 x2 x3 => ([(0, .v U17 x0), (1, .v U17 x1), (5, .v U2 x2), (26, .v .bool x3)] : Env)
abbrev e147 := fun x0 x1 x2 => ([(0, .v U17 x0), (1, .v U17 x1), (4, .dead), (5, .v U2 x2)] : Env)
abbrev e148 := fun x0 => ([(0, .dead), (1, .dead), (2, .dead), (6, .v .bool x0)] : Env)
abbrev e149 := fun x0 x1 x2 x3 x4 x5 => ([(0, .v U17 x0), (1, .v U17 x1), (2, .v U2 x2), (7, .v U17 x3), (8, .own true 30 U14 .no x4), (9, .v U2 x5)] : Env)
abbrev e150 := fun x0 x1 x2 x3 x4 x5 x6 x7 x8 => ([(0, .v U17 x0), (1, .v U17 x1), (2, .v U2 x2), (7, .v U17 x3), (8, .own true 30 U14 .no x4), (9, .v U2 x5), (10, .own true 30 U14 .no x6), (11, .own true 30 U14 .no x7), (12, .v U2 x8)] : Env)
abbrev e151 := fun x0 x1 x2 x3 x4 x5 x6 x7 x8 x9 x10 => ([(0, .v U17 x0), (1, .v U17 x1), (2, .v U2 x2), (7, .v U17 x3), (8, .own true 30 U14 .no x4), (9, .v U2 x5), (10, .own true 30 U14 .no x6), (11, .own true 30 U14 .no x7), (12, .v U2 x8), (13, .own true 30 U14 .no x9), (14, .v U2 x10)] : Env)
abbrev e152 := fun x0 x1 x2 x3 x4 x5 x6 x7 x8 x9 => ([(7, .v U17 x0), (8, .own true 30 U14 .no x1), (9, .v U2 x2), (10, .own true 30 U14 .no x3), (11, .own true 30 U14 .no x4), (12, .v U2 x5), (13, .own true 30 U14 .no x6), (14, .v U2 x7), (15, .own true 30 U14 .no x8), (16, .v U2 x9)] : Env)
variable {N : Nat} {cl : Cal} {R : Type} {K : KE R}
def g7_0 (x0 : V7) (x1 : Int) (k0 : V7 → Int → Option R) : Option R :=
k0 x0 x1
theorem t7_0 (x0 x1) : exec cl N c7_0 (e0 x0 x1) K = (g7_0 x0 x1 (fun y0 y1 => K .normal (e0 y0 y1))) := by
  kernel_rfl
def g7_1 (x0 : V7) (x1 : Int) (k0 : V7 → Bool → Option R) : Option R :=
k0 x0 (decide ((x0.length : Int) > x1))
theorem t7_1 (x0 x1) : exec cl N c7_1 (e0 x0 x1) K = (g7_1 x0 x1 (fun y0 y1 => K .normal (e1 y0 y1))) := by
  kernel_rfl
def g7_2 (x0 : V7) (x1 : Bool) (k0 : Bool → Option R) : Option R :=
k0 false
theorem t7_2 (x0 x1) : exec cl N c7_2 (e1 x0 x1) K = (g7_2 x0 x1 (fun y0 => K .normal [(4, .v .bool y0)])) := by
  kernel_rfl
theorem kp7_0 (x0) : keep [0, 4] [(4, .v .bool x0)] = [(0, .dead), (4, .v .bool x0)] := by kernel_rfl
theorem kp7_1 (x0 x1) : keep [0, 4] (e1 x0 x1) = (e2 x0) := by kernel_rfl
theorem hb7_0 (x0 x1) : boolOf? (ent (e1 x0 x1) (.t 9)) = some x1 := by kernel_rfl
def g7_4 (x0 : V7) (k0 : V7 → Int → Option R) : Option R :=
k0 x0 (0 : Int)
theorem t7_4 (x0) : exec cl N c7_4 (e2 x0) K = (g7_4 x0 (fun y0 y1 => K .normal (e3 y0 y1))) := by
  kernel_rfl
theorem kp7_2 (x0 x1) : keep [0, 5] (e3 x0 x1) = (e3 x0 x1) := by kernel_rfl
def g7_5 (x0 : V7) (x1 : Int) (k0 : V7 → Int → Bool → Option R) : Option R :=
k0 x0 x1 (decide (x1 < (x0.length : Int)))
theorem t7_5 (x0 x1) : exec cl N c7_5 (e3 x0 x1) K = (g7_5 x0 x1 (fun y0 y1 y2 => K .normal (e4 y0 y1 y2))) := by
  kernel_rfl
theorem kp7_3 (x0 x1 x2) : keep [0, 5] (e4 x0 x1 x2) = (e3 x0 x1) := by kernel_rfl
theorem hb7_1 (x0 x1 x2) : boolOf? (ent (e4 x0 x1 x2) (.t 13)) = some x2 := by kernel_rfl
def g7_7 (x0 : V7) (x1 : Int) (k0 : V7 → Int → Bool → Option R) : Option R :=
if 0 ≤ x1 ∧ x1 < (x0.length : Int) then
k0 x0 x1 (decide ((((x0.getD x1.toNat ((0 : Int), ((0 : Int), ([], ())))).2.2.1).length : Int) > (40 : Int)))
else none
theorem t7_7 (x0 x1) : exec cl N c7_7 (e3 x0 x1) K = (g7_7 x0 x1 (fun y0 y1 y2 => K .normal (e5 y0 y1 y2))) := by
  kernel_rfl
def g7_8 (x0 : V7) (x1 : Int) (x2 : Bool) (k0 : Bool → Option R) : Option R :=
k0 false
theorem t7_8 (x0 x1 x2) : exec cl N c7_8 (e5 x0 x1 x2) K = (g7_8 x0 x1 x2 (fun y0 => K .normal [(4, .v .bool y0)])) := by
  kernel_rfl
theorem kp7_4 (x0) : keep [0, 4, 5] [(4, .v .bool x0)] = (e6 x0) := by kernel_rfl
theorem kp7_5 (x0 x1 x2) : keep [0, 4, 5] (e5 x0 x1 x2) = (e7 x0 x1) := by kernel_rfl
theorem hb7_2 (x0 x1 x2) : boolOf? (ent (e5 x0 x1 x2) (.t 22)) = some x2 := by kernel_rfl
theorem kp7_6 (x0) : keep [0, 4, 5] (e6 x0) = (e6 x0) := by kernel_rfl
theorem kp7_7 (x0 x1) : keep [0, 4, 5] (e7 x0 x1) = (e7 x0 x1) := by kernel_rfl
def g7_11 (x0 : V7) (x1 : Int) (k0 : V7 → Int → Option R) : Option R :=
k0 x0 (IntKind.i64.wrap (x1 + (1 : Int)))
theorem t7_11 (x0 x1) : exec cl N c7_11 (e7 x0 x1) K = (g7_11 x0 x1 (fun y0 y1 => K .normal (e3 y0 y1))) := by
  kernel_rfl
def g7_12 (x0 : V7) (x1 : Int) (k0 : Bool → Option R) (k1 : V7 → Int → Option R) (k2 : V7 → Int → Option R) : Option R :=
(g7_5 x0 x1 (fun y0 y1 y2 => brB y2 ((fun y0 y1 => (g7_7 y0 y1 (fun y0 y1 y2 => brB y2 (g7_8 y0 y1 y2 (fun y0 => ((fun y0 => (k0 y0)) y0))) (g7_11 y0 y1 k1)))) y0 y1) (k2 y0 y1)))
theorem t7_12 (x0 x1) : exec cl N c7_12 (e3 x0 x1) K = (g7_12 x0 x1 (fun y0 => K .ret (e6 y0)) (fun y0 y1 => K .normal (e3 y0 y1)) (fun y0 y1 => K (.exit 0) (e3 y0 y1))) := by
  simp only [c7_12, exec_seq, seqK_normal, seqK_exit, seqK_ret, t7_5, c7_6, exec_out, exec_cond', hb7_1, Option.bind_some, brB_true, brB_false, exec_skip, exec_exit, kp7_3, c7_10, exec_block, t7_7, c7_9, hb7_2, t7_8, exec_ret, kp7_4, kp7_5, blockK_normal, blockK_ret, blockK_eq, kp7_6, kp7_7, t7_11]
  rfl
def l7_13 {R : Type} (k0 : Bool → Option R) (k1 : V7 → Int → Option R) : Nat → V7 → Int → Option R
  | 0, _, _ => none
  | m + 1, x0, x1 => (g7_12 x0 x1 k0 (fun y0 y1 => l7_13 k0 k1 m y0 y1) k1)
theorem lt7_13 : ∀ (m) (x0 x1), iter [0, 5] (fun env K => exec cl N c7_12 env K) K m (e3 x0 x1) = l7_13 (fun y0 => K .ret (e6 y0)) (fun y0 y1 => K (.exit 0) (e3 y0 y1)) m x0 x1 := by
  intro m
  induction m with
  | zero => intros; rfl
  | succ m ih =>
    intro x0 x1
    simp only [iter_succ, t7_12, loopK_normal, loopK_exit, loopK_ret, kp7_2, ih]
    rfl
theorem kp7_8 (x0) : keep [4] (e6 x0) = [(4, .v .bool x0)] := by kernel_rfl
theorem kp7_9 (x0 x1) : keep [4] (e3 x0 x1) = [(4, .dead)] := by kernel_rfl
def g7_13 (N : Nat) (x0 : V7) (x1 : Int) (k0 : Bool → Option R) (k1 : Option R) : Option R :=
l7_13 (fun y0 => k0 y0) (fun y0 y1 => k1) N x0 x1
theorem t7_13 (x0 x1) : exec cl N c7_13 (e3 x0 x1) K = (g7_13 N x0 x1 (fun y0 => K .ret [(4, .v .bool y0)]) (K (.exit 0) [(4, .dead)])) := by
  simp only [c7_13, exec_out, exec_loop, kp7_2, lt7_13, kp7_8, kp7_9]
  rfl
theorem kp7_10 (x0) : keep [4] [(4, .v .bool x0)] = [(4, .v .bool x0)] := by kernel_rfl
theorem kp7_11 : keep [4] [(4, .dead)] = [(4, .dead)] := by kernel_rfl
def g7_15 (k0 : Bool → Option R) : Option R :=
k0 true
theorem t7_15 : exec cl N c7_15 [(4, .dead)] K = (g7_15 (fun y0 => K .normal [(4, .v .bool y0)])) := by
  kernel_rfl
def g7_16 (N : Nat) (x0 : V7) (x1 : Int) (k0 : Bool → Option R) (k1 : Bool → Option R) : Option R :=
(g7_0 x0 x1 (fun y0 y1 => (g7_1 y0 y1 (fun y0 y1 => brB y1 (g7_2 y0 y1 (fun y0 => ((fun y0 => (k0 y0)) y0))) ((fun y0 => (g7_4 y0 (fun y0 y1 => (g7_13 N y0 y1 (fun y0 => (k1 y0)) (g7_15 (fun y0 => (k1 y0))))))) y0)))))
theorem t7_16 (x0 x1) : exec cl N c7_16 (e0 x0 x1) K = (g7_16 N x0 x1 (fun y0 => K .ret [(0, .dead), (4, .v .bool y0)]) (fun y0 => K .ret [(4, .v .bool y0)])) := by
  simp only [c7_16, exec_seq, seqK_normal, seqK_exit, seqK_ret, t7_0, t7_1, c7_3, exec_out, exec_cond', hb7_0, Option.bind_some, brB_true, brB_false, t7_2, exec_ret, exec_skip, kp7_0, kp7_1, t7_4, c7_14, exec_block, t7_13, blockK_normal, blockK_ret, blockK_eq, kp7_10, kp7_11, t7_15]
  rfl
theorem rk7_0 (y0) : retK d7 .ret [(0, .dead), (4, .v .bool y0)] = some [.v .bool y0] := by kernel_rfl
theorem rk7_1 (y0) : retK d7 .ret [(4, .v .bool y0)] = some [.v .bool y0] := by kernel_rfl
def g7 (N : Nat) (x0 : V7) (x1 : Int) (k : Bool → Option R) : Option R :=
(g7_16 N x0 x1 (fun y0 => k y0) (fun y0 => k y0))
theorem gen7 {N : Nat} {cl : Cal} (x0 : V7) (x1 : Int) {R : Type} (k : List E → Option R) : exec cl N c7 (params 0 [.v U17 x0, .v U2 x1]) (fun e env => (retK d7 e env).bind k) = g7 N x0 x1 (fun (r0 : Bool) => k [.v .bool r0]) := by
  have e0 : params 0 [.v U17 x0, .v U2 x1] = (e0 x0 x1) := by kernel_rfl
  simp only [c7, e0, t7_16, rk7_0, rk7_1, Option.bind_some]
  rfl
def ctr7 (S : V7 → Int → Option (Bool)) : Ctr := { A := V7 × Int × Unit, B := Bool, f := 7, enc := fun a => [.v U17 a.1, .v U2 a.2.1], dec := (decC (decV U17) (decC (decV U2) dec0)), S := fun a => S a.1 a.2.1, ent := fun b => [.v .bool b], ok := (decV_cons (T := U17) (decV_cons (T := U2) (fun es b h => dec0_some h))) }
def S7 (N : Nat) (x0 : V7) (x1 : Int) : Option (Bool) := g7 N x0 x1 (fun (r0 : Bool) => some (r0))
def g97_0 (x0 : V6) (k0 : V6 → Option R) : Option R :=
k0 x0
theorem t97_0 (x0) : exec cl N c97_0 [(0, .v U14 x0)] K = (g97_0 x0 (fun y0 => K .normal [(1, .loc U14 .no y0)])) := by
  kernel_rfl
def g97_1 (x0 : V6) (k0 : V6 → Int → Option R) : Option R :=
k0 x0 x0.1
theorem t97_1 (x0) : exec cl N c97_1 [(1, .loc U14 .no x0)] K = (g97_1 x0 (fun y0 y1 => K .normal (e8 y0 y1))) := by
  kernel_rfl
def g97_2 (x0 : V6) (x1 : Int) (k0 : V6 → Int → Bool → Option R) : Option R :=
k0 x0 x1 (x1 == (1 : Int))
theorem t97_2 (x0 x1) : exec cl N c97_2 (e8 x0 x1) K = (g97_2 x0 x1 (fun y0 y1 y2 => K .normal (e9 y0 y1 y2))) := by
  kernel_rfl
def g97_3 (x0 : V6) (x1 : Int) (x2 : Bool) (k0 : Bool → Option R) : Option R :=
brB (decide (x0.2.1 ≥ (1 : Int))) (k0 (decide (x0.2.1 ≤ (3 : Int)))) (k0 false)
theorem t97_3 (x0 x1 x2) : exec cl N c97_3 (e9 x0 x1 x2) K = (g97_3 x0 x1 x2 (fun y0 => K .normal [(2, .v .bool y0)])) := by
  kernel_rfl
theorem kp97_0 (x0) : keep [1, 2] [(2, .v .bool x0)] = (e10 x0) := by kernel_rfl
def g97_4 (x0 : V6) (x1 : Int) (x2 : Bool) (k0 : V6 → Bool → Option R) : Option R :=
k0 x0 (x1 == (2 : Int))
theorem t97_4 (x0 x1 x2) : exec cl N c97_4 (e9 x0 x1 x2) K = (g97_4 x0 x1 x2 (fun y0 y1 => K .normal (e11 y0 y1))) := by
  kernel_rfl
def g97_5 (x0 : V6) (x1 : Bool) (k0 : Bool → Option R) : Option R :=
k0 (x0.2.1 == (2 : Int))
theorem t97_5 (x0 x1) : exec cl N c97_5 (e11 x0 x1) K = (g97_5 x0 x1 (fun y0 => K .normal [(2, .v .bool y0)])) := by
  kernel_rfl
theorem kp97_1 (x0 x1) : keep [1, 2] (e11 x0 x1) = (e12 x0) := by kernel_rfl
theorem hb97_0 (x0 x1) : boolOf? (ent (e11 x0 x1) (.t 15)) = some x1 := by kernel_rfl
theorem kp97_2 (x0) : keep [1, 2] (e10 x0) = (e10 x0) := by kernel_rfl
theorem kp97_3 (x0) : keep [1, 2] (e12 x0) = (e12 x0) := by kernel_rfl
theorem hb97_1 (x0 x1 x2) : boolOf? (ent (e9 x0 x1 x2) (.t 5)) = some x2 := by kernel_rfl
def g97_9 (x0 : V6) (k0 : Bool → Option R) : Option R :=
k0 (x0.2.1 == (0 : Int))
theorem t97_9 (x0) : exec cl N c97_9 (e12 x0) K = (g97_9 x0 (fun y0 => K .normal [(2, .v .bool y0)])) := by
  kernel_rfl
def g97_10 (x0 : V6) (k0 : Bool → Option R) (k1 : Bool → Option R) : Option R :=
(g97_0 x0 (fun y0 => (g97_1 y0 (fun y0 y1 => (g97_2 y0 y1 (fun y0 y1 y2 => brB y2 (g97_3 y0 y1 y2 (fun y0 => ((fun y0 => (k0 y0)) y0))) (g97_4 y0 y1 y2 (fun y0 y1 => brB y1 (g97_5 y0 y1 (fun y0 => ((fun y0 => (k0 y0)) y0))) ((fun y0 => ((fun y0 => ((fun y0 => (g97_9 y0 (fun y0 => (k1 y0)))) y0)) y0)) y0)))))))))
theorem t97_10 (x0) : exec cl N c97_10 [(0, .v U14 x0)] K = (g97_10 x0 (fun y0 => K .ret (e10 y0)) (fun y0 => K .ret [(2, .v .bool y0)])) := by
  simp only [c97_10, exec_seq, seqK_normal, seqK_exit, seqK_ret, t97_0, t97_1, c97_8, exec_out, exec_block, t97_2, c97_7, exec_cond', hb97_1, Option.bind_some, brB_true, brB_false, t97_3, exec_ret, t97_4, c97_6, hb97_0, t97_5, exec_skip, kp97_0, kp97_1, kp97_2, kp97_3, blockK_normal, blockK_ret, blockK_eq, t97_9]
  rfl
theorem rk97_0 (y0) : retK d97 .ret (e10 y0) = some [.v .bool y0] := by kernel_rfl
theorem rk97_1 (y0) : retK d97 .ret [(2, .v .bool y0)] = some [.v .bool y0] := by kernel_rfl
def g97 (x0 : V6) (k : Bool → Option R) : Option R :=
(g97_10 x0 (fun y0 => k y0) (fun y0 => k y0))
theorem gen97 {N : Nat} {cl : Cal} (x0 : V6) {R : Type} (k : List E → Option R) : exec cl N c97 (params 0 [.v U14 x0]) (fun e env => (retK d97 e env).bind k) = g97 x0 (fun (r0 : Bool) => k [.v .bool r0]) := by
  have e0 : params 0 [.v U14 x0] = [(0, .v U14 x0)] := by kernel_rfl
  simp only [c97, e0, t97_10, rk97_0, rk97_1, Option.bind_some]
  rfl
def ctr97 (S : V6 → Option (Bool)) : Ctr := { A := V6 × Unit, B := Bool, f := 97, enc := fun a => [.v U14 a.1], dec := (decC (decV U14) dec0), S := fun a => S a.1, ent := fun b => [.v .bool b], ok := (decV_cons (T := U14) (fun es b h => dec0_some h)) }
def S97 (N : Nat) (x0 : V6) : Option (Bool) := g97 x0 (fun (r0 : Bool) => some (r0))
def g100_0 (x0 : Int) (k0 : Int → Option R) : Option R :=
k0 x0
theorem t100_0 (x0) : exec cl N c100_0 [(0, .v U3 x0)] K = (g100_0 x0 (fun y0 => K .normal [(0, .v U3 y0)])) := by
  kernel_rfl
def g100_1 (x0 : Int) (k0 : Bool → Option R) : Option R :=
brB (decide (x0 ≥ (97 : Int))) (brB (decide (x0 ≤ (122 : Int))) (k0 true) (brB (decide (x0 ≥ (48 : Int))) (brB (decide (x0 ≤ (57 : Int))) (k0 true) (brB (x0 == (95 : Int)) (k0 true) (brB (x0 == (94 : Int)) (k0 true) (k0 (x0 == (39 : Int)))))) (brB (x0 == (95 : Int)) (k0 true) (brB (x0 == (94 : Int)) (k0 true) (k0 (x0 == (39 : Int))))))) (brB (decide (x0 ≥ (48 : Int))) (brB (decide (x0 ≤ (57 : Int))) (k0 true) (brB (x0 == (95 : Int)) (k0 true) (brB (x0 == (94 : Int)) (k0 true) (k0 (x0 == (39 : Int)))))) (brB (x0 == (95 : Int)) (k0 true) (brB (x0 == (94 : Int)) (k0 true) (k0 (x0 == (39 : Int))))))
theorem t100_1 (x0) : exec cl N c100_1 [(0, .v U3 x0)] K = (g100_1 x0 (fun y0 => K .normal [(2, .v .bool y0)])) := by
  kernel_rfl
def g100_2 (x0 : Int) (k0 : Bool → Option R) : Option R :=
(g100_0 x0 (fun y0 => (g100_1 y0 (fun y0 => (k0 y0)))))
theorem t100_2 (x0) : exec cl N c100_2 [(0, .v U3 x0)] K = (g100_2 x0 (fun y0 => K .ret [(2, .v .bool y0)])) := by
  simp only [c100_2, exec_seq, seqK_normal, seqK_exit, seqK_ret, t100_0, t100_1, exec_ret]
  rfl
theorem rk100_0 (y0) : retK d100 .ret [(2, .v .bool y0)] = some [.v .bool y0] := by kernel_rfl
def g100 (x0 : Int) (k : Bool → Option R) : Option R :=
(g100_2 x0 (fun y0 => k y0))
theorem gen100 {N : Nat} {cl : Cal} (x0 : Int) {R : Type} (k : List E → Option R) : exec cl N c100 (params 0 [.v U3 x0]) (fun e env => (retK d100 e env).bind k) = g100 x0 (fun (r0 : Bool) => k [.v .bool r0]) := by
  have e0 : params 0 [.v U3 x0] = [(0, .v U3 x0)] := by kernel_rfl
  simp only [c100, e0, t100_2, rk100_0, Option.bind_some]
  rfl
def ctr100 (S : Int → Option (Bool)) : Ctr := { A := Int × Unit, B := Bool, f := 100, enc := fun a => [.v U3 a.1], dec := (decC (decV U3) dec0), S := fun a => S a.1, ent := fun b => [.v .bool b], ok := (decV_cons (T := U3) (fun es b h => dec0_some h)) }
def S100 (N : Nat) (x0 : Int) : Option (Bool) := g100 x0 (fun (r0 : Bool) => some (r0))
def g99_0 (x0 : Int) (k0 : Int → Option R) : Option R :=
k0 x0
theorem t99_0 (x0) : exec cl N c99_0 [(0, .v U3 x0)] K = (g99_0 x0 (fun y0 => K .normal [(0, .v U3 y0)])) := by
  kernel_rfl
def g99_1 (S100 : Int → Option (Bool)) (x0 : Int) (k0 : Bool → Option R) : Option R :=
(S100 x0).bind fun r71 =>
k0 (!r71)
theorem t99_1 (S100) (h100 : (ctr100 S100).holds cl) (x0) : exec cl N c99_1 [(0, .v U3 x0)] K = (g99_1 S100 x0 (fun y0 => K .normal [(2, .v .bool y0)])) := by
  rw [← put_eq h100]
  kernel_rfl
def g99_2 (S100 : Int → Option (Bool)) (x0 : Int) (k0 : Bool → Option R) : Option R :=
(g99_0 x0 (fun y0 => (g99_1 S100 y0 (fun y0 => (k0 y0)))))
theorem t99_2 (S100) (h100 : (ctr100 S100).holds cl) (x0) : exec cl N c99_2 [(0, .v U3 x0)] K = (g99_2 S100 x0 (fun y0 => K .ret [(2, .v .bool y0)])) := by
  simp only [c99_2, exec_seq, seqK_normal, seqK_exit, seqK_ret, t99_0, t99_1 S100 h100, exec_ret]
  rfl
theorem rk99_0 (y0) : retK d99 .ret [(2, .v .bool y0)] = some [.v .bool y0] := by kernel_rfl
def g99 (S100 : Int → Option (Bool)) (x0 : Int) (k : Bool → Option R) : Option R :=
(g99_2 S100 x0 (fun y0 => k y0))
theorem gen99 {N : Nat} {cl : Cal} (S100 : Int → Option (Bool)) (h100 : (ctr100 S100).holds cl) (x0 : Int) {R : Type} (k : List E → Option R) : exec cl N c99 (params 0 [.v U3 x0]) (fun e env => (retK d99 e env).bind k) = g99 S100 x0 (fun (r0 : Bool) => k [.v .bool r0]) := by
  have e0 : params 0 [.v U3 x0] = [(0, .v U3 x0)] := by kernel_rfl
  simp only [c99, e0, t99_2 S100 h100, rk99_0, Option.bind_some]
  rfl
def ctr99 (S : Int → Option (Bool)) : Ctr := { A := Int × Unit, B := Bool, f := 99, enc := fun a => [.v U3 a.1], dec := (decC (decV U3) dec0), S := fun a => S a.1, ent := fun b => [.v .bool b], ok := (decV_cons (T := U3) (fun es b h => dec0_some h)) }
def S99 (N : Nat) (x0 : Int) : Option (Bool) := g99 (S100 N) x0 (fun (r0 : Bool) => some (r0))
def g118_0 (x0 : V1) (x1 : V4) (x2 : Bool) (k0 : V1 → V4 → Bool → Option R) : Option R :=
k0 x0 x1 x2
theorem t118_0 (x0 x1 x2) : exec cl N c118_0 (e13 x0 x1 x2) K = (g118_0 x0 x1 x2 (fun y0 y1 y2 => K .normal (e13 y0 y1 y2))) := by
  kernel_rfl
def g118_1 (x0 : V1) (x1 : V4) (x2 : Bool) (k0 : V4 → Bool → V1 → Nat → Option R) : Option R :=
k0 x1 x2 x0 (0 : Nat)
theorem t118_1 (x0 x1 x2) : exec cl N c118_1 (e13 x0 x1 x2) K = (g118_1 x0 x1 x2 (fun y0 y1 y2 y3 => K .normal (e14 y0 y1 y2 y3))) := by
  kernel_rfl
theorem kp118_0 (x0 x1 x2 x3) : keep [1, 2, 10] (e14 x0 x1 x2 x3) = (e14 x0 x1 x2 x3) := by kernel_rfl
def g118_2 (x0 : V4) (x1 : Bool) (x2 : V1) (x3 : Nat) (k0 : V4 → Bool → V1 → Nat → Bool → Int → Int → Bool → Option R) (k1 : V4 → Bool → V1 → Nat → Bool → Bool → Option R) : Option R :=
brB (decide (x3 < x2.length)) (k0 x0 x1 x2 (x3 + (Utf8.decode ⟨⟨x2⟩⟩ x3).2) true ((x3 : Nat) : Int) (((Utf8.decode ⟨⟨x2⟩⟩ x3).1 : Nat) : Int) true) (k1 x0 x1 x2 x3 false false)
theorem t118_2 (x0 x1 x2 x3) : exec cl N c118_2 (e14 x0 x1 x2 x3) K = (g118_2 x0 x1 x2 x3 (fun y0 y1 y2 y3 y4 y5 y6 y7 => K .normal (e15 y0 y1 y2 y3 y4 y5 y6 y7)) (fun y0 y1 y2 y3 y4 y5 => K .normal (e16 y0 y1 y2 y3 y4 y5))) := by
  kernel_rfl
theorem kp118_1 (x0 x1 x2 x3 x4 x5 x6 x7) : keep [1, 2, 10, 11] (e15 x0 x1 x2 x3 x4 x5 x6 x7) = (e17 x0 x1 x2 x3 x4 x5 x6) := by kernel_rfl
theorem hb118_0 (x0 x1 x2 x3 x4 x5 x6 x7) : boolOf? (ent (e15 x0 x1 x2 x3 x4 x5 x6 x7) (.t 12)) = some x7 := by kernel_rfl
def g118_4 (x0 : V4) (x1 : Bool) (x2 : V1) (x3 : Nat) (x4 : Bool) (x5 x6 : Int) (k0 : V4 → Bool → Int → Int → V1 → Nat → Option R) : Option R :=
k0 x0 x1 x5 x6 x2 x3
theorem t118_4 (x0 x1 x2 x3 x4 x5 x6) : exec cl N c118_4 (e17 x0 x1 x2 x3 x4 x5 x6) K = (g118_4 x0 x1 x2 x3 x4 x5 x6 (fun y0 y1 y2 y3 y4 y5 => K .normal [(1, .v U9 y0), (2, .v .bool y1), (7, .v U2 y2), (8, .v U3 y3), (10, .it y4 y5)])) := by
  kernel_rfl
def g118_5 (x0 : V4) (x1 : Bool) (x2 x3 : Int) (x4 : V1) (x5 : Nat) (k0 : V4 → Bool → Int → V1 → Nat → Bool → Option R) : Option R :=
(x0 (x3, ())).bind fun r77 =>
k0 x0 x1 x2 x4 x5 (r77 == x1)
theorem t118_5 (x0 x1 x2 x3 x4 x5) : exec cl N c118_5 [(1, .v U9 x0), (2, .v .bool x1), (7, .v U2 x2), (8, .v U3 x3), (10, .it x4 x5)] K = (g118_5 x0 x1 x2 x3 x4 x5 (fun y0 y1 y2 y3 y4 y5 => K .normal (e18 y0 y1 y2 y3 y4 y5))) := by
  kernel_rfl
def g118_6 (x0 : V4) (x1 : Bool) (x2 : Int) (x3 : V1) (x4 : Nat) (x5 : Bool) (k0 : Int → Option R) : Option R :=
k0 x2
theorem t118_6 (x0 x1 x2 x3 x4 x5) : exec cl N c118_6 (e18 x0 x1 x2 x3 x4 x5) K = (g118_6 x0 x1 x2 x3 x4 x5 (fun y0 => K .normal [(6, .v U2 y0)])) := by
  kernel_rfl
theorem kp118_2 (x0) : keep [1, 2, 6, 10] [(6, .v U2 x0)] = (e19 x0) := by kernel_rfl
theorem kp118_3 (x0 x1 x2 x3 x4 x5) : keep [1, 2, 6, 10] (e18 x0 x1 x2 x3 x4 x5) = (e20 x0 x1 x3 x4) := by kernel_rfl
theorem hb118_1 (x0 x1 x2 x3 x4 x5) : boolOf? (ent (e18 x0 x1 x2 x3 x4 x5) (.t 19)) = some x5 := by kernel_rfl
theorem kp118_4 (x0) : keep [1, 2, 6, 10] (e19 x0) = (e19 x0) := by kernel_rfl
theorem kp118_5 (x0 x1 x2 x3) : keep [1, 2, 6, 10] (e20 x0 x1 x2 x3) = (e20 x0 x1 x2 x3) := by kernel_rfl
theorem kp118_6 (x0 x1 x2 x3 x4 x5) : keep [1, 2, 10, 11] (e16 x0 x1 x2 x3 x4 x5) = (e21 x0 x1 x2 x3 x4) := by kernel_rfl
theorem hb118_2 (x0 x1 x2 x3 x4 x5) : boolOf? (ent (e16 x0 x1 x2 x3 x4 x5) (.t 12)) = some x5 := by kernel_rfl
def g118_4b (x0 : V4) (x1 : Bool) (x2 : V1) (x3 : Nat) (x4 : Bool) : Option R :=
none /- extract 1 of 1 -/
theorem t118_4b (x0 x1 x2 x3 x4) : exec cl N c118_4 (e21 x0 x1 x2 x3 x4) K = (g118_4b x0 x1 x2 x3 x4) := by
  kernel_rfl
def g118_9 (x0 : V4) (x1 : Bool) (x2 : V1) (x3 : Nat) (k0 : Int → Option R) (k1 : V4 → Bool → V1 → Nat → Option R) (k2 : V4 → Bool → V1 → Nat → Bool → Int → Int → Option R) (k3 : V4 → Bool → V1 → Nat → Bool → Option R) : Option R :=
(g118_2 x0 x1 x2 x3 (fun y0 y1 y2 y3 y4 y5 y6 y7 => brB y7 ((fun y0 y1 y2 y3 y4 y5 y6 => (g118_4 y0 y1 y2 y3 y4 y5 y6 (fun y0 y1 y2 y3 y4 y5 => (g118_5 y0 y1 y2 y3 y4 y5 (fun y0 y1 y2 y3 y4 y5 => brB y5 (g118_6 y0 y1 y2 y3 y4 y5 (fun y0 => ((fun y0 => (k0 y0)) y0))) (k1 y0 y1 y3 y4)))))) y0 y1 y2 y3 y4 y5 y6) (k2 y0 y1 y2 y3 y4 y5 y6)) (fun y0 y1 y2 y3 y4 y5 => brB y5 (g118_4b y0 y1 y2 y3 y4) (k3 y0 y1 y2 y3 y4)))
theorem t118_9 (x0 x1 x2 x3) : exec cl N c118_9 (e14 x0 x1 x2 x3) K = (g118_9 x0 x1 x2 x3 (fun y0 => K .ret (e19 y0)) (fun y0 y1 y2 y3 => K .normal (e20 y0 y1 y2 y3)) (fun y0 y1 y2 y3 y4 y5 y6 => K (.exit 0) (e17 y0 y1 y2 y3 y4 y5 y6)) (fun y0 y1 y2 y3 y4 => K (.exit 0) (e21 y0 y1 y2 y3 y4))) := by
  simp only [c118_9, exec_seq, seqK_normal, seqK_exit, seqK_ret, t118_2, c118_3, exec_out, exec_cond', hb118_0, Option.bind_some, brB_true, brB_false, exec_skip, exec_exit, kp118_1, c118_8, exec_block, t118_4, t118_5, c118_7, hb118_1, t118_6, exec_ret, kp118_2, kp118_3, blockK_normal, blockK_ret, blockK_eq, kp118_4, kp118_5, hb118_2, kp118_6, t118_4b]
  rfl
theorem kp118_7 (x0 x1 x2 x3) : keep [1, 2, 10] (e20 x0 x1 x2 x3) = (e14 x0 x1 x2 x3) := by kernel_rfl
def l118_10 {R : Type} (k0 : Int → Option R) (k1 : V4 → Bool → V1 → Nat → Bool → Int → Int → Option R) (k2 : V4 → Bool → V1 → Nat → Bool → Option R) : Nat → V4 → Bool → V1 → Nat → Option R
  | 0, _, _, _, _ => none
  | m + 1, x0, x1, x2, x3 => (g118_9 x0 x1 x2 x3 k0 (fun y0 y1 y2 y3 => l118_10 k0 k1 k2 m y0 y1 y2 y3) k1 k2)
theorem lt118_10 : ∀ (m) (x0 x1 x2 x3), iter [1, 2, 10] (fun env K => exec cl N c118_9 env K) K m (e14 x0 x1 x2 x3) = l118_10 (fun y0 => K .ret (e19 y0)) (fun y0 y1 y2 y3 y4 y5 y6 => K (.exit 0) (e17 y0 y1 y2 y3 y4 y5 y6)) (fun y0 y1 y2 y3 y4 => K (.exit 0) (e21 y0 y1 y2 y3 y4)) m x0 x1 x2 x3 := by
  intro m
  induction m with
  | zero => intros; rfl
  | succ m ih =>
    intro x0 x1 x2 x3
    simp only [iter_succ, t118_9, loopK_normal, loopK_exit, loopK_ret, kp118_7, ih]
    rfl
theorem kp118_8 (x0) : keep [6] (e19 x0) = [(6, .v U2 x0)] := by kernel_rfl
theorem kp118_9 (x0 x1 x2 x3 x4 x5 x6) : keep [6] (e17 x0 x1 x2 x3 x4 x5 x6) = [(6, .dead)] := by kernel_rfl
theorem kp118_10 (x0 x1 x2 x3 x4) : keep [6] (e21 x0 x1 x2 x3 x4) = [(6, .dead)] := by kernel_rfl
def g118_10 (N : Nat) (x0 : V4) (x1 : Bool) (x2 : V1) (x3 : Nat) (k0 : Int → Option R) (k1 : Option R) : Option R :=
l118_10 (fun y0 => k0 y0) (fun y0 y1 y2 y3 y4 y5 y6 => k1) (fun y0 y1 y2 y3 y4 => k1) N x0 x1 x2 x3
theorem t118_10 (x0 x1 x2 x3) : exec cl N c118_10 (e14 x0 x1 x2 x3) K = (g118_10 N x0 x1 x2 x3 (fun y0 => K .ret [(6, .v U2 y0)]) (K (.exit 0) [(6, .dead)])) := by
  simp only [c118_10, exec_out, exec_loop, kp118_0, lt118_10, kp118_10, kp118_8, kp118_9]
  rfl
theorem kp118_11 (x0) : keep [6] [(6, .v U2 x0)] = [(6, .v U2 x0)] := by kernel_rfl
theorem kp118_12 : keep [6] [(6, .dead)] = [(6, .dead)] := by kernel_rfl
def g118_12 (k0 : Int → Option R) : Option R :=
k0 (-1 : Int)
theorem t118_12 : exec cl N c118_12 [(6, .dead)] K = (g118_12 (fun y0 => K .normal [(6, .v U2 y0)])) := by
  kernel_rfl
def g118_13 (N : Nat) (x0 : V1) (x1 : V4) (x2 : Bool) (k0 : Int → Option R) : Option R :=
(g118_0 x0 x1 x2 (fun y0 y1 y2 => (g118_1 y0 y1 y2 (fun y0 y1 y2 y3 => (g118_10 N y0 y1 y2 y3 (fun y0 => (k0 y0)) (g118_12 (fun y0 => (k0 y0))))))))
theorem t118_13 (x0 x1 x2) : exec cl N c118_13 (e13 x0 x1 x2) K = (g118_13 N x0 x1 x2 (fun y0 => K .ret [(6, .v U2 y0)])) := by
  simp only [c118_13, exec_seq, seqK_normal, seqK_exit, seqK_ret, t118_0, t118_1, c118_11, exec_out, exec_block, t118_10, blockK_normal, blockK_ret, blockK_eq, kp118_11, kp118_12, t118_12, exec_ret]
  rfl
theorem rk118_0 (y0) : retK d118 .ret [(6, .v U2 y0)] = some [.v U2 y0] := by kernel_rfl
def g118 (N : Nat) (x0 : V1) (x1 : V4) (x2 : Bool) (k : Int → Option R) : Option R :=
(g118_13 N x0 x1 x2 (fun y0 => k y0))
theorem gen118 {N : Nat} {cl : Cal} (x0 : V1) (x1 : V4) (x2 : Bool) {R : Type} (k : List E → Option R) : exec cl N c118 (params 0 [.v .str x0, .v U9 x1, .v .bool x2]) (fun e env => (retK d118 e env).bind k) = g118 N x0 x1 x2 (fun (r0 : Int) => k [.v U2 r0]) := by
  have e0 : params 0 [.v .str x0, .v U9 x1, .v .bool x2] = (e13 x0 x1 x2) := by kernel_rfl
  simp only [c118, e0, t118_13, rk118_0, Option.bind_some]
  rfl
def ctr118 (S : V1 → V4 → Bool → Option (Int)) : Ctr := { A := V1 × V4 × Bool × Unit, B := Int, f := 118, enc := fun a => [.v .str a.1, .v U9 a.2.1, .v .bool a.2.2.1], dec := (decC (decV .str) (decC (decV U9) (decC (decV .bool) dec0))), S := fun a => S a.1 a.2.1 a.2.2.1, ent := fun b => [.v U2 b], ok := (decV_cons (T := .str) (decV_cons (T := U9) (decV_cons (T := .bool) (fun es b h => dec0_some h)))) }
def S118 (N : Nat) (x0 : V1) (x1 : V4) (x2 : Bool) : Option (Int) := g118 N x0 x1 x2 (fun (r0 : Int) => some (r0))
def g111_0 (x0 : V1) (x1 : V4) (k0 : V1 → V4 → Option R) : Option R :=
k0 x0 x1
theorem t111_0 (x0 x1) : exec cl N c111_0 (e22 x0 x1) K = (g111_0 x0 x1 (fun y0 y1 => K .normal (e22 y0 y1))) := by
  kernel_rfl
def g111_1 (S118 : V1 → V4 → Bool → Option (Int)) (x0 : V1) (x1 : V4) (k0 : Int → Option R) : Option R :=
(S118 x0 x1 true).bind fun r79 =>
k0 r79
theorem t111_1 (S118) (h118 : (ctr118 S118).holds cl) (x0 x1) : exec cl N c111_1 (e22 x0 x1) K = (g111_1 S118 x0 x1 (fun y0 => K .normal [(4, .v U2 y0)])) := by
  rw [← put_eq h118]
  kernel_rfl
def g111_2 (S118 : V1 → V4 → Bool → Option (Int)) (x0 : V1) (x1 : V4) (k0 : Int → Option R) : Option R :=
(g111_0 x0 x1 (fun y0 y1 => (g111_1 S118 y0 y1 (fun y0 => (k0 y0)))))
theorem t111_2 (S118) (h118 : (ctr118 S118).holds cl) (x0 x1) : exec cl N c111_2 (e22 x0 x1) K = (g111_2 S118 x0 x1 (fun y0 => K .ret [(4, .v U2 y0)])) := by
  simp only [c111_2, exec_seq, seqK_normal, seqK_exit, seqK_ret, t111_0, t111_1 S118 h118, exec_ret]
  rfl
theorem rk111_0 (y0) : retK d111 .ret [(4, .v U2 y0)] = some [.v U2 y0] := by kernel_rfl
def g111 (S118 : V1 → V4 → Bool → Option (Int)) (x0 : V1) (x1 : V4) (k : Int → Option R) : Option R :=
(g111_2 S118 x0 x1 (fun y0 => k y0))
theorem gen111 {N : Nat} {cl : Cal} (S118 : V1 → V4 → Bool → Option (Int)) (h118 : (ctr118 S118).holds cl) (x0 : V1) (x1 : V4) {R : Type} (k : List E → Option R) : exec cl N c111 (params 0 [.v .str x0, .v U9 x1]) (fun e env => (retK d111 e env).bind k) = g111 S118 x0 x1 (fun (r0 : Int) => k [.v U2 r0]) := by
  have e0 : params 0 [.v .str x0, .v U9 x1] = (e22 x0 x1) := by kernel_rfl
  simp only [c111, e0, t111_2 S118 h118, rk111_0, Option.bind_some]
  rfl
def ctr111 (S : V1 → V4 → Option (Int)) : Ctr := { A := V1 × V4 × Unit, B := Int, f := 111, enc := fun a => [.v .str a.1, .v U9 a.2.1], dec := (decC (decV .str) (decC (decV U9) dec0)), S := fun a => S a.1 a.2.1, ent := fun b => [.v U2 b], ok := (decV_cons (T := .str) (decV_cons (T := U9) (fun es b h => dec0_some h))) }
def S111 (N : Nat) (x0 : V1) (x1 : V4) : Option (Int) := g111 (S118 N) x0 x1 (fun (r0 : Int) => some (r0))
def g98_0 (x0 : V1) (x1 : V4) (k0 : V1 → V4 → Option R) : Option R :=
k0 x0 x1
theorem t98_0 (x0 x1) : exec cl N c98_0 (e22 x0 x1) K = (g98_0 x0 x1 (fun y0 y1 => K .normal (e22 y0 y1))) := by
  kernel_rfl
def g98_1 (S111 : V1 → V4 → Option (Int)) (x0 : V1) (x1 : V4) (k0 : Bool → Option R) : Option R :=
(S111 x0 x1).bind fun r82 =>
k0 (decide (r82 ≥ (0 : Int)))
theorem t98_1 (S111) (h111 : (ctr111 S111).holds cl) (x0 x1) : exec cl N c98_1 (e22 x0 x1) K = (g98_1 S111 x0 x1 (fun y0 => K .normal [(4, .v .bool y0)])) := by
  rw [← put_eq h111]
  kernel_rfl
def g98_2 (S111 : V1 → V4 → Option (Int)) (x0 : V1) (x1 : V4) (k0 : Bool → Option R) : Option R :=
(g98_0 x0 x1 (fun y0 y1 => (g98_1 S111 y0 y1 (fun y0 => (k0 y0)))))
theorem t98_2 (S111) (h111 : (ctr111 S111).holds cl) (x0 x1) : exec cl N c98_2 (e22 x0 x1) K = (g98_2 S111 x0 x1 (fun y0 => K .ret [(4, .v .bool y0)])) := by
  simp only [c98_2, exec_seq, seqK_normal, seqK_exit, seqK_ret, t98_0, t98_1 S111 h111, exec_ret]
  rfl
theorem rk98_0 (y0) : retK d98 .ret [(4, .v .bool y0)] = some [.v .bool y0] := by kernel_rfl
def g98 (S111 : V1 → V4 → Option (Int)) (x0 : V1) (x1 : V4) (k : Bool → Option R) : Option R :=
(g98_2 S111 x0 x1 (fun y0 => k y0))
theorem gen98 {N : Nat} {cl : Cal} (S111 : V1 → V4 → Option (Int)) (h111 : (ctr111 S111).holds cl) (x0 : V1) (x1 : V4) {R : Type} (k : List E → Option R) : exec cl N c98 (params 0 [.v .str x0, .v U9 x1]) (fun e env => (retK d98 e env).bind k) = g98 S111 x0 x1 (fun (r0 : Bool) => k [.v .bool r0]) := by
  have e0 : params 0 [.v .str x0, .v U9 x1] = (e22 x0 x1) := by kernel_rfl
  simp only [c98, e0, t98_2 S111 h111, rk98_0, Option.bind_some]
  rfl
def ctr98 (S : V1 → V4 → Option (Bool)) : Ctr := { A := V1 × V4 × Unit, B := Bool, f := 98, enc := fun a => [.v .str a.1, .v U9 a.2.1], dec := (decC (decV .str) (decC (decV U9) dec0)), S := fun a => S a.1 a.2.1, ent := fun b => [.v .bool b], ok := (decV_cons (T := .str) (decV_cons (T := U9) (fun es b h => dec0_some h))) }
def S98 (N : Nat) (x0 : V1) (x1 : V4) : Option (Bool) := g98 (S111 N) x0 x1 (fun (r0 : Bool) => some (r0))
def g85_0 (x0 : V6) (k0 : V6 → Option R) : Option R :=
k0 x0
theorem t85_0 (x0) : exec cl N c85_0 [(0, .v U14 x0)] K = (g85_0 x0 (fun y0 => K .normal [(1, .loc U14 .no y0)])) := by
  kernel_rfl
def g85_1 (x0 : V6) (k0 : V6 → Bool → Option R) : Option R :=
brB (decide (x0.1 < (1 : Int))) (k0 x0 true) (k0 x0 (decide (x0.1 > (9 : Int))))
theorem t85_1 (x0) : exec cl N c85_1 [(1, .loc U14 .no x0)] K = (g85_1 x0 (fun y0 y1 => K .normal (e23 y0 y1))) := by
  kernel_rfl
def g85_2 (x0 : V6) (x1 : Bool) (k0 : Int → Option R) : Option R :=
k0 (1 : Int)
theorem t85_2 (x0 x1) : exec cl N c85_2 (e23 x0 x1) K = (g85_2 x0 x1 (fun y0 => K .normal [(2, .v U2 y0)])) := by
  kernel_rfl
theorem kp85_0 (x0) : keep [2] [(2, .v U2 x0)] = [(2, .v U2 x0)] := by kernel_rfl
def g85_3 (S97 : V6 → Option (Bool)) (x0 : V6) (x1 : Bool) (k0 : V6 → Bool → Option R) : Option R :=
(S97 x0).bind fun r87 =>
k0 x0 (!r87)
theorem t85_3 (S97) (h97 : (ctr97 S97).holds cl) (x0 x1) : exec cl N c85_3 (e23 x0 x1) K = (g85_3 S97 x0 x1 (fun y0 y1 => K .normal (e24 y0 y1))) := by
  rw [← put_eq h97]
  kernel_rfl
def g85_4 (x0 : V6) (x1 : Bool) (k0 : Int → Option R) : Option R :=
k0 (6 : Int)
theorem t85_4 (x0 x1) : exec cl N c85_4 (e24 x0 x1) K = (g85_4 x0 x1 (fun y0 => K .normal [(2, .v U2 y0)])) := by
  kernel_rfl
def g85_5 (x0 : V6) (x1 : Bool) (k0 : V6 → Bool → Option R) : Option R :=
k0 x0 (x0.2.2.1 == ([] : List UInt8))
theorem t85_5 (x0 x1) : exec cl N c85_5 (e24 x0 x1) K = (g85_5 x0 x1 (fun y0 y1 => K .normal (e25 y0 y1))) := by
  kernel_rfl
def g85_6 (x0 : V6) (x1 : Bool) (k0 : Int → Option R) : Option R :=
k0 (7 : Int)
theorem t85_6 (x0 x1) : exec cl N c85_6 (e25 x0 x1) K = (g85_6 x0 x1 (fun y0 => K .normal [(2, .v U2 y0)])) := by
  kernel_rfl
def g85_7 (x0 : V6) (x1 : Bool) (k0 : V6 → Bool → Option R) : Option R :=
k0 x0 (decide ((x0.2.2.1.length : Int) > (8 : Int)))
theorem t85_7 (x0 x1) : exec cl N c85_7 (e25 x0 x1) K = (g85_7 x0 x1 (fun y0 y1 => K .normal (e26 y0 y1))) := by
  kernel_rfl
def g85_8 (x0 : V6) (x1 : Bool) (k0 : Int → Option R) : Option R :=
k0 (3 : Int)
theorem t85_8 (x0 x1) : exec cl N c85_8 (e26 x0 x1) K = (g85_8 x0 x1 (fun y0 => K .normal [(2, .v U2 y0)])) := by
  kernel_rfl
def g85_9 (S98 : V1 → V4 → Option (Bool)) (S99 : Int → Option (Bool)) (x0 : V6) (x1 : Bool) (k0 : Bool → Option R) : Option R :=
(S98 x0.2.2.1 (fun (x90 : (Int × Unit)) => ((S99 x90.1).bind fun b91 => some [.v .bool b91]).bind (unE .bool))).bind fun r92 =>
k0 r92
theorem t85_9 (S98) (S99) (h98 : (ctr98 S98).holds cl) (h99 : (ctr99 S99).holds cl) (x0 x1) : exec cl N c85_9 (e26 x0 x1) K = (g85_9 S98 S99 x0 x1 (fun y0 => K .normal [(25, .v .bool y0)])) := by
  rw [← put_eq h98]
  rw [← put_eq h99]
  kernel_rfl
def g85_10 (x0 : Bool) (k0 : Int → Option R) : Option R :=
k0 (2 : Int)
theorem t85_10 (x0) : exec cl N c85_10 [(25, .v .bool x0)] K = (g85_10 x0 (fun y0 => K .normal [(2, .v U2 y0)])) := by
  kernel_rfl
theorem kp85_1 (x0) : keep [2] [(25, .v .bool x0)] = [(2, .dead)] := by kernel_rfl
theorem hb85_0 (x0) : boolOf? (ent [(25, .v .bool x0)] (.t 25)) = some x0 := by kernel_rfl
theorem kp85_2 : keep [2] [(2, .dead)] = [(2, .dead)] := by kernel_rfl
theorem hb85_1 (x0 x1) : boolOf? (ent (e26 x0 x1) (.t 20)) = some x1 := by kernel_rfl
theorem hb85_2 (x0 x1) : boolOf? (ent (e25 x0 x1) (.t 16)) = some x1 := by kernel_rfl
theorem hb85_3 (x0 x1) : boolOf? (ent (e24 x0 x1) (.t 12)) = some x1 := by kernel_rfl
theorem hb85_4 (x0 x1) : boolOf? (ent (e23 x0 x1) (.t 3)) = some x1 := by kernel_rfl
def g85_17 (k0 : Int → Option R) : Option R :=
k0 (0 : Int)
theorem t85_17 : exec cl N c85_17 [(2, .dead)] K = (g85_17 (fun y0 => K .normal [(2, .v U2 y0)])) := by
  kernel_rfl
def g85_18 (S97 : V6 → Option (Bool)) (S98 : V1 → V4 → Option (Bool)) (S99 : Int → Option (Bool)) (x0 : V6) (k0 : Int → Option R) : Option R :=
(g85_0 x0 (fun y0 => (g85_1 y0 (fun y0 y1 => brB y1 (g85_2 y0 y1 (fun y0 => ((fun y0 => (k0 y0)) y0))) (g85_3 S97 y0 y1 (fun y0 y1 => brB y1 (g85_4 y0 y1 (fun y0 => ((fun y0 => (k0 y0)) y0))) (g85_5 y0 y1 (fun y0 y1 => brB y1 (g85_6 y0 y1 (fun y0 => ((fun y0 => (k0 y0)) y0))) (g85_7 y0 y1 (fun y0 y1 => brB y1 (g85_8 y0 y1 (fun y0 => ((fun y0 => (k0 y0)) y0))) (g85_9 S98 S99 y0 y1 (fun y0 => brB y0 (g85_10 y0 (fun y0 => ((fun y0 => (k0 y0)) y0))) (g85_17 (fun y0 => (k0 y0)))))))))))))))
theorem t85_18 (S97) (S98) (S99) (h97 : (ctr97 S97).holds cl) (h98 : (ctr98 S98).holds cl) (h99 : (ctr99 S99).holds cl) (x0) : exec cl N c85_18 [(0, .v U14 x0)] K = (g85_18 S97 S98 S99 x0 (fun y0 => K .ret [(2, .v U2 y0)])) := by
  simp only [c85_18, exec_seq, seqK_normal, seqK_exit, seqK_ret, t85_0, c85_16, exec_out, exec_block, t85_1, c85_15, exec_cond', hb85_4, Option.bind_some, brB_true, brB_false, t85_2, exec_ret, t85_3 S97 h97, c85_14, hb85_3, t85_4, t85_5, c85_13, hb85_2, t85_6, t85_7, c85_12, hb85_1, t85_8, t85_9 S98 S99 h98 h99, c85_11, hb85_0, t85_10, exec_skip, kp85_0, kp85_1, kp85_2, blockK_normal, blockK_ret, blockK_eq, t85_17]
  rfl
theorem rk85_0 (y0) : retK d85 .ret [(2, .v U2 y0)] = some [.v U2 y0] := by kernel_rfl
def g85 (S97 : V6 → Option (Bool)) (S98 : V1 → V4 → Option (Bool)) (S99 : Int → Option (Bool)) (x0 : V6) (k : Int → Option R) : Option R :=
(g85_18 S97 S98 S99 x0 (fun y0 => k y0))
theorem gen85 {N : Nat} {cl : Cal} (S97 : V6 → Option (Bool)) (S98 : V1 → V4 → Option (Bool)) (S99 : Int → Option (Bool)) (h97 : (ctr97 S97).holds cl) (h98 : (ctr98 S98).holds cl) (h99 : (ctr99 S99).holds cl) (x0 : V6) {R : Type} (k : List E → Option R) : exec cl N c85 (params 0 [.v U14 x0]) (fun e env => (retK d85 e env).bind k) = g85 S97 S98 S99 x0 (fun (r0 : Int) => k [.v U2 r0]) := by
  have e0 : params 0 [.v U14 x0] = [(0, .v U14 x0)] := by kernel_rfl
  simp only [c85, e0, t85_18 S97 S98 S99 h97 h98 h99, rk85_0, Option.bind_some]
  rfl
def ctr85 (S : V6 → Option (Int)) : Ctr := { A := V6 × Unit, B := Int, f := 85, enc := fun a => [.v U14 a.1], dec := (decC (decV U14) dec0), S := fun a => S a.1, ent := fun b => [.v U2 b], ok := (decV_cons (T := U14) (fun es b h => dec0_some h)) }
def S85 (N : Nat) (x0 : V6) : Option (Int) := g85 (S97 N) (S98 N) (S99 N) x0 (fun (r0 : Int) => some (r0))
def g60_0 (x0 : V7) (k0 : V7 → Option R) : Option R :=
k0 x0
theorem t60_0 (x0) : exec cl N c60_0 [(0, .v U17 x0)] K = (g60_0 x0 (fun y0 => K .normal [(0, .v U17 y0)])) := by
  kernel_rfl
def g60_1 (x0 : V7) (k0 : V7 → Bool → Option R) : Option R :=
k0 x0 (decide ((x0.length : Int) > (200 : Int)))
theorem t60_1 (x0) : exec cl N c60_1 [(0, .v U17 x0)] K = (g60_1 x0 (fun y0 y1 => K .normal (e27 y0 y1))) := by
  kernel_rfl
def g60_2 (x0 : V7) (x1 : Bool) (k0 : Int → Option R) : Option R :=
k0 (3 : Int)
theorem t60_2 (x0 x1) : exec cl N c60_2 (e27 x0 x1) K = (g60_2 x0 x1 (fun y0 => K .normal [(2, .v U2 y0)])) := by
  kernel_rfl
theorem kp60_0 (x0) : keep [0, 2] [(2, .v U2 x0)] = (e28 x0) := by kernel_rfl
theorem kp60_1 (x0 x1) : keep [0, 2] (e27 x0 x1) = (e29 x0) := by kernel_rfl
theorem hb60_0 (x0 x1) : boolOf? (ent (e27 x0 x1) (.t 8)) = some x1 := by kernel_rfl
def g60_4 (x0 : V7) (k0 : V7 → Int → Int → Option R) : Option R :=
k0 x0 (x0.length : Int) (0 : Int)
theorem t60_4 (x0) : exec cl N c60_4 (e29 x0) K = (g60_4 x0 (fun y0 y1 y2 => K .normal (e30 y0 y1 y2))) := by
  kernel_rfl
theorem kp60_2 (x0 x1 x2) : keep [9, 10, 11] (e30 x0 x1 x2) = (e30 x0 x1 x2) := by kernel_rfl
def g60_5 (x0 : V7) (x1 x2 : Int) (k0 : V7 → Int → Int → Bool → Option R) : Option R :=
k0 x0 x1 x2 (decide (x2 < x1))
theorem t60_5 (x0 x1 x2) : exec cl N c60_5 (e30 x0 x1 x2) K = (g60_5 x0 x1 x2 (fun y0 y1 y2 y3 => K .normal (e31 y0 y1 y2 y3))) := by
  kernel_rfl
theorem kp60_3 (x0 x1 x2 x3) : keep [9, 10, 11] (e31 x0 x1 x2 x3) = (e30 x0 x1 x2) := by kernel_rfl
theorem hb60_1 (x0 x1 x2 x3) : boolOf? (ent (e31 x0 x1 x2 x3) (.t 12)) = some x3 := by kernel_rfl
def g60_7 (x0 : V7) (x1 x2 : Int) (k0 : V6 → V7 → Int → Int → Option R) : Option R :=
if 0 ≤ x2 ∧ x2 < (x0.length : Int) then
k0 (x0.getD x2.toNat ((0 : Int), ((0 : Int), ([], ())))) x0 x1 x2
else none
theorem t60_7 (x0 x1 x2) : exec cl N c60_7 (e30 x0 x1 x2) K = (g60_7 x0 x1 x2 (fun y0 y1 y2 y3 => K .normal [(4, .loc U14 .no y0), (9, .v U17 y1), (10, .v U2 y2), (11, .v U2 y3)])) := by
  kernel_rfl
def g60_8 (S85 : V6 → Option (Int)) (x0 : V6) (x1 : V7) (x2 x3 : Int) (k0 : Int → V7 → Int → Int → Option R) : Option R :=
(S85 x0).bind fun r98 =>
k0 r98 x1 x2 x3
theorem t60_8 (S85) (h85 : (ctr85 S85).holds cl) (x0 x1 x2 x3) : exec cl N c60_8 [(4, .loc U14 .no x0), (9, .v U17 x1), (10, .v U2 x2), (11, .v U2 x3)] K = (g60_8 S85 x0 x1 x2 x3 (fun y0 y1 y2 y3 => K .normal [(5, .v U2 y0), (9, .v U17 y1), (10, .v U2 y2), (11, .v U2 y3)])) := by
  rw [← put_eq h85]
  kernel_rfl
def g60_9 (x0 : Int) (x1 : V7) (x2 x3 : Int) (k0 : Int → V7 → Int → Int → Bool → Option R) : Option R :=
k0 x0 x1 x2 x3 (x0 != (0 : Int))
theorem t60_9 (x0 x1 x2 x3) : exec cl N c60_9 [(5, .v U2 x0), (9, .v U17 x1), (10, .v U2 x2), (11, .v U2 x3)] K = (g60_9 x0 x1 x2 x3 (fun y0 y1 y2 y3 y4 => K .normal (e32 y0 y1 y2 y3 y4))) := by
  kernel_rfl
def g60_10 (x0 : Int) (x1 : V7) (x2 x3 : Int) (x4 : Bool) (k0 : Int → Option R) : Option R :=
k0 x0
theorem t60_10 (x0 x1 x2 x3 x4) : exec cl N c60_10 (e32 x0 x1 x2 x3 x4) K = (g60_10 x0 x1 x2 x3 x4 (fun y0 => K .normal [(2, .v U2 y0)])) := by
  kernel_rfl
theorem kp60_4 (x0) : keep [2, 9, 10, 11] [(2, .v U2 x0)] = (e33 x0) := by kernel_rfl
theorem kp60_5 (x0 x1 x2 x3 x4) : keep [2, 9, 10, 11] (e32 x0 x1 x2 x3 x4) = (e34 x1 x2 x3) := by kernel_rfl
theorem hb60_2 (x0 x1 x2 x3 x4) : boolOf? (ent (e32 x0 x1 x2 x3 x4) (.t 18)) = some x4 := by kernel_rfl
theorem kp60_6 (x0) : keep [2, 9, 10, 11] (e33 x0) = (e33 x0) := by kernel_rfl
theorem kp60_7 (x0 x1 x2) : keep [2, 9, 10, 11] (e34 x0 x1 x2) = (e34 x0 x1 x2) := by kernel_rfl
def g60_13 (x0 : V7) (x1 x2 : Int) (k0 : V7 → Int → Int → Option R) : Option R :=
k0 x0 x1 (IntKind.i64.wrap (x2 + (1 : Int)))
theorem t60_13 (x0 x1 x2) : exec cl N c60_13 (e34 x0 x1 x2) K = (g60_13 x0 x1 x2 (fun y0 y1 y2 => K .normal (e30 y0 y1 y2))) := by
  kernel_rfl
def g60_14 (S85 : V6 → Option (Int)) (x0 : V7) (x1 x2 : Int) (k0 : Int → Option R) (k1 : V7 → Int → Int → Option R) (k2 : V7 → Int → Int → Option R) : Option R :=
(g60_5 x0 x1 x2 (fun y0 y1 y2 y3 => brB y3 ((fun y0 y1 y2 => (g60_7 y0 y1 y2 (fun y0 y1 y2 y3 => (g60_8 S85 y0 y1 y2 y3 (fun y0 y1 y2 y3 => (g60_9 y0 y1 y2 y3 (fun y0 y1 y2 y3 y4 => brB y4 (g60_10 y0 y1 y2 y3 y4 (fun y0 => ((fun y0 => (k0 y0)) y0))) (g60_13 y1 y2 y3 k1)))))))) y0 y1 y2) (k2 y0 y1 y2)))
theorem t60_14 (S85) (h85 : (ctr85 S85).holds cl) (x0 x1 x2) : exec cl N c60_14 (e30 x0 x1 x2) K = (g60_14 S85 x0 x1 x2 (fun y0 => K .ret (e33 y0)) (fun y0 y1 y2 => K .normal (e30 y0 y1 y2)) (fun y0 y1 y2 => K (.exit 0) (e30 y0 y1 y2))) := by
  simp only [c60_14, exec_seq, seqK_normal, seqK_exit, seqK_ret, t60_5, c60_6, exec_out, exec_cond', hb60_1, Option.bind_some, brB_true, brB_false, exec_skip, exec_exit, kp60_3, c60_12, exec_block, t60_7, t60_8 S85 h85, t60_9, c60_11, hb60_2, t60_10, exec_ret, kp60_4, kp60_5, blockK_normal, blockK_ret, blockK_eq, kp60_6, kp60_7, t60_13]
  rfl
def l60_15 {R : Type} (S85 : V6 → Option (Int)) (k0 : Int → Option R) (k1 : V7 → Int → Int → Option R) : Nat → V7 → Int → Int → Option R
  | 0, _, _, _ => none
  | m + 1, x0, x1, x2 => (g60_14 S85 x0 x1 x2 k0 (fun y0 y1 y2 => l60_15 S85 k0 k1 m y0 y1 y2) k1)
theorem lt60_15 (S85) (h85 : (ctr85 S85).holds cl) : ∀ (m) (x0 x1 x2), iter [9, 10, 11] (fun env K => exec cl N c60_14 env K) K m (e30 x0 x1 x2) = l60_15 S85 (fun y0 => K .ret (e33 y0)) (fun y0 y1 y2 => K (.exit 0) (e30 y0 y1 y2)) m x0 x1 x2 := by
  intro m
  induction m with
  | zero => intros; rfl
  | succ m ih =>
    intro x0 x1 x2
    simp only [iter_succ, t60_14 S85 h85, loopK_normal, loopK_exit, loopK_ret, kp60_2, ih]
    rfl
theorem kp60_8 (x0) : keep [2] (e33 x0) = [(2, .v U2 x0)] := by kernel_rfl
theorem kp60_9 (x0 x1 x2) : keep [2] (e30 x0 x1 x2) = [(2, .dead)] := by kernel_rfl
def g60_15 (N : Nat) (S85 : V6 → Option (Int)) (x0 : V7) (x1 x2 : Int) (k0 : Int → Option R) (k1 : Option R) : Option R :=
l60_15 S85 (fun y0 => k0 y0) (fun y0 y1 y2 => k1) N x0 x1 x2
theorem t60_15 (S85) (h85 : (ctr85 S85).holds cl) (x0 x1 x2) : exec cl N c60_15 (e30 x0 x1 x2) K = (g60_15 N S85 x0 x1 x2 (fun y0 => K .ret [(2, .v U2 y0)]) (K (.exit 0) [(2, .dead)])) := by
  simp only [c60_15, exec_out, exec_loop, kp60_2, lt60_15 S85 h85, kp60_8, kp60_9]
  rfl
theorem kp60_10 (x0) : keep [2] [(2, .v U2 x0)] = [(2, .v U2 x0)] := by kernel_rfl
theorem kp60_11 : keep [2] [(2, .dead)] = [(2, .dead)] := by kernel_rfl
def g60_17 (k0 : Int → Option R) : Option R :=
k0 (0 : Int)
theorem t60_17 : exec cl N c60_17 [(2, .dead)] K = (g60_17 (fun y0 => K .normal [(2, .v U2 y0)])) := by
  kernel_rfl
def g60_18 (N : Nat) (S85 : V6 → Option (Int)) (x0 : V7) (k0 : Int → Option R) (k1 : Int → Option R) : Option R :=
(g60_0 x0 (fun y0 => (g60_1 y0 (fun y0 y1 => brB y1 (g60_2 y0 y1 (fun y0 => ((fun y0 => (k0 y0)) y0))) ((fun y0 => (g60_4 y0 (fun y0 y1 y2 => (g60_15 N S85 y0 y1 y2 (fun y0 => (k1 y0)) (g60_17 (fun y0 => (k1 y0))))))) y0)))))
theorem t60_18 (S85) (h85 : (ctr85 S85).holds cl) (x0) : exec cl N c60_18 [(0, .v U17 x0)] K = (g60_18 N S85 x0 (fun y0 => K .ret (e28 y0)) (fun y0 => K .ret [(2, .v U2 y0)])) := by
  simp only [c60_18, exec_seq, seqK_normal, seqK_exit, seqK_ret, t60_0, t60_1, c60_3, exec_out, exec_cond', hb60_0, Option.bind_some, brB_true, brB_false, t60_2, exec_ret, exec_skip, kp60_0, kp60_1, t60_4, c60_16, exec_block, t60_15 S85 h85, blockK_normal, blockK_ret, blockK_eq, kp60_10, kp60_11, t60_17]
  rfl
theorem rk60_0 (y0) : retK d60 .ret (e28 y0) = some [.v U2 y0] := by kernel_rfl
theorem rk60_1 (y0) : retK d60 .ret [(2, .v U2 y0)] = some [.v U2 y0] := by kernel_rfl
def g60 (N : Nat) (S85 : V6 → Option (Int)) (x0 : V7) (k : Int → Option R) : Option R :=
(g60_18 N S85 x0 (fun y0 => k y0) (fun y0 => k y0))
theorem gen60 {N : Nat} {cl : Cal} (S85 : V6 → Option (Int)) (h85 : (ctr85 S85).holds cl) (x0 : V7) {R : Type} (k : List E → Option R) : exec cl N c60 (params 0 [.v U17 x0]) (fun e env => (retK d60 e env).bind k) = g60 N S85 x0 (fun (r0 : Int) => k [.v U2 r0]) := by
  have e0 : params 0 [.v U17 x0] = [(0, .v U17 x0)] := by kernel_rfl
  simp only [c60, e0, t60_18 S85 h85, rk60_0, rk60_1, Option.bind_some]
  rfl
def ctr60 (S : V7 → Option (Int)) : Ctr := { A := V7 × Unit, B := Int, f := 60, enc := fun a => [.v U17 a.1], dec := (decC (decV U17) dec0), S := fun a => S a.1, ent := fun b => [.v U2 b], ok := (decV_cons (T := U17) (fun es b h => dec0_some h)) }
def S60 (N : Nat) (x0 : V7) : Option (Int) := g60 N (S85 N) x0 (fun (r0 : Int) => some (r0))
def g33_0 (x0 x1 : V7) (k0 : V7 → V7 → Option R) : Option R :=
k0 x0 x1
theorem t33_0 (x0 x1) : exec cl N c33_0 (e35 x0 x1) K = (g33_0 x0 x1 (fun y0 y1 => K .normal (e35 y0 y1))) := by
  kernel_rfl
def g33_1 (S60 : V7 → Option (Int)) (x0 x1 : V7) (k0 : V7 → Int → Option R) : Option R :=
(S60 x0).bind fun r104 =>
k0 x1 r104
theorem t33_1 (S60) (h60 : (ctr60 S60).holds cl) (x0 x1) : exec cl N c33_1 (e35 x0 x1) K = (g33_1 S60 x0 x1 (fun y0 y1 => K .normal (e36 y0 y1))) := by
  rw [← put_eq h60]
  kernel_rfl
def g33_2 (x0 : V7) (x1 : Int) (k0 : V7 → Int → Bool → Option R) : Option R :=
k0 x0 x1 (x1 != (0 : Int))
theorem t33_2 (x0 x1) : exec cl N c33_2 (e36 x0 x1) K = (g33_2 x0 x1 (fun y0 y1 y2 => K .normal (e37 y0 y1 y2))) := by
  kernel_rfl
def g33_3 (x0 : V7) (x1 : Int) (x2 : Bool) (k0 : Int → Option R) : Option R :=
k0 x1
theorem t33_3 (x0 x1 x2) : exec cl N c33_3 (e37 x0 x1 x2) K = (g33_3 x0 x1 x2 (fun y0 => K .normal [(4, .v U2 y0)])) := by
  kernel_rfl
theorem kp33_0 (x0) : keep [1, 4] [(4, .v U2 x0)] = (e38 x0) := by kernel_rfl
theorem kp33_1 (x0 x1 x2) : keep [1, 4] (e37 x0 x1 x2) = (e39 x0) := by kernel_rfl
theorem hb33_0 (x0 x1 x2) : boolOf? (ent (e37 x0 x1 x2) (.t 9)) = some x2 := by kernel_rfl
def g33_5 (S60 : V7 → Option (Int)) (x0 : V7) (k0 : Int → Option R) : Option R :=
(S60 x0).bind fun r106 =>
k0 r106
theorem t33_5 (S60) (h60 : (ctr60 S60).holds cl) (x0) : exec cl N c33_5 (e39 x0) K = (g33_5 S60 x0 (fun y0 => K .normal [(4, .v U2 y0)])) := by
  rw [← put_eq h60]
  kernel_rfl
def g33_6 (S60 : V7 → Option (Int)) (x0 x1 : V7) (k0 : Int → Option R) (k1 : Int → Option R) : Option R :=
(g33_0 x0 x1 (fun y0 y1 => (g33_1 S60 y0 y1 (fun y0 y1 => (g33_2 y0 y1 (fun y0 y1 y2 => brB y2 (g33_3 y0 y1 y2 (fun y0 => ((fun y0 => (k0 y0)) y0))) ((fun y0 => (g33_5 S60 y0 (fun y0 => (k1 y0)))) y0)))))))
theorem t33_6 (S60) (h60 : (ctr60 S60).holds cl) (x0 x1) : exec cl N c33_6 (e35 x0 x1) K = (g33_6 S60 x0 x1 (fun y0 => K .ret (e38 y0)) (fun y0 => K .ret [(4, .v U2 y0)])) := by
  simp only [c33_6, exec_seq, seqK_normal, seqK_exit, seqK_ret, t33_0, t33_1 S60 h60, t33_2, c33_4, exec_out, exec_cond', hb33_0, Option.bind_some, brB_true, brB_false, t33_3, exec_ret, exec_skip, kp33_0, kp33_1, t33_5 S60 h60]
  rfl
theorem rk33_0 (y0) : retK d33 .ret (e38 y0) = some [.v U2 y0] := by kernel_rfl
theorem rk33_1 (y0) : retK d33 .ret [(4, .v U2 y0)] = some [.v U2 y0] := by kernel_rfl
def g33 (S60 : V7 → Option (Int)) (x0 x1 : V7) (k : Int → Option R) : Option R :=
(g33_6 S60 x0 x1 (fun y0 => k y0) (fun y0 => k y0))
theorem gen33 {N : Nat} {cl : Cal} (S60 : V7 → Option (Int)) (h60 : (ctr60 S60).holds cl) (x0 : V7) (x1 : V7) {R : Type} (k : List E → Option R) : exec cl N c33 (params 0 [.v U17 x0, .v U17 x1]) (fun e env => (retK d33 e env).bind k) = g33 S60 x0 x1 (fun (r0 : Int) => k [.v U2 r0]) := by
  have e0 : params 0 [.v U17 x0, .v U17 x1] = (e35 x0 x1) := by kernel_rfl
  simp only [c33, e0, t33_6 S60 h60, rk33_0, rk33_1, Option.bind_some]
  rfl
def ctr33 (S : V7 → V7 → Option (Int)) : Ctr := { A := V7 × V7 × Unit, B := Int, f := 33, enc := fun a => [.v U17 a.1, .v U17 a.2.1], dec := (decC (decV U17) (decC (decV U17) dec0)), S := fun a => S a.1 a.2.1, ent := fun b => [.v U2 b], ok := (decV_cons (T := U17) (decV_cons (T := U17) (fun es b h => dec0_some h))) }
def S33 (N : Nat) (x0 : V7) (x1 : V7) : Option (Int) := g33 (S60 N) x0 x1 (fun (r0 : Int) => some (r0))
def g64_0 (x0 : V6) (k0 : V6 → Option R) : Option R :=
k0 x0
theorem t64_0 (x0) : exec cl N c64_0 [(0, .v U14 x0)] K = (g64_0 x0 (fun y0 => K .normal [(1, .loc U14 .no y0)])) := by
  kernel_rfl
def g64_1 (x0 : V6) (k0 : Bool → Option R) : Option R :=
brB (x0.1 == (1 : Int)) (k0 true) (k0 (x0.1 == (2 : Int)))
theorem t64_1 (x0) : exec cl N c64_1 [(1, .loc U14 .no x0)] K = (g64_1 x0 (fun y0 => K .normal [(2, .v .bool y0)])) := by
  kernel_rfl
def g64_2 (x0 : V6) (k0 : Bool → Option R) : Option R :=
(g64_0 x0 (fun y0 => (g64_1 y0 (fun y0 => (k0 y0)))))
theorem t64_2 (x0) : exec cl N c64_2 [(0, .v U14 x0)] K = (g64_2 x0 (fun y0 => K .ret [(2, .v .bool y0)])) := by
  simp only [c64_2, exec_seq, seqK_normal, seqK_exit, seqK_ret, t64_0, t64_1, exec_ret]
  rfl
theorem rk64_0 (y0) : retK d64 .ret [(2, .v .bool y0)] = some [.v .bool y0] := by kernel_rfl
def g64 (x0 : V6) (k : Bool → Option R) : Option R :=
(g64_2 x0 (fun y0 => k y0))
theorem gen64 {N : Nat} {cl : Cal} (x0 : V6) {R : Type} (k : List E → Option R) : exec cl N c64 (params 0 [.v U14 x0]) (fun e env => (retK d64 e env).bind k) = g64 x0 (fun (r0 : Bool) => k [.v .bool r0]) := by
  have e0 : params 0 [.v U14 x0] = [(0, .v U14 x0)] := by kernel_rfl
  simp only [c64, e0, t64_2, rk64_0, Option.bind_some]
  rfl
def ctr64 (S : V6 → Option (Bool)) : Ctr := { A := V6 × Unit, B := Bool, f := 64, enc := fun a => [.v U14 a.1], dec := (decC (decV U14) dec0), S := fun a => S a.1, ent := fun b => [.v .bool b], ok := (decV_cons (T := U14) (fun es b h => dec0_some h)) }
def S64 (N : Nat) (x0 : V6) : Option (Bool) := g64 x0 (fun (r0 : Bool) => some (r0))
def g37_0 (x0 : V7) (k0 : V7 → Option R) : Option R :=
k0 x0
theorem t37_0 (x0) : exec cl N c37_0 [(0, .v U17 x0)] K = (g37_0 x0 (fun y0 => K .normal [(0, .v U17 y0)])) := by
  kernel_rfl
def g37_1 (x0 : V7) (k0 : V7 → Int → Option R) : Option R :=
k0 x0 (x0.length : Int)
theorem t37_1 (x0) : exec cl N c37_1 [(0, .v U17 x0)] K = (g37_1 x0 (fun y0 y1 => K .normal (e40 y0 y1))) := by
  kernel_rfl
def g37_2 (S64 : V6 → Option (Bool)) (x0 : V7) (x1 : Int) (k0 : V7 → Int → Bool → Option R) : Option R :=
brB (decide (x1 > (0 : Int))) (let v126 : Int := (IntKind.i64.wrap (x1 - (1 : Int)))
if 0 ≤ v126 ∧ v126 < (x0.length : Int) then
(S64 (x0.getD v126.toNat ((0 : Int), ((0 : Int), ([], ()))))).bind fun r127 =>
k0 x0 x1 r127
else none) (k0 x0 x1 false)
theorem t37_2 (S64) (h64 : (ctr64 S64).holds cl) (x0 x1) : exec cl N c37_2 (e40 x0 x1) K = (g37_2 S64 x0 x1 (fun y0 y1 y2 => K .normal (e41 y0 y1 y2))) := by
  rw [← put_eq h64]
  kernel_rfl
def g37_3 (x0 : V7) (x1 : Int) (x2 : Bool) (k0 : Int → Option R) : Option R :=
k0 (1 : Int)
theorem t37_3 (x0 x1 x2) : exec cl N c37_3 (e41 x0 x1 x2) K = (g37_3 x0 x1 x2 (fun y0 => K .normal [(2, .v U2 y0)])) := by
  kernel_rfl
theorem kp37_0 (x0) : keep [2] [(2, .v U2 x0)] = [(2, .v U2 x0)] := by kernel_rfl
def g37_4 (S64 : V6 → Option (Bool)) (x0 : V7) (x1 : Int) (x2 : Bool) (k0 : Bool → Option R) : Option R :=
brB (decide (x1 > (1 : Int))) (let v129 : Int := (IntKind.i64.wrap (x1 - (2 : Int)))
if 0 ≤ v129 ∧ v129 < (x0.length : Int) then
(S64 (x0.getD v129.toNat ((0 : Int), ((0 : Int), ([], ()))))).bind fun r130 =>
brB r130 (let v131 : Int := (IntKind.i64.wrap (x1 - (1 : Int)))
if 0 ≤ v131 ∧ v131 < (x0.length : Int) then
brB ((x0.getD v131.toNat ((0 : Int), ((0 : Int), ([], ())))).1 == (5 : Int)) (let v133 : Int := (IntKind.i64.wrap (x1 - (1 : Int)))
if 0 ≤ v133 ∧ v133 < (x0.length : Int) then
k0 ((x0.getD v133.toNat ((0 : Int), ((0 : Int), ([], ())))).2.2.1 == ([109] : List UInt8))
else none) (k0 false)
else none) (k0 false)
else none) (k0 false)
theorem t37_4 (S64) (h64 : (ctr64 S64).holds cl) (x0 x1 x2) : exec cl N c37_4 (e41 x0 x1 x2) K = (g37_4 S64 x0 x1 x2 (fun y0 => K .normal [(17, .v .bool y0)])) := by
  rw [← put_eq h64]
  kernel_rfl
def g37_5 (x0 : Bool) (k0 : Int → Option R) : Option R :=
k0 (2 : Int)
theorem t37_5 (x0) : exec cl N c37_5 [(17, .v .bool x0)] K = (g37_5 x0 (fun y0 => K .normal [(2, .v U2 y0)])) := by
  kernel_rfl
theorem kp37_1 (x0) : keep [2] [(17, .v .bool x0)] = [(2, .dead)] := by kernel_rfl
theorem hb37_0 (x0) : boolOf? (ent [(17, .v .bool x0)] (.t 17)) = some x0 := by kernel_rfl
theorem kp37_2 : keep [2] [(2, .dead)] = [(2, .dead)] := by kernel_rfl
theorem hb37_1 (x0 x1 x2) : boolOf? (ent (e41 x0 x1 x2) (.t 6)) = some x2 := by kernel_rfl
def g37_9 (k0 : Int → Option R) : Option R :=
k0 (0 : Int)
theorem t37_9 : exec cl N c37_9 [(2, .dead)] K = (g37_9 (fun y0 => K .normal [(2, .v U2 y0)])) := by
  kernel_rfl
def g37_10 (S64 : V6 → Option (Bool)) (x0 : V7) (k0 : Int → Option R) : Option R :=
(g37_0 x0 (fun y0 => (g37_1 y0 (fun y0 y1 => (g37_2 S64 y0 y1 (fun y0 y1 y2 => brB y2 (g37_3 y0 y1 y2 (fun y0 => ((fun y0 => (k0 y0)) y0))) (g37_4 S64 y0 y1 y2 (fun y0 => brB y0 (g37_5 y0 (fun y0 => ((fun y0 => (k0 y0)) y0))) (g37_9 (fun y0 => (k0 y0)))))))))))
theorem t37_10 (S64) (h64 : (ctr64 S64).holds cl) (x0) : exec cl N c37_10 [(0, .v U17 x0)] K = (g37_10 S64 x0 (fun y0 => K .ret [(2, .v U2 y0)])) := by
  simp only [c37_10, exec_seq, seqK_normal, seqK_exit, seqK_ret, t37_0, t37_1, c37_8, exec_out, exec_block, t37_2 S64 h64, c37_7, exec_cond', hb37_1, Option.bind_some, brB_true, brB_false, t37_3, exec_ret, t37_4 S64 h64, c37_6, hb37_0, t37_5, exec_skip, kp37_0, kp37_1, kp37_2, blockK_normal, blockK_ret, blockK_eq, t37_9]
  rfl
theorem rk37_0 (y0) : retK d37 .ret [(2, .v U2 y0)] = some [.v U2 y0] := by kernel_rfl
def g37 (S64 : V6 → Option (Bool)) (x0 : V7) (k : Int → Option R) : Option R :=
(g37_10 S64 x0 (fun y0 => k y0))
theorem gen37 {N : Nat} {cl : Cal} (S64 : V6 → Option (Bool)) (h64 : (ctr64 S64).holds cl) (x0 : V7) {R : Type} (k : List E → Option R) : exec cl N c37 (params 0 [.v U17 x0]) (fun e env => (retK d37 e env).bind k) = g37 S64 x0 (fun (r0 : Int) => k [.v U2 r0]) := by
  have e0 : params 0 [.v U17 x0] = [(0, .v U17 x0)] := by kernel_rfl
  simp only [c37, e0, t37_10 S64 h64, rk37_0, Option.bind_some]
  rfl
def ctr37 (S : V7 → Option (Int)) : Ctr := { A := V7 × Unit, B := Int, f := 37, enc := fun a => [.v U17 a.1], dec := (decC (decV U17) dec0), S := fun a => S a.1, ent := fun b => [.v U2 b], ok := (decV_cons (T := U17) (fun es b h => dec0_some h)) }
def S37 (N : Nat) (x0 : V7) : Option (Int) := g37 (S64 N) x0 (fun (r0 : Int) => some (r0))
def g81_0 (x0 : V6) (k0 : V6 → Option R) : Option R :=
k0 x0
theorem t81_0 (x0) : exec cl N c81_0 [(0, .v U14 x0)] K = (g81_0 x0 (fun y0 => K .normal [(1, .loc U14 .no y0)])) := by
  kernel_rfl
def g81_1 (x0 : V6) (k0 : Bool → Option R) : Option R :=
k0 (x0.1 != (9 : Int))
theorem t81_1 (x0) : exec cl N c81_1 [(1, .loc U14 .no x0)] K = (g81_1 x0 (fun y0 => K .normal [(2, .v .bool y0)])) := by
  kernel_rfl
def g81_2 (x0 : V6) (k0 : Bool → Option R) : Option R :=
(g81_0 x0 (fun y0 => (g81_1 y0 (fun y0 => (k0 y0)))))
theorem t81_2 (x0) : exec cl N c81_2 [(0, .v U14 x0)] K = (g81_2 x0 (fun y0 => K .ret [(2, .v .bool y0)])) := by
  simp only [c81_2, exec_seq, seqK_normal, seqK_exit, seqK_ret, t81_0, t81_1, exec_ret]
  rfl
theorem rk81_0 (y0) : retK d81 .ret [(2, .v .bool y0)] = some [.v .bool y0] := by kernel_rfl
def g81 (x0 : V6) (k : Bool → Option R) : Option R :=
(g81_2 x0 (fun y0 => k y0))
theorem gen81 {N : Nat} {cl : Cal} (x0 : V6) {R : Type} (k : List E → Option R) : exec cl N c81 (params 0 [.v U14 x0]) (fun e env => (retK d81 e env).bind k) = g81 x0 (fun (r0 : Bool) => k [.v .bool r0]) := by
  have e0 : params 0 [.v U14 x0] = [(0, .v U14 x0)] := by kernel_rfl
  simp only [c81, e0, t81_2, rk81_0, Option.bind_some]
  rfl
def ctr81 (S : V6 → Option (Bool)) : Ctr := { A := V6 × Unit, B := Bool, f := 81, enc := fun a => [.v U14 a.1], dec := (decC (decV U14) dec0), S := fun a => S a.1, ent := fun b => [.v .bool b], ok := (decV_cons (T := U14) (fun es b h => dec0_some h)) }
def S81 (N : Nat) (x0 : V6) : Option (Bool) := g81 x0 (fun (r0 : Bool) => some (r0))
def g80_0 (x0 : V7) (x1 : V10) (k0 : V7 → V10 → Option R) : Option R :=
k0 x0 x1
theorem t80_0 (x0 x1) : exec cl N c80_0 (e42 x0 x1) K = (g80_0 x0 x1 (fun y0 y1 => K .normal (e42 y0 y1))) := by
  kernel_rfl
def g80_1 (x0 : V7) (x1 : V10) (k0 : V7 → V10 → Int → Int → Option R) : Option R :=
k0 x0 x1 (x0.length : Int) (0 : Int)
theorem t80_1 (x0 x1) : exec cl N c80_1 (e42 x0 x1) K = (g80_1 x0 x1 (fun y0 y1 y2 y3 => K .normal (e43 y0 y1 y2 y3))) := by
  kernel_rfl
theorem kp80_0 (x0 x1 x2 x3) : keep [0, 1, 7, 8] (e43 x0 x1 x2 x3) = (e43 x0 x1 x2 x3) := by kernel_rfl
def g80_2 (x0 : V7) (x1 : V10) (x2 x3 : Int) (k0 : V7 → V10 → Int → Int → Bool → Option R) : Option R :=
k0 x0 x1 x2 x3 (decide (x3 < x2))
theorem t80_2 (x0 x1 x2 x3) : exec cl N c80_2 (e43 x0 x1 x2 x3) K = (g80_2 x0 x1 x2 x3 (fun y0 y1 y2 y3 y4 => K .normal (e44 y0 y1 y2 y3 y4))) := by
  kernel_rfl
theorem kp80_1 (x0 x1 x2 x3 x4) : keep [0, 1, 7, 8] (e44 x0 x1 x2 x3 x4) = (e43 x0 x1 x2 x3) := by kernel_rfl
theorem hb80_0 (x0 x1 x2 x3 x4) : boolOf? (ent (e44 x0 x1 x2 x3 x4) (.t 9)) = some x4 := by kernel_rfl
def g80_4 (x0 : V7) (x1 : V10) (x2 x3 : Int) (k0 : V7 → V10 → Int → Int → Int → Option R) : Option R :=
k0 x0 x1 x3 x2 x3
theorem t80_4 (x0 x1 x2 x3) : exec cl N c80_4 (e43 x0 x1 x2 x3) K = (g80_4 x0 x1 x2 x3 (fun y0 y1 y2 y3 y4 => K .normal [(0, .v U17 y0), (1, .v U21 y1), (5, .v U2 y2), (7, .v U2 y3), (8, .v U2 y4)])) := by
  kernel_rfl
def g80_5 (x0 : V7) (x1 : V10) (x2 x3 x4 : Int) (k0 : V7 → V10 → Int → Int → Int → Bool → Option R) : Option R :=
if 0 ≤ x2 ∧ x2 < (x0.length : Int) then
(x1 ((x0.getD x2.toNat ((0 : Int), ((0 : Int), ([], ())))), ())).bind fun r145 =>
k0 x0 x1 x2 x3 x4 r145
else none
theorem t80_5 (x0 x1 x2 x3 x4) : exec cl N c80_5 [(0, .v U17 x0), (1, .v U21 x1), (5, .v U2 x2), (7, .v U2 x3), (8, .v U2 x4)] K = (g80_5 x0 x1 x2 x3 x4 (fun y0 y1 y2 y3 y4 y5 => K .normal (e45 y0 y1 y2 y3 y4 y5))) := by
  kernel_rfl
def g80_6 (x0 : V7) (x1 : V10) (x2 x3 x4 : Int) (x5 : Bool) (k0 : Int → Option R) : Option R :=
k0 x2
theorem t80_6 (x0 x1 x2 x3 x4 x5) : exec cl N c80_6 (e45 x0 x1 x2 x3 x4 x5) K = (g80_6 x0 x1 x2 x3 x4 x5 (fun y0 => K .normal [(4, .v U2 y0)])) := by
  kernel_rfl
theorem kp80_2 (x0) : keep [0, 1, 4, 7, 8] [(4, .v U2 x0)] = (e46 x0) := by kernel_rfl
theorem kp80_3 (x0 x1 x2 x3 x4 x5) : keep [0, 1, 4, 7, 8] (e45 x0 x1 x2 x3 x4 x5) = (e47 x0 x1 x3 x4) := by kernel_rfl
theorem hb80_1 (x0 x1 x2 x3 x4 x5) : boolOf? (ent (e45 x0 x1 x2 x3 x4 x5) (.t 16)) = some x5 := by kernel_rfl
theorem kp80_4 (x0) : keep [0, 1, 4, 7, 8] (e46 x0) = (e46 x0) := by kernel_rfl
theorem kp80_5 (x0 x1 x2 x3) : keep [0, 1, 4, 7, 8] (e47 x0 x1 x2 x3) = (e47 x0 x1 x2 x3) := by kernel_rfl
def g80_9 (x0 : V7) (x1 : V10) (x2 x3 : Int) (k0 : V7 → V10 → Int → Int → Option R) : Option R :=
k0 x0 x1 x2 (IntKind.i64.wrap (x3 + (1 : Int)))
theorem t80_9 (x0 x1 x2 x3) : exec cl N c80_9 (e47 x0 x1 x2 x3) K = (g80_9 x0 x1 x2 x3 (fun y0 y1 y2 y3 => K .normal (e43 y0 y1 y2 y3))) := by
  kernel_rfl
def g80_10 (x0 : V7) (x1 : V10) (x2 x3 : Int) (k0 : Int → Option R) (k1 : V7 → V10 → Int → Int → Option R) (k2 : V7 → V10 → Int → Int → Option R) : Option R :=
(g80_2 x0 x1 x2 x3 (fun y0 y1 y2 y3 y4 => brB y4 ((fun y0 y1 y2 y3 => (g80_4 y0 y1 y2 y3 (fun y0 y1 y2 y3 y4 => (g80_5 y0 y1 y2 y3 y4 (fun y0 y1 y2 y3 y4 y5 => brB y5 (g80_6 y0 y1 y2 y3 y4 y5 (fun y0 => ((fun y0 => (k0 y0)) y0))) (g80_9 y0 y1 y3 y4 k1)))))) y0 y1 y2 y3) (k2 y0 y1 y2 y3)))
theorem t80_10 (x0 x1 x2 x3) : exec cl N c80_10 (e43 x0 x1 x2 x3) K = (g80_10 x0 x1 x2 x3 (fun y0 => K .ret (e46 y0)) (fun y0 y1 y2 y3 => K .normal (e43 y0 y1 y2 y3)) (fun y0 y1 y2 y3 => K (.exit 0) (e43 y0 y1 y2 y3))) := by
  simp only [c80_10, exec_seq, seqK_normal, seqK_exit, seqK_ret, t80_2, c80_3, exec_out, exec_cond', hb80_0, Option.bind_some, brB_true, brB_false, exec_skip, exec_exit, kp80_1, c80_8, exec_block, t80_4, t80_5, c80_7, hb80_1, t80_6, exec_ret, kp80_2, kp80_3, blockK_normal, blockK_ret, blockK_eq, kp80_4, kp80_5, t80_9]
  rfl
def l80_11 {R : Type} (k0 : Int → Option R) (k1 : V7 → V10 → Int → Int → Option R) : Nat → V7 → V10 → Int → Int → Option R
  | 0, _, _, _, _ => none
  | m + 1, x0, x1, x2, x3 => (g80_10 x0 x1 x2 x3 k0 (fun y0 y1 y2 y3 => l80_11 k0 k1 m y0 y1 y2 y3) k1)
theorem lt80_11 : ∀ (m) (x0 x1 x2 x3), iter [0, 1, 7, 8] (fun env K => exec cl N c80_10 env K) K m (e43 x0 x1 x2 x3) = l80_11 (fun y0 => K .ret (e46 y0)) (fun y0 y1 y2 y3 => K (.exit 0) (e43 y0 y1 y2 y3)) m x0 x1 x2 x3 := by
  intro m
  induction m with
  | zero => intros; rfl
  | succ m ih =>
    intro x0 x1 x2 x3
    simp only [iter_succ, t80_10, loopK_normal, loopK_exit, loopK_ret, kp80_0, ih]
    rfl
theorem kp80_6 (x0) : keep [4] (e46 x0) = [(4, .v U2 x0)] := by kernel_rfl
theorem kp80_7 (x0 x1 x2 x3) : keep [4] (e43 x0 x1 x2 x3) = [(4, .dead)] := by kernel_rfl
def g80_11 (N : Nat) (x0 : V7) (x1 : V10) (x2 x3 : Int) (k0 : Int → Option R) (k1 : Option R) : Option R :=
l80_11 (fun y0 => k0 y0) (fun y0 y1 y2 y3 => k1) N x0 x1 x2 x3
theorem t80_11 (x0 x1 x2 x3) : exec cl N c80_11 (e43 x0 x1 x2 x3) K = (g80_11 N x0 x1 x2 x3 (fun y0 => K .ret [(4, .v U2 y0)]) (K (.exit 0) [(4, .dead)])) := by
  simp only [c80_11, exec_out, exec_loop, kp80_0, lt80_11, kp80_6, kp80_7]
  rfl
theorem kp80_8 (x0) : keep [4] [(4, .v U2 x0)] = [(4, .v U2 x0)] := by kernel_rfl
theorem kp80_9 : keep [4] [(4, .dead)] = [(4, .dead)] := by kernel_rfl
def g80_13 (k0 : Int → Option R) : Option R :=
k0 (-1 : Int)
theorem t80_13 : exec cl N c80_13 [(4, .dead)] K = (g80_13 (fun y0 => K .normal [(4, .v U2 y0)])) := by
  kernel_rfl
def g80_14 (N : Nat) (x0 : V7) (x1 : V10) (k0 : Int → Option R) : Option R :=
(g80_0 x0 x1 (fun y0 y1 => (g80_1 y0 y1 (fun y0 y1 y2 y3 => (g80_11 N y0 y1 y2 y3 (fun y0 => (k0 y0)) (g80_13 (fun y0 => (k0 y0))))))))
theorem t80_14 (x0 x1) : exec cl N c80_14 (e42 x0 x1) K = (g80_14 N x0 x1 (fun y0 => K .ret [(4, .v U2 y0)])) := by
  simp only [c80_14, exec_seq, seqK_normal, seqK_exit, seqK_ret, t80_0, t80_1, c80_12, exec_out, exec_block, t80_11, blockK_normal, blockK_ret, blockK_eq, kp80_8, kp80_9, t80_13, exec_ret]
  rfl
theorem rk80_0 (y0) : retK d80 .ret [(4, .v U2 y0)] = some [.v U2 y0] := by kernel_rfl
def g80 (N : Nat) (x0 : V7) (x1 : V10) (k : Int → Option R) : Option R :=
(g80_14 N x0 x1 (fun y0 => k y0))
theorem gen80 {N : Nat} {cl : Cal} (x0 : V7) (x1 : V10) {R : Type} (k : List E → Option R) : exec cl N c80 (params 0 [.v U17 x0, .v U21 x1]) (fun e env => (retK d80 e env).bind k) = g80 N x0 x1 (fun (r0 : Int) => k [.v U2 r0]) := by
  have e0 : params 0 [.v U17 x0, .v U21 x1] = (e42 x0 x1) := by kernel_rfl
  simp only [c80, e0, t80_14, rk80_0, Option.bind_some]
  rfl
def ctr80 (S : V7 → V10 → Option (Int)) : Ctr := { A := V7 × V10 × Unit, B := Int, f := 80, enc := fun a => [.v U17 a.1, .v U21 a.2.1], dec := (decC (decV U17) (decC (decV U21) dec0)), S := fun a => S a.1 a.2.1, ent := fun b => [.v U2 b], ok := (decV_cons (T := U17) (decV_cons (T := U21) (fun es b h => dec0_some h))) }
def S80 (N : Nat) (x0 : V7) (x1 : V10) : Option (Int) := g80 N x0 x1 (fun (r0 : Int) => some (r0))
def g53_0 (x0 : V7) (k0 : V7 → Option R) : Option R :=
k0 x0
theorem t53_0 (x0) : exec cl N c53_0 [(0, .v U17 x0)] K = (g53_0 x0 (fun y0 => K .normal [(0, .v U17 y0)])) := by
  kernel_rfl
def g53_1 (S80 : V7 → V10 → Option (Int)) (S81 : V6 → Option (Bool)) (x0 : V7) (k0 : V7 → Int → Option R) : Option R :=
(S80 x0 (fun (x149 : (V6 × Unit)) => ((S81 x149.1).bind fun b150 => some [.v .bool b150]).bind (unE .bool))).bind fun r151 =>
k0 x0 r151
theorem t53_1 (S80) (S81) (h80 : (ctr80 S80).holds cl) (h81 : (ctr81 S81).holds cl) (x0) : exec cl N c53_1 [(0, .v U17 x0)] K = (g53_1 S80 S81 x0 (fun y0 y1 => K .normal (e40 y0 y1))) := by
  rw [← put_eq h80]
  rw [← put_eq h81]
  kernel_rfl
def g53_2 (x0 : V7) (x1 : Int) (k0 : V7 → Int → Bool → Option R) : Option R :=
k0 x0 x1 (decide (x1 < (0 : Int)))
theorem t53_2 (x0 x1) : exec cl N c53_2 (e40 x0 x1) K = (g53_2 x0 x1 (fun y0 y1 y2 => K .normal (e48 y0 y1 y2))) := by
  kernel_rfl
def g53_3 (x0 : V7) (x1 : Int) (x2 : Bool) (k0 : Int → Option R) : Option R :=
k0 (x0.length : Int)
theorem t53_3 (x0 x1 x2) : exec cl N c53_3 (e48 x0 x1 x2) K = (g53_3 x0 x1 x2 (fun y0 => K .normal [(2, .v U2 y0)])) := by
  kernel_rfl
theorem kp53_0 (x0) : keep [2, 3] [(2, .v U2 x0)] = [(2, .v U2 x0), (3, .dead)] := by kernel_rfl
theorem kp53_1 (x0 x1 x2) : keep [2, 3] (e48 x0 x1 x2) = [(2, .dead), (3, .v U2 x1)] := by kernel_rfl
theorem hb53_0 (x0 x1 x2) : boolOf? (ent (e48 x0 x1 x2) (.t 7)) = some x2 := by kernel_rfl
def g53_5 (x0 : Int) (k0 : Int → Option R) : Option R :=
k0 x0
theorem t53_5 (x0) : exec cl N c53_5 [(2, .dead), (3, .v U2 x0)] K = (g53_5 x0 (fun y0 => K .normal [(2, .v U2 y0)])) := by
  kernel_rfl
def g53_6 (S80 : V7 → V10 → Option (Int)) (S81 : V6 → Option (Bool)) (x0 : V7) (k0 : Int → Option R) (k1 : Int → Option R) : Option R :=
(g53_0 x0 (fun y0 => (g53_1 S80 S81 y0 (fun y0 y1 => (g53_2 y0 y1 (fun y0 y1 y2 => brB y2 (g53_3 y0 y1 y2 (fun y0 => ((fun y0 => (k0 y0)) y0))) ((fun y0 => (g53_5 y0 (fun y0 => (k1 y0)))) y1)))))))
theorem t53_6 (S80) (S81) (h80 : (ctr80 S80).holds cl) (h81 : (ctr81 S81).holds cl) (x0) : exec cl N c53_6 [(0, .v U17 x0)] K = (g53_6 S80 S81 x0 (fun y0 => K .ret [(2, .v U2 y0), (3, .dead)]) (fun y0 => K .ret [(2, .v U2 y0)])) := by
  simp only [c53_6, exec_seq, seqK_normal, seqK_exit, seqK_ret, t53_0, t53_1 S80 S81 h80 h81, t53_2, c53_4, exec_out, exec_cond', hb53_0, Option.bind_some, brB_true, brB_false, t53_3, exec_ret, exec_skip, kp53_0, kp53_1, t53_5]
  rfl
theorem rk53_0 (y0) : retK d53 .ret [(2, .v U2 y0), (3, .dead)] = some [.v U2 y0] := by kernel_rfl
theorem rk53_1 (y0) : retK d53 .ret [(2, .v U2 y0)] = some [.v U2 y0] := by kernel_rfl
def g53 (S80 : V7 → V10 → Option (Int)) (S81 : V6 → Option (Bool)) (x0 : V7) (k : Int → Option R) : Option R :=
(g53_6 S80 S81 x0 (fun y0 => k y0) (fun y0 => k y0))
theorem gen53 {N : Nat} {cl : Cal} (S80 : V7 → V10 → Option (Int)) (S81 : V6 → Option (Bool)) (h80 : (ctr80 S80).holds cl) (h81 : (ctr81 S81).holds cl) (x0 : V7) {R : Type} (k : List E → Option R) : exec cl N c53 (params 0 [.v U17 x0]) (fun e env => (retK d53 e env).bind k) = g53 S80 S81 x0 (fun (r0 : Int) => k [.v U2 r0]) := by
  have e0 : params 0 [.v U17 x0] = [(0, .v U17 x0)] := by kernel_rfl
  simp only [c53, e0, t53_6 S80 S81 h80 h81, rk53_0, rk53_1, Option.bind_some]
  rfl
def ctr53 (S : V7 → Option (Int)) : Ctr := { A := V7 × Unit, B := Int, f := 53, enc := fun a => [.v U17 a.1], dec := (decC (decV U17) dec0), S := fun a => S a.1, ent := fun b => [.v U2 b], ok := (decV_cons (T := U17) (fun es b h => dec0_some h)) }
def S53 (N : Nat) (x0 : V7) : Option (Int) := g53 (S80 N) (S81 N) x0 (fun (r0 : Int) => some (r0))
def g61_0 (x0 : V7) (k0 : V7 → Option R) : Option R :=
k0 x0
theorem t61_0 (x0) : exec cl N c61_0 [(0, .v U17 x0)] K = (g61_0 x0 (fun y0 => K .normal [(0, .v U17 y0)])) := by
  kernel_rfl
def g61_1 (S53 : V7 → Option (Int)) (x0 : V7) (k0 : V7 → Int → Option R) : Option R :=
(S53 x0).bind fun r156 =>
k0 x0 r156
theorem t61_1 (S53) (h53 : (ctr53 S53).holds cl) (x0) : exec cl N c61_1 [(0, .v U17 x0)] K = (g61_1 S53 x0 (fun y0 y1 => K .normal (e40 y0 y1))) := by
  rw [← put_eq h53]
  kernel_rfl
def g61_2 (S64 : V6 → Option (Bool)) (x0 : V7) (x1 : Int) (k0 : Bool → Option R) : Option R :=
brB (decide (x1 < (x0.length : Int))) (if 0 ≤ x1 ∧ x1 < (x0.length : Int) then
(S64 (x0.getD x1.toNat ((0 : Int), ((0 : Int), ([], ()))))).bind fun r158 =>
k0 r158
else none) (k0 false)
theorem t61_2 (S64) (h64 : (ctr64 S64).holds cl) (x0 x1) : exec cl N c61_2 (e40 x0 x1) K = (g61_2 S64 x0 x1 (fun y0 => K .normal [(2, .v .bool y0)])) := by
  rw [← put_eq h64]
  kernel_rfl
def g61_3 (S53 : V7 → Option (Int)) (S64 : V6 → Option (Bool)) (x0 : V7) (k0 : Bool → Option R) : Option R :=
(g61_0 x0 (fun y0 => (g61_1 S53 y0 (fun y0 y1 => (g61_2 S64 y0 y1 (fun y0 => (k0 y0)))))))
theorem t61_3 (S53) (S64) (h53 : (ctr53 S53).holds cl) (h64 : (ctr64 S64).holds cl) (x0) : exec cl N c61_3 [(0, .v U17 x0)] K = (g61_3 S53 S64 x0 (fun y0 => K .ret [(2, .v .bool y0)])) := by
  simp only [c61_3, exec_seq, seqK_normal, seqK_exit, seqK_ret, t61_0, t61_1 S53 h53, t61_2 S64 h64, exec_ret]
  rfl
theorem rk61_0 (y0) : retK d61 .ret [(2, .v .bool y0)] = some [.v .bool y0] := by kernel_rfl
def g61 (S53 : V7 → Option (Int)) (S64 : V6 → Option (Bool)) (x0 : V7) (k : Bool → Option R) : Option R :=
(g61_3 S53 S64 x0 (fun y0 => k y0))
theorem gen61 {N : Nat} {cl : Cal} (S53 : V7 → Option (Int)) (S64 : V6 → Option (Bool)) (h53 : (ctr53 S53).holds cl) (h64 : (ctr64 S64).holds cl) (x0 : V7) {R : Type} (k : List E → Option R) : exec cl N c61 (params 0 [.v U17 x0]) (fun e env => (retK d61 e env).bind k) = g61 S53 S64 x0 (fun (r0 : Bool) => k [.v .bool r0]) := by
  have e0 : params 0 [.v U17 x0] = [(0, .v U17 x0)] := by kernel_rfl
  simp only [c61, e0, t61_3 S53 S64 h53 h64, rk61_0, Option.bind_some]
  rfl
def ctr61 (S : V7 → Option (Bool)) : Ctr := { A := V7 × Unit, B := Bool, f := 61, enc := fun a => [.v U17 a.1], dec := (decC (decV U17) dec0), S := fun a => S a.1, ent := fun b => [.v .bool b], ok := (decV_cons (T := U17) (fun es b h => dec0_some h)) }
def S61 (N : Nat) (x0 : V7) : Option (Bool) := g61 (S53 N) (S64 N) x0 (fun (r0 : Bool) => some (r0))
def g34_0 (x0 x1 : V7) (k0 : V7 → V7 → Option R) : Option R :=
k0 x0 x1
theorem t34_0 (x0 x1) : exec cl N c34_0 (e35 x0 x1) K = (g34_0 x0 x1 (fun y0 y1 => K .normal (e35 y0 y1))) := by
  kernel_rfl
def g34_1 (S37 : V7 → Option (Int)) (x0 x1 : V7) (k0 : V7 → V7 → Int → Option R) : Option R :=
(S37 x0).bind fun r163 =>
k0 x0 x1 r163
theorem t34_1 (S37) (h37 : (ctr37 S37).holds cl) (x0 x1) : exec cl N c34_1 (e35 x0 x1) K = (g34_1 S37 x0 x1 (fun y0 y1 y2 => K .normal (e49 y0 y1 y2))) := by
  rw [← put_eq h37]
  kernel_rfl
def g34_2 (S61 : V7 → Option (Bool)) (x0 x1 : V7) (x2 : Int) (k0 : V7 → Int → Bool → Option R) : Option R :=
brB (x2 == (0 : Int)) (k0 x0 x2 true) ((S61 x1).bind fun r165 =>
k0 x0 x2 (!r165))
theorem t34_2 (S61) (h61 : (ctr61 S61).holds cl) (x0 x1 x2) : exec cl N c34_2 (e49 x0 x1 x2) K = (g34_2 S61 x0 x1 x2 (fun y0 y1 y2 => K .normal (e50 y0 y1 y2))) := by
  rw [← put_eq h61]
  kernel_rfl
def g34_3 (x0 : V7) (x1 : Int) (x2 : Bool) (k0 : V0 → Option R) : Option R :=
k0 [(0 : Int)]
theorem t34_3 (x0 x1 x2) : exec cl N c34_3 (e50 x0 x1 x2) K = (g34_3 x0 x1 x2 (fun y0 => K .normal (e51 y0))) := by
  kernel_rfl
theorem kp34_0 (x0) : keep [4] (e51 x0) = (e51 x0) := by kernel_rfl
def g34_4 (x0 : V7) (x1 : Int) (x2 : Bool) (k0 : V7 → Bool → Option R) : Option R :=
k0 x0 (x1 == (2 : Int))
theorem t34_4 (x0 x1 x2) : exec cl N c34_4 (e50 x0 x1 x2) K = (g34_4 x0 x1 x2 (fun y0 y1 => K .normal (e52 y0 y1))) := by
  kernel_rfl
def g34_5 (x0 : V7) (x1 : Bool) (k0 : V0 → Option R) : Option R :=
k0 [(1 : Int), (3 : Int)]
theorem t34_5 (x0 x1) : exec cl N c34_5 (e52 x0 x1) K = (g34_5 x0 x1 (fun y0 => K .normal (e51 y0))) := by
  kernel_rfl
def g34_6 (x0 : V7) (x1 : Bool) (k0 : Bool → Option R) : Option R :=
let v167 : Int := (IntKind.i64.wrap ((x0.length : Int) - (1 : Int)))
if 0 ≤ v167 ∧ v167 < (x0.length : Int) then
k0 ((x0.getD v167.toNat ((0 : Int), ((0 : Int), ([], ())))).2.1 == (1 : Int))
else none
theorem t34_6 (x0 x1) : exec cl N c34_6 (e52 x0 x1) K = (g34_6 x0 x1 (fun y0 => K .normal [(21, .v .bool y0)])) := by
  kernel_rfl
def g34_7 (x0 : Bool) (k0 : V0 → Option R) : Option R :=
k0 [(1 : Int), (2 : Int), (3 : Int)]
theorem t34_7 (x0) : exec cl N c34_7 [(21, .v .bool x0)] K = (g34_7 x0 (fun y0 => K .normal (e51 y0))) := by
  kernel_rfl
theorem kp34_1 (x0) : keep [4] [(21, .v .bool x0)] = [(4, .dead)] := by kernel_rfl
theorem hb34_0 (x0) : boolOf? (ent [(21, .v .bool x0)] (.t 21)) = some x0 := by kernel_rfl
theorem kp34_2 : keep [4] [(4, .dead)] = [(4, .dead)] := by kernel_rfl
theorem hb34_1 (x0 x1) : boolOf? (ent (e52 x0 x1) (.t 17)) = some x1 := by kernel_rfl
theorem hb34_2 (x0 x1 x2) : boolOf? (ent (e50 x0 x1 x2) (.t 8)) = some x2 := by kernel_rfl
def g34_12 (k0 : V0 → Option R) : Option R :=
k0 [(1 : Int), (2 : Int), (3 : Int), (4 : Int)]
theorem t34_12 : exec cl N c34_12 [(4, .dead)] K = (g34_12 (fun y0 => K .normal (e51 y0))) := by
  kernel_rfl
def g34_13 (S37 : V7 → Option (Int)) (S61 : V7 → Option (Bool)) (x0 x1 : V7) (k0 : V0 → Option R) : Option R :=
(g34_0 x0 x1 (fun y0 y1 => (g34_1 S37 y0 y1 (fun y0 y1 y2 => (g34_2 S61 y0 y1 y2 (fun y0 y1 y2 => brB y2 (g34_3 y0 y1 y2 (fun y0 => ((fun y0 => (k0 y0)) y0))) (g34_4 y0 y1 y2 (fun y0 y1 => brB y1 (g34_5 y0 y1 (fun y0 => ((fun y0 => (k0 y0)) y0))) (g34_6 y0 y1 (fun y0 => brB y0 (g34_7 y0 (fun y0 => ((fun y0 => (k0 y0)) y0))) (g34_12 (fun y0 => (k0 y0)))))))))))))
theorem t34_13 (S37) (S61) (h37 : (ctr37 S37).holds cl) (h61 : (ctr61 S61).holds cl) (x0 x1) : exec cl N c34_13 (e35 x0 x1) K = (g34_13 S37 S61 x0 x1 (fun y0 => K .ret (e51 y0))) := by
  simp only [c34_13, exec_seq, seqK_normal, seqK_exit, seqK_ret, t34_0, t34_1 S37 h37, c34_11, exec_out, exec_block, t34_2 S61 h61, c34_10, exec_cond', hb34_2, Option.bind_some, brB_true, brB_false, t34_3, exec_ret, t34_4, c34_9, hb34_1, t34_5, t34_6, c34_8, hb34_0, t34_7, exec_skip, kp34_0, kp34_1, kp34_2, blockK_normal, blockK_ret, blockK_eq, t34_12]
  rfl
theorem rk34_0 (y0) : retK d34 .ret (e51 y0) = some [.own true 3 U2 .no y0] := by kernel_rfl
def g34 (S37 : V7 → Option (Int)) (S61 : V7 → Option (Bool)) (x0 x1 : V7) (k : V0 → Option R) : Option R :=
(g34_13 S37 S61 x0 x1 (fun y0 => k y0))
theorem gen34 {N : Nat} {cl : Cal} (S37 : V7 → Option (Int)) (S61 : V7 → Option (Bool)) (h37 : (ctr37 S37).holds cl) (h61 : (ctr61 S61).holds cl) (x0 : V7) (x1 : V7) {R : Type} (k : List E → Option R) : exec cl N c34 (params 0 [.v U17 x0, .v U17 x1]) (fun e env => (retK d34 e env).bind k) = g34 S37 S61 x0 x1 (fun (r0 : V0) => k [.own true 3 U2 .no r0]) := by
  have e0 : params 0 [.v U17 x0, .v U17 x1] = (e35 x0 x1) := by kernel_rfl
  simp only [c34, e0, t34_13 S37 S61 h37 h61, rk34_0, Option.bind_some]
  rfl
def ctr34 (S : V7 → V7 → Option V2) : Ctr := { A := V7 × V7 × Unit, B := V0, f := 34, enc := fun a => [.v U17 a.1, .v U17 a.2.1], dec := (decC (decV U17) (decC (decV U17) dec0)), S := fun a => S a.1 a.2.1, ent := fun b => [.own true 3 U2 .no b], ok := (decV_cons (T := U17) (decV_cons (T := U17) (fun es b h => dec0_some h))) }
def S34 (N : Nat) (x0 : V7) (x1 : V7) : Option V2 := g34 (S37 N) (S61 N) x0 x1 (fun (r0 : V0) => some (r0))
def g79_0 (x0 : V0) (x1 : Int) (k0 : V0 → Int → Option R) : Option R :=
k0 x0 x1
theorem t79_0 (x0 x1) : exec cl N c79_0 (e53 x0 x1) K = (g79_0 x0 x1 (fun y0 y1 => K .normal (e53 y0 y1))) := by
  kernel_rfl
def g79_1 (x0 : V0) (x1 : Int) (k0 : V0 → Int → Int → Int → Option R) : Option R :=
k0 x0 x1 (x0.length : Int) (0 : Int)
theorem t79_1 (x0 x1) : exec cl N c79_1 (e53 x0 x1) K = (g79_1 x0 x1 (fun y0 y1 y2 y3 => K .normal (e54 y0 y1 y2 y3))) := by
  kernel_rfl
theorem kp79_0 (x0 x1 x2 x3) : keep [0, 1, 7, 8] (e54 x0 x1 x2 x3) = (e54 x0 x1 x2 x3) := by kernel_rfl
def g79_2 (x0 : V0) (x1 x2 x3 : Int) (k0 : V0 → Int → Int → Int → Bool → Option R) : Option R :=
k0 x0 x1 x2 x3 (decide (x3 < x2))
theorem t79_2 (x0 x1 x2 x3) : exec cl N c79_2 (e54 x0 x1 x2 x3) K = (g79_2 x0 x1 x2 x3 (fun y0 y1 y2 y3 y4 => K .normal (e55 y0 y1 y2 y3 y4))) := by
  kernel_rfl
theorem kp79_1 (x0 x1 x2 x3 x4) : keep [0, 1, 7, 8] (e55 x0 x1 x2 x3 x4) = (e54 x0 x1 x2 x3) := by kernel_rfl
theorem hb79_0 (x0 x1 x2 x3 x4) : boolOf? (ent (e55 x0 x1 x2 x3 x4) (.t 9)) = some x4 := by kernel_rfl
def g79_4 (x0 : V0) (x1 x2 x3 : Int) (k0 : V0 → Int → Int → Int → Int → Option R) : Option R :=
k0 x0 x1 x3 x2 x3
theorem t79_4 (x0 x1 x2 x3) : exec cl N c79_4 (e54 x0 x1 x2 x3) K = (g79_4 x0 x1 x2 x3 (fun y0 y1 y2 y3 y4 => K .normal [(0, .v U4 y0), (1, .v U2 y1), (5, .v U2 y2), (7, .v U2 y3), (8, .v U2 y4)])) := by
  kernel_rfl
def g79_5 (x0 : V0) (x1 x2 x3 x4 : Int) (k0 : V0 → Int → Int → Int → Int → Bool → Option R) : Option R :=
if 0 ≤ x2 ∧ x2 < (x0.length : Int) then
k0 x0 x1 x2 x3 x4 (x1 == (x0.getD x2.toNat (0 : Int)))
else none
theorem t79_5 (x0 x1 x2 x3 x4) : exec cl N c79_5 [(0, .v U4 x0), (1, .v U2 x1), (5, .v U2 x2), (7, .v U2 x3), (8, .v U2 x4)] K = (g79_5 x0 x1 x2 x3 x4 (fun y0 y1 y2 y3 y4 y5 => K .normal (e56 y0 y1 y2 y3 y4 y5))) := by
  kernel_rfl
def g79_6 (x0 : V0) (x1 x2 x3 x4 : Int) (x5 : Bool) (k0 : Int → Option R) : Option R :=
k0 x2
theorem t79_6 (x0 x1 x2 x3 x4 x5) : exec cl N c79_6 (e56 x0 x1 x2 x3 x4 x5) K = (g79_6 x0 x1 x2 x3 x4 x5 (fun y0 => K .normal [(4, .v U2 y0)])) := by
  kernel_rfl
theorem kp79_2 (x0) : keep [0, 1, 4, 7, 8] [(4, .v U2 x0)] = (e46 x0) := by kernel_rfl
theorem kp79_3 (x0 x1 x2 x3 x4 x5) : keep [0, 1, 4, 7, 8] (e56 x0 x1 x2 x3 x4 x5) = (e57 x0 x1 x3 x4) := by kernel_rfl
theorem hb79_1 (x0 x1 x2 x3 x4 x5) : boolOf? (ent (e56 x0 x1 x2 x3 x4 x5) (.t 16)) = some x5 := by kernel_rfl
theorem kp79_4 (x0) : keep [0, 1, 4, 7, 8] (e46 x0) = (e46 x0) := by kernel_rfl
theorem kp79_5 (x0 x1 x2 x3) : keep [0, 1, 4, 7, 8] (e57 x0 x1 x2 x3) = (e57 x0 x1 x2 x3) := by kernel_rfl
def g79_9 (x0 : V0) (x1 x2 x3 : Int) (k0 : V0 → Int → Int → Int → Option R) : Option R :=
k0 x0 x1 x2 (IntKind.i64.wrap (x3 + (1 : Int)))
theorem t79_9 (x0 x1 x2 x3) : exec cl N c79_9 (e57 x0 x1 x2 x3) K = (g79_9 x0 x1 x2 x3 (fun y0 y1 y2 y3 => K .normal (e54 y0 y1 y2 y3))) := by
  kernel_rfl
def g79_10 (x0 : V0) (x1 x2 x3 : Int) (k0 : Int → Option R) (k1 : V0 → Int → Int → Int → Option R) (k2 : V0 → Int → Int → Int → Option R) : Option R :=
(g79_2 x0 x1 x2 x3 (fun y0 y1 y2 y3 y4 => brB y4 ((fun y0 y1 y2 y3 => (g79_4 y0 y1 y2 y3 (fun y0 y1 y2 y3 y4 => (g79_5 y0 y1 y2 y3 y4 (fun y0 y1 y2 y3 y4 y5 => brB y5 (g79_6 y0 y1 y2 y3 y4 y5 (fun y0 => ((fun y0 => (k0 y0)) y0))) (g79_9 y0 y1 y3 y4 k1)))))) y0 y1 y2 y3) (k2 y0 y1 y2 y3)))
theorem t79_10 (x0 x1 x2 x3) : exec cl N c79_10 (e54 x0 x1 x2 x3) K = (g79_10 x0 x1 x2 x3 (fun y0 => K .ret (e46 y0)) (fun y0 y1 y2 y3 => K .normal (e54 y0 y1 y2 y3)) (fun y0 y1 y2 y3 => K (.exit 0) (e54 y0 y1 y2 y3))) := by
  simp only [c79_10, exec_seq, seqK_normal, seqK_exit, seqK_ret, t79_2, c79_3, exec_out, exec_cond', hb79_0, Option.bind_some, brB_true, brB_false, exec_skip, exec_exit, kp79_1, c79_8, exec_block, t79_4, t79_5, c79_7, hb79_1, t79_6, exec_ret, kp79_2, kp79_3, blockK_normal, blockK_ret, blockK_eq, kp79_4, kp79_5, t79_9]
  rfl
def l79_11 {R : Type} (k0 : Int → Option R) (k1 : V0 → Int → Int → Int → Option R) : Nat → V0 → Int → Int → Int → Option R
  | 0, _, _, _, _ => none
  | m + 1, x0, x1, x2, x3 => (g79_10 x0 x1 x2 x3 k0 (fun y0 y1 y2 y3 => l79_11 k0 k1 m y0 y1 y2 y3) k1)
theorem lt79_11 : ∀ (m) (x0 x1 x2 x3), iter [0, 1, 7, 8] (fun env K => exec cl N c79_10 env K) K m (e54 x0 x1 x2 x3) = l79_11 (fun y0 => K .ret (e46 y0)) (fun y0 y1 y2 y3 => K (.exit 0) (e54 y0 y1 y2 y3)) m x0 x1 x2 x3 := by
  intro m
  induction m with
  | zero => intros; rfl
  | succ m ih =>
    intro x0 x1 x2 x3
    simp only [iter_succ, t79_10, loopK_normal, loopK_exit, loopK_ret, kp79_0, ih]
    rfl
theorem kp79_6 (x0) : keep [4] (e46 x0) = [(4, .v U2 x0)] := by kernel_rfl
theorem kp79_7 (x0 x1 x2 x3) : keep [4] (e54 x0 x1 x2 x3) = [(4, .dead)] := by kernel_rfl
def g79_11 (N : Nat) (x0 : V0) (x1 x2 x3 : Int) (k0 : Int → Option R) (k1 : Option R) : Option R :=
l79_11 (fun y0 => k0 y0) (fun y0 y1 y2 y3 => k1) N x0 x1 x2 x3
theorem t79_11 (x0 x1 x2 x3) : exec cl N c79_11 (e54 x0 x1 x2 x3) K = (g79_11 N x0 x1 x2 x3 (fun y0 => K .ret [(4, .v U2 y0)]) (K (.exit 0) [(4, .dead)])) := by
  simp only [c79_11, exec_out, exec_loop, kp79_0, lt79_11, kp79_6, kp79_7]
  rfl
theorem kp79_8 (x0) : keep [4] [(4, .v U2 x0)] = [(4, .v U2 x0)] := by kernel_rfl
theorem kp79_9 : keep [4] [(4, .dead)] = [(4, .dead)] := by kernel_rfl
def g79_13 (k0 : Int → Option R) : Option R :=
k0 (-1 : Int)
theorem t79_13 : exec cl N c79_13 [(4, .dead)] K = (g79_13 (fun y0 => K .normal [(4, .v U2 y0)])) := by
  kernel_rfl
def g79_14 (N : Nat) (x0 : V0) (x1 : Int) (k0 : Int → Option R) : Option R :=
(g79_0 x0 x1 (fun y0 y1 => (g79_1 y0 y1 (fun y0 y1 y2 y3 => (g79_11 N y0 y1 y2 y3 (fun y0 => (k0 y0)) (g79_13 (fun y0 => (k0 y0))))))))
theorem t79_14 (x0 x1) : exec cl N c79_14 (e53 x0 x1) K = (g79_14 N x0 x1 (fun y0 => K .ret [(4, .v U2 y0)])) := by
  simp only [c79_14, exec_seq, seqK_normal, seqK_exit, seqK_ret, t79_0, t79_1, c79_12, exec_out, exec_block, t79_11, blockK_normal, blockK_ret, blockK_eq, kp79_8, kp79_9, t79_13, exec_ret]
  rfl
theorem rk79_0 (y0) : retK d79 .ret [(4, .v U2 y0)] = some [.v U2 y0] := by kernel_rfl
def g79 (N : Nat) (x0 : V0) (x1 : Int) (k : Int → Option R) : Option R :=
(g79_14 N x0 x1 (fun y0 => k y0))
theorem gen79 {N : Nat} {cl : Cal} (x0 : V0) (x1 : Int) {R : Type} (k : List E → Option R) : exec cl N c79 (params 0 [.v U4 x0, .v U2 x1]) (fun e env => (retK d79 e env).bind k) = g79 N x0 x1 (fun (r0 : Int) => k [.v U2 r0]) := by
  have e0 : params 0 [.v U4 x0, .v U2 x1] = (e53 x0 x1) := by kernel_rfl
  simp only [c79, e0, t79_14, rk79_0, Option.bind_some]
  rfl
def ctr79 (S : V0 → Int → Option (Int)) : Ctr := { A := V0 × Int × Unit, B := Int, f := 79, enc := fun a => [.v U4 a.1, .v U2 a.2.1], dec := (decC (decV U4) (decC (decV U2) dec0)), S := fun a => S a.1 a.2.1, ent := fun b => [.v U2 b], ok := (decV_cons (T := U4) (decV_cons (T := U2) (fun es b h => dec0_some h))) }
def S79 (N : Nat) (x0 : V0) (x1 : Int) : Option (Int) := g79 N x0 x1 (fun (r0 : Int) => some (r0))
def g52_0 (x0 : V0) (x1 : Int) (k0 : V0 → Int → Option R) : Option R :=
k0 x0 x1
theorem t52_0 (x0 x1) : exec cl N c52_0 (e53 x0 x1) K = (g52_0 x0 x1 (fun y0 y1 => K .normal (e53 y0 y1))) := by
  kernel_rfl
def g52_1 (S79 : V0 → Int → Option (Int)) (x0 : V0) (x1 : Int) (k0 : Bool → Option R) : Option R :=
(S79 x0 x1).bind fun r178 =>
k0 (decide (r178 ≥ (0 : Int)))
theorem t52_1 (S79) (h79 : (ctr79 S79).holds cl) (x0 x1) : exec cl N c52_1 (e53 x0 x1) K = (g52_1 S79 x0 x1 (fun y0 => K .normal [(4, .v .bool y0)])) := by
  rw [← put_eq h79]
  kernel_rfl
def g52_2 (S79 : V0 → Int → Option (Int)) (x0 : V0) (x1 : Int) (k0 : Bool → Option R) : Option R :=
(g52_0 x0 x1 (fun y0 y1 => (g52_1 S79 y0 y1 (fun y0 => (k0 y0)))))
theorem t52_2 (S79) (h79 : (ctr79 S79).holds cl) (x0 x1) : exec cl N c52_2 (e53 x0 x1) K = (g52_2 S79 x0 x1 (fun y0 => K .ret [(4, .v .bool y0)])) := by
  simp only [c52_2, exec_seq, seqK_normal, seqK_exit, seqK_ret, t52_0, t52_1 S79 h79, exec_ret]
  rfl
theorem rk52_0 (y0) : retK d52 .ret [(4, .v .bool y0)] = some [.v .bool y0] := by kernel_rfl
def g52 (S79 : V0 → Int → Option (Int)) (x0 : V0) (x1 : Int) (k : Bool → Option R) : Option R :=
(g52_2 S79 x0 x1 (fun y0 => k y0))
theorem gen52 {N : Nat} {cl : Cal} (S79 : V0 → Int → Option (Int)) (h79 : (ctr79 S79).holds cl) (x0 : V0) (x1 : Int) {R : Type} (k : List E → Option R) : exec cl N c52 (params 0 [.v U4 x0, .v U2 x1]) (fun e env => (retK d52 e env).bind k) = g52 S79 x0 x1 (fun (r0 : Bool) => k [.v .bool r0]) := by
  have e0 : params 0 [.v U4 x0, .v U2 x1] = (e53 x0 x1) := by kernel_rfl
  simp only [c52, e0, t52_2 S79 h79, rk52_0, Option.bind_some]
  rfl
def ctr52 (S : V0 → Int → Option (Bool)) : Ctr := { A := V0 × Int × Unit, B := Bool, f := 52, enc := fun a => [.v U4 a.1, .v U2 a.2.1], dec := (decC (decV U4) (decC (decV U2) dec0)), S := fun a => S a.1 a.2.1, ent := fun b => [.v .bool b], ok := (decV_cons (T := U4) (decV_cons (T := U2) (fun es b h => dec0_some h))) }
def S52 (N : Nat) (x0 : V0) (x1 : Int) : Option (Bool) := g52 (S79 N) x0 x1 (fun (r0 : Bool) => some (r0))
def g27_0 (x0 x1 : V7) (x2 : Int) (k0 : V7 → V7 → Int → Option R) : Option R :=
k0 x0 x1 x2
theorem t27_0 (x0 x1 x2) : exec cl N c27_0 (e58 x0 x1 x2) K = (g27_0 x0 x1 x2 (fun y0 y1 y2 => K .normal (e58 y0 y1 y2))) := by
  kernel_rfl
def g27_1 (S33 : V7 → V7 → Option (Int)) (x0 x1 : V7) (x2 : Int) (k0 : V7 → V7 → Int → Int → Option R) : Option R :=
(S33 x0 x1).bind fun r198 =>
k0 x0 x1 x2 r198
theorem t27_1 (S33) (h33 : (ctr33 S33).holds cl) (x0 x1 x2) : exec cl N c27_1 (e58 x0 x1 x2) K = (g27_1 S33 x0 x1 x2 (fun y0 y1 y2 y3 => K .normal [(0, .v U17 y0), (1, .v U17 y1), (2, .v U2 y2), (10, .v U2 y3)])) := by
  rw [← put_eq h33]
  kernel_rfl
def g27_2 (x0 x1 : V7) (x2 x3 : Int) (k0 : V7 → V7 → Int → Int → Bool → Option R) : Option R :=
k0 x0 x1 x2 x3 (x3 != (0 : Int))
theorem t27_2 (x0 x1 x2 x3) : exec cl N c27_2 [(0, .v U17 x0), (1, .v U17 x1), (2, .v U2 x2), (10, .v U2 x3)] K = (g27_2 x0 x1 x2 x3 (fun y0 y1 y2 y3 y4 => K .normal (e59 y0 y1 y2 y3 y4))) := by
  kernel_rfl
def g27_3 (x0 x1 : V7) (x2 x3 : Int) (x4 : Bool) (k0 : V7 → V7 → V7 → Int → Option R) : Option R :=
k0 [] [] [] x3
theorem t27_3 (x0 x1 x2 x3 x4) : exec cl N c27_3 (e59 x0 x1 x2 x3 x4) K = (g27_3 x0 x1 x2 x3 x4 (fun y0 y1 y2 y3 => K .normal (e60 y0 y1 y2 y3))) := by
  kernel_rfl
theorem kp27_0 (x0 x1 x2 x3) : keep [0, 1, 2, 6, 7, 8, 9] (e60 x0 x1 x2 x3) = (e61 x0 x1 x2 x3) := by kernel_rfl
theorem kp27_1 (x0 x1 x2 x3 x4) : keep [0, 1, 2, 6, 7, 8, 9] (e59 x0 x1 x2 x3 x4) = (e62 x0 x1 x2) := by kernel_rfl
theorem hb27_0 (x0 x1 x2 x3 x4) : boolOf? (ent (e59 x0 x1 x2 x3 x4) (.t 21)) = some x4 := by kernel_rfl
def g27_5 (x0 x1 : V7) (x2 : Int) (k0 : V7 → V7 → Int → Bool → Option R) : Option R :=
brB (decide (x2 < (0 : Int))) (k0 x0 x1 x2 true) (k0 x0 x1 x2 (decide (x2 > (4 : Int))))
theorem t27_5 (x0 x1 x2) : exec cl N c27_5 (e62 x0 x1 x2) K = (g27_5 x0 x1 x2 (fun y0 y1 y2 y3 => K .normal (e63 y0 y1 y2 y3))) := by
  kernel_rfl
def g27_6 (x0 x1 : V7) (x2 : Int) (x3 : Bool) (k0 : V7 → V7 → V7 → Int → Option R) : Option R :=
k0 [] [] [] (6 : Int)
theorem t27_6 (x0 x1 x2 x3) : exec cl N c27_6 (e63 x0 x1 x2 x3) K = (g27_6 x0 x1 x2 x3 (fun y0 y1 y2 y3 => K .normal (e60 y0 y1 y2 y3))) := by
  kernel_rfl
theorem kp27_2 (x0 x1 x2 x3) : keep [0, 1, 2, 6, 7, 8, 9] (e63 x0 x1 x2 x3) = (e62 x0 x1 x2) := by kernel_rfl
theorem hb27_1 (x0 x1 x2 x3) : boolOf? (ent (e63 x0 x1 x2 x3) (.t 28)) = some x3 := by kernel_rfl
def g27_8 (S34 : V7 → V7 → Option V2) (S52 : V0 → Int → Option (Bool)) (x0 x1 : V7) (x2 : Int) (k0 : V7 → V7 → Int → Bool → Option R) : Option R :=
(S34 x0 x1).bind fun r202 =>
(S52 r202 x2).bind fun r203 =>
k0 x0 x1 x2 (!r203)
theorem t27_8 (S34) (S52) (h34 : (ctr34 S34).holds cl) (h52 : (ctr52 S52).holds cl) (x0 x1 x2) : exec cl N c27_8 (e62 x0 x1 x2) K = (g27_8 S34 S52 x0 x1 x2 (fun y0 y1 y2 y3 => K .normal (e64 y0 y1 y2 y3))) := by
  rw [← put_eq h34]
  rw [← put_eq h52]
  kernel_rfl
def g27_9 (x0 x1 : V7) (x2 : Int) (x3 : Bool) (k0 : V7 → V7 → V7 → Int → Option R) : Option R :=
k0 [] [] [] (8 : Int)
theorem t27_9 (x0 x1 x2 x3) : exec cl N c27_9 (e64 x0 x1 x2 x3) K = (g27_9 x0 x1 x2 x3 (fun y0 y1 y2 y3 => K .normal (e60 y0 y1 y2 y3))) := by
  kernel_rfl
theorem kp27_3 (x0 x1 x2 x3) : keep [0, 1, 2, 6, 7, 8, 9] (e64 x0 x1 x2 x3) = (e62 x0 x1 x2) := by kernel_rfl
theorem hb27_2 (x0 x1 x2 x3) : boolOf? (ent (e64 x0 x1 x2 x3) (.t 34)) = some x3 := by kernel_rfl
def g27_11 (S9 : V7 → Option V8) (x0 x1 : V7) (x2 : Int) (k0 : V7 → V7 → Int → V7 → V7 → Option R) : Option R :=
(S9 x0).bind fun r204 =>
(S9 x1).bind fun r205 =>
k0 x0 x1 x2 r204 r205
theorem t27_11 (S9) (h9 : (ctr9 S9).holds cl) (x0 x1 x2) : exec cl N c27_11 (e62 x0 x1 x2) K = (g27_11 S9 x0 x1 x2 (fun y0 y1 y2 y3 y4 => K .normal (e65 y0 y1 y2 y3 y4))) := by
  rw [← put_eq h9]
  kernel_rfl
def g27_12 (x0 x1 : V7) (x2 : Int) (x3 x4 : V7) (k0 : V7 → V7 → Int → V7 → V7 → V7 → Option R) : Option R :=
k0 x0 x1 x2 x3 x4 []
theorem t27_12 (x0 x1 x2 x3 x4) : exec cl N c27_12 (e65 x0 x1 x2 x3 x4) K = (g27_12 x0 x1 x2 x3 x4 (fun y0 y1 y2 y3 y4 y5 => K .normal (e66 y0 y1 y2 y3 y4 y5))) := by
  kernel_rfl
def g27_13 (x0 x1 : V7) (x2 : Int) (x3 x4 x5 : V7) (k0 : V7 → V7 → V7 → V7 → V7 → Int → Option R) : Option R :=
k0 x0 x1 x3 x4 x5 x2
theorem t27_13 (x0 x1 x2 x3 x4 x5) : exec cl N c27_13 (e66 x0 x1 x2 x3 x4 x5) K = (g27_13 x0 x1 x2 x3 x4 x5 (fun y0 y1 y2 y3 y4 y5 => K .normal (e67 y0 y1 y2 y3 y4 y5))) := by
  kernel_rfl
def g27_14 (x0 x1 x2 x3 x4 : V7) (x5 : Int) (k0 : V7 → V7 → V7 → V7 → V7 → Int → Bool → Option R) : Option R :=
k0 x0 x1 x2 x3 x4 x5 (x5 == (1 : Int))
theorem t27_14 (x0 x1 x2 x3 x4 x5) : exec cl N c27_14 (e67 x0 x1 x2 x3 x4 x5) K = (g27_14 x0 x1 x2 x3 x4 x5 (fun y0 y1 y2 y3 y4 y5 y6 => K .normal (e68 y0 y1 y2 y3 y4 y5 y6))) := by
  kernel_rfl
def g27_15 (S37 : V7 → Option (Int)) (x0 x1 x2 x3 x4 : V7) (x5 : Int) (x6 : Bool) (k0 : V7 → V7 → V7 → Int → Option R) : Option R :=
(S37 x0).bind fun r207 =>
k0 x0 x2 x3 (IntKind.i64.wrap ((x0.length : Int) - r207))
theorem t27_15 (S37) (h37 : (ctr37 S37).holds cl) (x0 x1 x2 x3 x4 x5 x6) : exec cl N c27_15 (e68 x0 x1 x2 x3 x4 x5 x6) K = (g27_15 S37 x0 x1 x2 x3 x4 x5 x6 (fun y0 y1 y2 y3 => K .normal (e69 y0 y1 y2 y3))) := by
  rw [← put_eq h37]
  kernel_rfl
def g27_16 (S9 : V7 → Option V8) (x0 x1 x2 : V7) (x3 : Int) (k0 : V7 → V7 → V7 → Option R) : Option R :=
if 0 ≤ (0 : Int) ∧ (0 : Int) ≤ x3 ∧ x3 ≤ x3 ∧ x3 ≤ (x1.length : Int) then
if 0 ≤ x3 ∧ x3 ≤ (x0.length : Int) ∧ (x0.length : Int) ≤ (x0.length : Int) ∧ (x0.length : Int) ≤ (x0.length : Int) then
(S9 ((x0.drop x3.toNat).take ((x0.length : Int).toNat - x3.toNat))).bind fun r211 =>
k0 ((x1.drop (0 : Int).toNat).take (x3.toNat - (0 : Int).toNat)) x2 r211
else none
else none
theorem t27_16 (S9) (h9 : (ctr9 S9).holds cl) (x0 x1 x2 x3) : exec cl N c27_16 (e69 x0 x1 x2 x3) K = (g27_16 S9 x0 x1 x2 x3 (fun y0 y1 y2 => K .normal (e70 y0 y1 y2))) := by
  rw [← put_eq h9]
  kernel_rfl
theorem kp27_4 (x0 x1 x2) : keep [11, 12, 13] (e70 x0 x1 x2) = (e70 x0 x1 x2) := by kernel_rfl
def g27_17 (x0 x1 x2 x3 x4 : V7) (x5 : Int) (x6 : Bool) (k0 : V7 → V7 → V7 → V7 → Int → Bool → Option R) : Option R :=
k0 x1 x2 x3 x4 x5 (x5 == (2 : Int))
theorem t27_17 (x0 x1 x2 x3 x4 x5 x6) : exec cl N c27_17 (e68 x0 x1 x2 x3 x4 x5 x6) K = (g27_17 x0 x1 x2 x3 x4 x5 x6 (fun y0 y1 y2 y3 y4 y5 => K .normal (e71 y0 y1 y2 y3 y4 y5))) := by
  kernel_rfl
def g27_18 (S53 : V7 → Option (Int)) (x0 x1 x2 x3 : V7) (x4 : Int) (x5 : Bool) (k0 : V7 → V7 → Int → Option R) : Option R :=
(S53 x0).bind fun r213 =>
k0 x0 x1 (IntKind.i64.wrap (r213 + (1 : Int)))
theorem t27_18 (S53) (h53 : (ctr53 S53).holds cl) (x0 x1 x2 x3 x4 x5) : exec cl N c27_18 (e71 x0 x1 x2 x3 x4 x5) K = (g27_18 S53 x0 x1 x2 x3 x4 x5 (fun y0 y1 y2 => K .normal [(1, .v U17 y0), (11, .own true 30 U14 .no y1), (15, .v U2 y2)])) := by
  rw [← put_eq h53]
  kernel_rfl
def g27_19 (S9 : V7 → Option V8) (x0 x1 : V7) (x2 : Int) (k0 : V7 → V7 → V7 → Option R) : Option R :=
if 0 ≤ x2 ∧ x2 ≤ (x0.length : Int) ∧ (x0.length : Int) ≤ (x0.length : Int) ∧ (x0.length : Int) ≤ (x0.length : Int) then
(S9 ((x0.drop x2.toNat).take ((x0.length : Int).toNat - x2.toNat))).bind fun r216 =>
if 0 ≤ (0 : Int) ∧ (0 : Int) ≤ x2 ∧ x2 ≤ (x0.length : Int) ∧ (x0.length : Int) ≤ (x0.length : Int) then
(S9 ((x0.drop (0 : Int).toNat).take (x2.toNat - (0 : Int).toNat))).bind fun r218 =>
k0 x1 r216 r218
else none
else none
theorem t27_19 (S9) (h9 : (ctr9 S9).holds cl) (x0 x1 x2) : exec cl N c27_19 [(1, .v U17 x0), (11, .own true 30 U14 .no x1), (15, .v U2 x2)] K = (g27_19 S9 x0 x1 x2 (fun y0 y1 y2 => K .normal (e72 y0 y1 y2))) := by
  rw [← put_eq h9]
  kernel_rfl
theorem kp27_5 (x0 x1 x2) : keep [11, 12, 13] (e72 x0 x1 x2) = (e72 x0 x1 x2) := by kernel_rfl
def g27_20 (x0 x1 x2 x3 : V7) (x4 : Int) (x5 : Bool) (k0 : V7 → V7 → V7 → Bool → Option R) : Option R :=
k0 x1 x2 x3 (x4 == (4 : Int))
theorem t27_20 (x0 x1 x2 x3 x4 x5) : exec cl N c27_20 (e71 x0 x1 x2 x3 x4 x5) K = (g27_20 x0 x1 x2 x3 x4 x5 (fun y0 y1 y2 y3 => K .normal (e73 y0 y1 y2 y3))) := by
  kernel_rfl
def g27_21 (x0 x1 x2 : V7) (x3 : Bool) (k0 : V7 → V7 → V7 → Nat → Option R) : Option R :=
let v220 : Int := (IntKind.i64.wrap ((x0.length : Int) - (1 : Int)))
if 0 ≤ v220 ∧ v220 < (x0.length : Int) then
k0 x0 x1 x2 v220.toNat
else none
theorem t27_21 (x0 x1 x2 x3) : exec cl N c27_21 (e73 x0 x1 x2 x3) K = (g27_21 x0 x1 x2 x3 (fun y0 y1 y2 y3 => K .normal (e74 y0 y1 y2 y3))) := by
  kernel_rfl
def g27_22 (x0 x1 x2 : V7) (x3 : Nat) (k0 : V7 → V7 → V7 → Option R) : Option R :=
if x3 < x0.length then
if x3 < (x0.set x3 ((1 : Int), (x0.getD x3 ((0 : Int), ((0 : Int), ([], ())))).2)).length then
k0 ((x0.set x3 ((1 : Int), (x0.getD x3 ((0 : Int), ((0 : Int), ([], ())))).2)).set x3 (((x0.set x3 ((1 : Int), (x0.getD x3 ((0 : Int), ((0 : Int), ([], ())))).2)).getD x3 ((0 : Int), ((0 : Int), ([], ())))).1, ((1 : Int), ((x0.set x3 ((1 : Int), (x0.getD x3 ((0 : Int), ((0 : Int), ([], ())))).2)).getD x3 ((0 : Int), ((0 : Int), ([], ())))).2.2))) x1 x2
else none
else none
theorem t27_22 (x0 x1 x2 x3) : exec cl N c27_22 (e74 x0 x1 x2 x3) K = (g27_22 x0 x1 x2 x3 (fun y0 y1 y2 => K .normal (e72 y0 y1 y2))) := by
  kernel_rfl
theorem kp27_6 (x0 x1 x2 x3) : keep [11, 12, 13] (e73 x0 x1 x2 x3) = (e72 x0 x1 x2) := by kernel_rfl
theorem hb27_3 (x0 x1 x2 x3) : boolOf? (ent (e73 x0 x1 x2 x3) (.t 68)) = some x3 := by kernel_rfl
theorem hb27_4 (x0 x1 x2 x3 x4 x5) : boolOf? (ent (e71 x0 x1 x2 x3 x4 x5) (.t 55)) = some x5 := by kernel_rfl
theorem hb27_5 (x0 x1 x2 x3 x4 x5 x6) : boolOf? (ent (e68 x0 x1 x2 x3 x4 x5 x6) (.t 40)) = some x6 := by kernel_rfl
def g27_27 (S9 : V7 → Option V8) (S37 : V7 → Option (Int)) (S53 : V7 → Option (Int)) (x0 x1 : V7) (x2 : Int) (x3 x4 x5 : V7) (k0 : V7 → V7 → V7 → Option R) (k1 : V7 → V7 → V7 → Option R) : Option R :=
(g27_13 x0 x1 x2 x3 x4 x5 (fun y0 y1 y2 y3 y4 y5 => (g27_14 y0 y1 y2 y3 y4 y5 (fun y0 y1 y2 y3 y4 y5 y6 => brB y6 (g27_15 S37 y0 y1 y2 y3 y4 y5 y6 (fun y0 y1 y2 y3 => (g27_16 S9 y0 y1 y2 y3 (fun y0 y1 y2 => (k0 y0 y1 y2))))) (g27_17 y0 y1 y2 y3 y4 y5 y6 (fun y0 y1 y2 y3 y4 y5 => brB y5 (g27_18 S53 y0 y1 y2 y3 y4 y5 (fun y0 y1 y2 => (g27_19 S9 y0 y1 y2 (fun y0 y1 y2 => (k1 y0 y1 y2))))) (g27_20 y0 y1 y2 y3 y4 y5 (fun y0 y1 y2 y3 => brB y3 (g27_21 y0 y1 y2 y3 (fun y0 y1 y2 y3 => (g27_22 y0 y1 y2 y3 (fun y0 y1 y2 => (k1 y0 y1 y2))))) (k1 y0 y1 y2)))))))))
theorem t27_27 (S9) (S37) (S53) (h9 : (ctr9 S9).holds cl) (h37 : (ctr37 S37).holds cl) (h53 : (ctr53 S53).holds cl) (x0 x1 x2 x3 x4 x5) : exec cl N c27_27 (e66 x0 x1 x2 x3 x4 x5) K = (g27_27 S9 S37 S53 x0 x1 x2 x3 x4 x5 (fun y0 y1 y2 => K .normal (e70 y0 y1 y2)) (fun y0 y1 y2 => K .normal (e72 y0 y1 y2))) := by
  simp only [c27_27, exec_seq, seqK_normal, seqK_exit, seqK_ret, t27_13, c27_26, exec_out, exec_block, t27_14, c27_25, exec_cond', hb27_5, Option.bind_some, brB_true, brB_false, t27_15 S37 h37, t27_16 S9 h9, t27_17, c27_24, hb27_4, t27_18 S53 h53, t27_19 S9 h9, t27_20, c27_23, hb27_3, t27_21, t27_22, exec_skip, kp27_5, kp27_6, kp27_4, blockK_normal, blockK_ret, blockK_eq]
  rfl
def g27_28 (x0 x1 x2 : V7) (k0 : V7 → Int → V7 → V7 → V7 → Option R) : Option R :=
k0 x0 (0 : Int) x0 x1 x2
theorem t27_28 (x0 x1 x2) : exec cl N c27_28 (e70 x0 x1 x2) K = (g27_28 x0 x1 x2 (fun y0 y1 y2 y3 y4 => K .normal (e75 y0 y1 y2 y3 y4))) := by
  kernel_rfl
def g27_28b (x0 x1 x2 : V7) (k0 : Int → V7 → V7 → V7 → Option R) : Option R :=
k0 (0 : Int) x0 x1 x2
theorem t27_28b (x0 x1 x2) : exec cl N c27_28 (e72 x0 x1 x2) K = (g27_28b x0 x1 x2 (fun y0 y1 y2 y3 => K .normal (e76 y0 y1 y2 y3))) := by
  kernel_rfl
def g27_29 (S9 : V7 → Option V8) (S33 : V7 → V7 → Option (Int)) (S34 : V7 → V7 → Option V2) (S37 : V7 → Option (Int)) (S52 : V0 → Int → Option (Bool)) (S53 : V7 → Option (Int)) (x0 x1 : V7) (x2 : Int) (k0 : V7 → V7 → V7 → Int → Option R) (k1 : V7 → Int → V7 → V7 → V7 → Option R) (k2 : Int → V7 → V7 → V7 → Option R) : Option R :=
(g27_0 x0 x1 x2 (fun y0 y1 y2 => (g27_1 S33 y0 y1 y2 (fun y0 y1 y2 y3 => (g27_2 y0 y1 y2 y3 (fun y0 y1 y2 y3 y4 => brB y4 (g27_3 y0 y1 y2 y3 y4 (fun y0 y1 y2 y3 => ((fun y0 y1 y2 y3 => (k0 y0 y1 y2 y3)) y0 y1 y2 y3))) ((fun y0 y1 y2 => (g27_5 y0 y1 y2 (fun y0 y1 y2 y3 => brB y3 (g27_6 y0 y1 y2 y3 (fun y0 y1 y2 y3 => ((fun y0 y1 y2 y3 => (k0 y0 y1 y2 y3)) y0 y1 y2 y3))) ((fun y0 y1 y2 => (g27_8 S34 S52 y0 y1 y2 (fun y0 y1 y2 y3 => brB y3 (g27_9 y0 y1 y2 y3 (fun y0 y1 y2 y3 => ((fun y0 y1 y2 y3 => (k0 y0 y1 y2 y3)) y0 y1 y2 y3))) ((fun y0 y1 y2 => (g27_11 S9 y0 y1 y2 (fun y0 y1 y2 y3 y4 => (g27_12 y0 y1 y2 y3 y4 (fun y0 y1 y2 y3 y4 y5 => (g27_27 S9 S37 S53 y0 y1 y2 y3 y4 y5 (fun y0 y1 y2 => (g27_28 y0 y1 y2 (fun y0 y1 y2 y3 y4 => (k1 y0 y1 y2 y3 y4)))) (fun y0 y1 y2 => (g27_28b y0 y1 y2 (fun y0 y1 y2 y3 => (k2 y0 y1 y2 y3)))))))))) y0 y1 y2)))) y0 y1 y2)))) y0 y1 y2)))))))
theorem t27_29 (S9) (S33) (S34) (S37) (S52) (S53) (h9 : (ctr9 S9).holds cl) (h33 : (ctr33 S33).holds cl) (h34 : (ctr34 S34).holds cl) (h37 : (ctr37 S37).holds cl) (h52 : (ctr52 S52).holds cl) (h53 : (ctr53 S53).holds cl) (x0 x1 x2) : exec cl N c27_29 (e58 x0 x1 x2) K = (g27_29 S9 S33 S34 S37 S52 S53 x0 x1 x2 (fun y0 y1 y2 y3 => K .ret (e61 y0 y1 y2 y3)) (fun y0 y1 y2 y3 y4 => K .ret (e75 y0 y1 y2 y3 y4)) (fun y0 y1 y2 y3 => K .ret (e76 y0 y1 y2 y3))) := by
  simp only [c27_29, exec_seq, seqK_normal, seqK_exit, seqK_ret, t27_0, t27_1 S33 h33, t27_2, c27_4, exec_out, exec_cond', hb27_0, Option.bind_some, brB_true, brB_false, t27_3, exec_ret, exec_skip, kp27_0, kp27_1, t27_5, c27_7, hb27_1, t27_6, kp27_2, t27_8 S34 S52 h34 h52, c27_10, hb27_2, t27_9, kp27_3, t27_11 S9 h9, t27_12, t27_27 S9 S37 S53 h9 h37 h53, t27_28, t27_28b]
  rfl
theorem rk27_0 (y0 y1 y2 y3) : retK d27 .ret (e61 y0 y1 y2 y3) = some [.v U17 y0, .own true 30 U14 .no y1, .own true 30 U14 .no y2, .v U2 y3] := by kernel_rfl
theorem rk27_1 (y0 y1 y2 y3 y4) : retK d27 .ret (e75 y0 y1 y2 y3 y4) = some [.v U17 y0, .own true 30 U14 .no y3, .own true 30 U14 .no y4, .v U2 y1] := by kernel_rfl
theorem rk27_2 (y0 y1 y2 y3) : retK d27 .ret (e76 y0 y1 y2 y3) = some [.v U17 y1, .own true 30 U14 .no y2, .own true 30 U14 .no y3, .v U2 y0] := by kernel_rfl
def g27 (S9 : V7 → Option V8) (S33 : V7 → V7 → Option (Int)) (S34 : V7 → V7 → Option V2) (S37 : V7 → Option (Int)) (S52 : V0 → Int → Option (Bool)) (S53 : V7 → Option (Int)) (x0 x1 : V7) (x2 : Int) (k : V7 → V7 → V7 → Int → Option R) : Option R :=
(g27_29 S9 S33 S34 S37 S52 S53 x0 x1 x2 (fun y0 y1 y2 y3 => k y0 y1 y2 y3) (fun y0 y1 y2 y3 y4 => k y0 y3 y4 y1) (fun y0 y1 y2 y3 => k y1 y2 y3 y0))
theorem gen27 {N : Nat} {cl : Cal} (S9 : V7 → Option V8) (S33 : V7 → V7 → Option (Int)) (S34 : V7 → V7 → Option V2) (S37 : V7 → Option (Int)) (S52 : V0 → Int → Option (Bool)) (S53 : V7 → Option (Int)) (h9 : (ctr9 S9).holds cl) (h33 : (ctr33 S33).holds cl) (h34 : (ctr34 S34).holds cl) (h37 : (ctr37 S37).holds cl) (h52 : (ctr52 S52).holds cl) (h53 : (ctr53 S53).holds cl) (x0 : V7) (x1 : V7) (x2 : Int) {R : Type} (k : List E → Option R) : exec cl N c27 (params 0 [.v U17 x0, .v U17 x1, .v U2 x2]) (fun e env => (retK d27 e env).bind k) = g27 S9 S33 S34 S37 S52 S53 x0 x1 x2 (fun (r0 : V7) (r1 : V7) (r2 : V7) (r3 : Int) => k [.v U17 r0, .own true 30 U14 .no r1, .own true 30 U14 .no r2, .v U2 r3]) := by
  have e0 : params 0 [.v U17 x0, .v U17 x1, .v U2 x2] = (e58 x0 x1 x2) := by kernel_rfl
  simp only [c27, e0, t27_29 S9 S33 S34 S37 S52 S53 h9 h33 h34 h37 h52 h53, rk27_0, rk27_1, rk27_2, Option.bind_some]
  rfl
def ctr27 (S : V7 → V7 → Int → Option V13) : Ctr := { A := V7 × V7 × Int × Unit, B := V7 × V7 × V7 × Int, f := 27, enc := fun a => [.v U17 a.1, .v U17 a.2.1, .v U2 a.2.2.1], dec := (decC (decV U17) (decC (decV U17) (decC (decV U2) dec0))), S := fun a => S a.1 a.2.1 a.2.2.1, ent := fun b => [.v U17 b.1, .own true 30 U14 .no b.2.1, .own true 30 U14 .no b.2.2.1, .v U2 b.2.2.2], ok := (decV_cons (T := U17) (decV_cons (T := U17) (decV_cons (T := U2) (fun es b h => dec0_some h)))) }
def S27 (N : Nat) (x0 : V7) (x1 : V7) (x2 : Int) : Option V13 := g27 (S9 N) (S33 N) (S34 N) (S37 N) (S52 N) (S53 N) x0 x1 x2 (fun (r0 : V7) (r1 : V7) (r2 : V7) (r3 : Int) => some (r0, r1, r2, r3))
def g8_0 (x0 x1 : V7) (x2 : Int) (k0 : V7 → V7 → Int → Option R) : Option R :=
k0 x0 x1 x2
theorem t8_0 (x0 x1 x2) : exec cl N c8_0 (e58 x0 x1 x2) K = (g8_0 x0 x1 x2 (fun y0 y1 y2 => K .normal (e58 y0 y1 y2))) := by
  kernel_rfl
def g8_1 (S27 : V7 → V7 → Int → Option V13) (x0 x1 : V7) (x2 : Int) (k0 : V7 → V7 → Int → Option R) : Option R :=
(S27 x0 x1 x2).bind fun r222 =>
k0 r222.1 r222.2.1 r222.2.2.2
theorem t8_1 (S27) (h27 : (ctr27 S27).holds cl) (x0 x1 x2) : exec cl N c8_1 (e58 x0 x1 x2) K = (g8_1 S27 x0 x1 x2 (fun y0 y1 y2 => K .normal [(9, .v U17 y0), (10, .own true 30 U14 .no y1), (12, .v U2 y2)])) := by
  rw [← put_eq h27]
  kernel_rfl
def g8_2 (x0 x1 : V7) (x2 : Int) (k0 : V7 → Int → V7 → Option R) : Option R :=
k0 x0 x2 x1
theorem t8_2 (x0 x1 x2) : exec cl N c8_2 [(9, .v U17 x0), (10, .own true 30 U14 .no x1), (12, .v U2 x2)] K = (g8_2 x0 x1 x2 (fun y0 y1 y2 => K .normal (e77 y0 y1 y2))) := by
  kernel_rfl
def g8_3 (S27 : V7 → V7 → Int → Option V13) (x0 x1 : V7) (x2 : Int) (k0 : V7 → Int → V7 → Option R) : Option R :=
(g8_0 x0 x1 x2 (fun y0 y1 y2 => (g8_1 S27 y0 y1 y2 (fun y0 y1 y2 => (g8_2 y0 y1 y2 (fun y0 y1 y2 => (k0 y0 y1 y2)))))))
theorem t8_3 (S27) (h27 : (ctr27 S27).holds cl) (x0 x1 x2) : exec cl N c8_3 (e58 x0 x1 x2) K = (g8_3 S27 x0 x1 x2 (fun y0 y1 y2 => K .ret (e77 y0 y1 y2))) := by
  simp only [c8_3, exec_seq, seqK_normal, seqK_exit, seqK_ret, t8_0, t8_1 S27 h27, t8_2, exec_ret]
  rfl
theorem rk8_0 (y0 y1 y2) : retK d8 .ret (e77 y0 y1 y2) = some [.v U17 y0, .own true 30 U14 .no y2, .v U2 y1] := by kernel_rfl
def g8 (S27 : V7 → V7 → Int → Option V13) (x0 x1 : V7) (x2 : Int) (k : V7 → V7 → Int → Option R) : Option R :=
(g8_3 S27 x0 x1 x2 (fun y0 y1 y2 => k y0 y2 y1))
theorem gen8 {N : Nat} {cl : Cal} (S27 : V7 → V7 → Int → Option V13) (h27 : (ctr27 S27).holds cl) (x0 : V7) (x1 : V7) (x2 : Int) {R : Type} (k : List E → Option R) : exec cl N c8 (params 0 [.v U17 x0, .v U17 x1, .v U2 x2]) (fun e env => (retK d8 e env).bind k) = g8 S27 x0 x1 x2 (fun (r0 : V7) (r1 : V7) (r2 : Int) => k [.v U17 r0, .own true 30 U14 .no r1, .v U2 r2]) := by
  have e0 : params 0 [.v U17 x0, .v U17 x1, .v U2 x2] = (e58 x0 x1 x2) := by kernel_rfl
  simp only [c8, e0, t8_3 S27 h27, rk8_0, Option.bind_some]
  rfl
def ctr8 (S : V7 → V7 → Int → Option V11) : Ctr := { A := V7 × V7 × Int × Unit, B := V7 × V7 × Int, f := 8, enc := fun a => [.v U17 a.1, .v U17 a.2.1, .v U2 a.2.2.1], dec := (decC (decV U17) (decC (decV U17) (decC (decV U2) dec0))), S := fun a => S a.1 a.2.1 a.2.2.1, ent := fun b => [.v U17 b.1, .own true 30 U14 .no b.2.1, .v U2 b.2.2], ok := (decV_cons (T := U17) (decV_cons (T := U17) (decV_cons (T := U2) (fun es b h => dec0_some h)))) }
def S8 (N : Nat) (x0 : V7) (x1 : V7) (x2 : Int) : Option V11 := g8 (S27 N) x0 x1 x2 (fun (r0 : V7) (r1 : V7) (r2 : Int) => some (r0, r1, r2))
def g88_0 (x0 : Int) (k0 : Int → Option R) : Option R :=
k0 x0
theorem t88_0 (x0) : exec cl N c88_0 [(0, .v U0 x0)] K = (g88_0 x0 (fun y0 => K .normal [(0, .v U0 y0)])) := by
  kernel_rfl
def g88_1 (x0 : Int) (k0 : Bool → Option R) : Option R :=
brB (decide (x0 ≥ (97 : Int))) (brB (decide (x0 ≤ (122 : Int))) (k0 true) (brB (decide (x0 ≥ (48 : Int))) (brB (decide (x0 ≤ (57 : Int))) (k0 true) (brB (x0 == (95 : Int)) (k0 true) (brB (x0 == (94 : Int)) (k0 true) (k0 (x0 == (39 : Int)))))) (brB (x0 == (95 : Int)) (k0 true) (brB (x0 == (94 : Int)) (k0 true) (k0 (x0 == (39 : Int))))))) (brB (decide (x0 ≥ (48 : Int))) (brB (decide (x0 ≤ (57 : Int))) (k0 true) (brB (x0 == (95 : Int)) (k0 true) (brB (x0 == (94 : Int)) (k0 true) (k0 (x0 == (39 : Int)))))) (brB (x0 == (95 : Int)) (k0 true) (brB (x0 == (94 : Int)) (k0 true) (k0 (x0 == (39 : Int))))))
theorem t88_1 (x0) : exec cl N c88_1 [(0, .v U0 x0)] K = (g88_1 x0 (fun y0 => K .normal [(2, .v .bool y0)])) := by
  kernel_rfl
def g88_2 (x0 : Int) (k0 : Bool → Option R) : Option R :=
(g88_0 x0 (fun y0 => (g88_1 y0 (fun y0 => (k0 y0)))))
theorem t88_2 (x0) : exec cl N c88_2 [(0, .v U0 x0)] K = (g88_2 x0 (fun y0 => K .ret [(2, .v .bool y0)])) := by
  simp only [c88_2, exec_seq, seqK_normal, seqK_exit, seqK_ret, t88_0, t88_1, exec_ret]
  rfl
theorem rk88_0 (y0) : retK d88 .ret [(2, .v .bool y0)] = some [.v .bool y0] := by kernel_rfl
def g88 (x0 : Int) (k : Bool → Option R) : Option R :=
(g88_2 x0 (fun y0 => k y0))
theorem gen88 {N : Nat} {cl : Cal} (x0 : Int) {R : Type} (k : List E → Option R) : exec cl N c88 (params 0 [.v U0 x0]) (fun e env => (retK d88 e env).bind k) = g88 x0 (fun (r0 : Bool) => k [.v .bool r0]) := by
  have e0 : params 0 [.v U0 x0] = [(0, .v U0 x0)] := by kernel_rfl
  simp only [c88, e0, t88_2, rk88_0, Option.bind_some]
  rfl
def ctr88 (S : Int → Option (Bool)) : Ctr := { A := Int × Unit, B := Bool, f := 88, enc := fun a => [.v U0 a.1], dec := (decC (decV U0) dec0), S := fun a => S a.1, ent := fun b => [.v .bool b], ok := (decV_cons (T := U0) (fun es b h => dec0_some h)) }
def S88 (N : Nat) (x0 : Int) : Option (Bool) := g88 x0 (fun (r0 : Bool) => some (r0))
def g73_0 (x0 : V6) (k0 : V6 → Option R) : Option R :=
k0 x0
theorem t73_0 (x0) : exec cl N c73_0 [(0, .v U14 x0)] K = (g73_0 x0 (fun y0 => K .normal [(1, .loc U14 .no y0)])) := by
  kernel_rfl
def g73_1 (x0 : V6) (k0 : V6 → Bool → Option R) : Option R :=
brB (decide (x0.1 < (1 : Int))) (k0 x0 true) (k0 x0 (decide (x0.1 > (9 : Int))))
theorem t73_1 (x0) : exec cl N c73_1 [(1, .loc U14 .no x0)] K = (g73_1 x0 (fun y0 y1 => K .normal (e24 y0 y1))) := by
  kernel_rfl
def g73_2 (x0 : V6) (x1 : Bool) (k0 : Int → Option R) : Option R :=
k0 (1 : Int)
theorem t73_2 (x0 x1) : exec cl N c73_2 (e24 x0 x1) K = (g73_2 x0 x1 (fun y0 => K .normal [(2, .v U2 y0)])) := by
  kernel_rfl
theorem kp73_0 (x0) : keep [1, 2] [(2, .v U2 x0)] = [(1, .dead), (2, .v U2 x0)] := by kernel_rfl
theorem kp73_1 (x0 x1) : keep [1, 2] (e24 x0 x1) = (e12 x0) := by kernel_rfl
theorem hb73_0 (x0 x1) : boolOf? (ent (e24 x0 x1) (.t 12)) = some x1 := by kernel_rfl
def g73_4 (x0 : V6) (k0 : V6 → Bool → Option R) : Option R :=
k0 x0 (x0.2.1 == (0 : Int))
theorem t73_4 (x0) : exec cl N c73_4 (e12 x0) K = (g73_4 x0 (fun y0 y1 => K .normal (e23 y0 y1))) := by
  kernel_rfl
def g73_5 (x0 : V6) (x1 : Bool) (k0 : V6 → Bool → Bool → Option R) : Option R :=
k0 x0 x1 (x0.1 == (1 : Int))
theorem t73_5 (x0 x1) : exec cl N c73_5 (e23 x0 x1) K = (g73_5 x0 x1 (fun y0 y1 y2 => K .normal (e78 y0 y1 y2))) := by
  kernel_rfl
def g73_6 (x0 : V6) (x1 x2 : Bool) (k0 : V6 → Bool → Option R) : Option R :=
brB (decide (x0.2.1 ≥ (1 : Int))) (k0 x0 (decide (x0.2.1 ≤ (3 : Int)))) (k0 x0 false)
theorem t73_6 (x0 x1 x2) : exec cl N c73_6 (e78 x0 x1 x2) K = (g73_6 x0 x1 x2 (fun y0 y1 => K .normal (e23 y0 y1))) := by
  kernel_rfl
theorem kp73_2 (x0 x1) : keep [1, 3] (e23 x0 x1) = (e23 x0 x1) := by kernel_rfl
theorem kp73_3 (x0 x1 x2) : keep [1, 3] (e78 x0 x1 x2) = (e23 x0 x1) := by kernel_rfl
theorem hb73_1 (x0 x1 x2) : boolOf? (ent (e78 x0 x1 x2) (.t 18)) = some x2 := by kernel_rfl
def g73_8 (x0 : V6) (x1 : Bool) (k0 : V6 → Bool → Option R) : Option R :=
(g73_5 x0 x1 (fun y0 y1 y2 => brB y2 (g73_6 y0 y1 y2 (fun y0 y1 => (k0 y0 y1))) (k0 y0 y1)))
theorem t73_8 (x0 x1) : exec cl N c73_8 (e23 x0 x1) K = (g73_8 x0 x1 (fun y0 y1 => K .normal (e23 y0 y1))) := by
  simp only [c73_8, exec_seq, seqK_normal, seqK_exit, seqK_ret, t73_5, c73_7, exec_out, exec_cond', hb73_1, Option.bind_some, brB_true, brB_false, t73_6, exec_skip, kp73_2, kp73_3]
  rfl
def g73_9 (x0 : V6) (x1 : Bool) (k0 : V6 → Bool → Bool → Option R) : Option R :=
k0 x0 x1 (x0.1 == (2 : Int))
theorem t73_9 (x0 x1) : exec cl N c73_9 (e23 x0 x1) K = (g73_9 x0 x1 (fun y0 y1 y2 => K .normal (e79 y0 y1 y2))) := by
  kernel_rfl
def g73_10 (x0 : V6) (x1 x2 : Bool) (k0 : V6 → Bool → Option R) : Option R :=
k0 x0 (x0.2.1 == (2 : Int))
theorem t73_10 (x0 x1 x2) : exec cl N c73_10 (e79 x0 x1 x2) K = (g73_10 x0 x1 x2 (fun y0 y1 => K .normal (e23 y0 y1))) := by
  kernel_rfl
theorem kp73_4 (x0 x1 x2) : keep [1, 3] (e79 x0 x1 x2) = (e23 x0 x1) := by kernel_rfl
theorem hb73_2 (x0 x1 x2) : boolOf? (ent (e79 x0 x1 x2) (.t 29)) = some x2 := by kernel_rfl
def g73_12 (x0 : V6) (x1 : Bool) (k0 : V6 → Bool → Option R) : Option R :=
(g73_9 x0 x1 (fun y0 y1 y2 => brB y2 (g73_10 y0 y1 y2 (fun y0 y1 => (k0 y0 y1))) (k0 y0 y1)))
theorem t73_12 (x0 x1) : exec cl N c73_12 (e23 x0 x1) K = (g73_12 x0 x1 (fun y0 y1 => K .normal (e23 y0 y1))) := by
  simp only [c73_12, exec_seq, seqK_normal, seqK_exit, seqK_ret, t73_9, c73_11, exec_out, exec_cond', hb73_2, Option.bind_some, brB_true, brB_false, t73_10, exec_skip, kp73_2, kp73_4]
  rfl
def g73_13 (x0 : V6) (x1 : Bool) (k0 : V6 → Bool → Option R) : Option R :=
k0 x0 (!x1)
theorem t73_13 (x0 x1) : exec cl N c73_13 (e23 x0 x1) K = (g73_13 x0 x1 (fun y0 y1 => K .normal (e80 y0 y1))) := by
  kernel_rfl
def g73_14 (x0 : V6) (x1 : Bool) (k0 : Int → Option R) : Option R :=
k0 (6 : Int)
theorem t73_14 (x0 x1) : exec cl N c73_14 (e80 x0 x1) K = (g73_14 x0 x1 (fun y0 => K .normal [(2, .v U2 y0)])) := by
  kernel_rfl
theorem kp73_5 (x0 x1) : keep [1, 2] (e80 x0 x1) = (e12 x0) := by kernel_rfl
theorem hb73_3 (x0 x1) : boolOf? (ent (e80 x0 x1) (.t 34)) = some x1 := by kernel_rfl
def g73_16 (x0 : V6) (k0 : V6 → Bool → Option R) : Option R :=
k0 x0 (x0.2.2.1 == ([] : List UInt8))
theorem t73_16 (x0) : exec cl N c73_16 (e12 x0) K = (g73_16 x0 (fun y0 y1 => K .normal (e81 y0 y1))) := by
  kernel_rfl
def g73_17 (x0 : V6) (x1 : Bool) (k0 : Int → Option R) : Option R :=
k0 (7 : Int)
theorem t73_17 (x0 x1) : exec cl N c73_17 (e81 x0 x1) K = (g73_17 x0 x1 (fun y0 => K .normal [(2, .v U2 y0)])) := by
  kernel_rfl
theorem kp73_6 (x0 x1) : keep [1, 2] (e81 x0 x1) = (e12 x0) := by kernel_rfl
theorem hb73_4 (x0 x1) : boolOf? (ent (e81 x0 x1) (.t 37)) = some x1 := by kernel_rfl
def g73_19 (x0 : V6) (k0 : V6 → Bool → Option R) : Option R :=
k0 x0 (decide ((x0.2.2.1.length : Int) > (8 : Int)))
theorem t73_19 (x0) : exec cl N c73_19 (e12 x0) K = (g73_19 x0 (fun y0 y1 => K .normal (e82 y0 y1))) := by
  kernel_rfl
def g73_20 (x0 : V6) (x1 : Bool) (k0 : Int → Option R) : Option R :=
k0 (3 : Int)
theorem t73_20 (x0 x1) : exec cl N c73_20 (e82 x0 x1) K = (g73_20 x0 x1 (fun y0 => K .normal [(2, .v U2 y0)])) := by
  kernel_rfl
theorem kp73_7 (x0 x1) : keep [1, 2] (e82 x0 x1) = (e12 x0) := by kernel_rfl
theorem hb73_5 (x0 x1) : boolOf? (ent (e82 x0 x1) (.t 41)) = some x1 := by kernel_rfl
def g73_22 (x0 : V6) (k0 : V6 → Int → Option R) : Option R :=
k0 x0 (0 : Int)
theorem t73_22 (x0) : exec cl N c73_22 (e12 x0) K = (g73_22 x0 (fun y0 y1 => K .normal (e8 y0 y1))) := by
  kernel_rfl
theorem kp73_8 (x0 x1) : keep [1, 4] (e8 x0 x1) = (e8 x0 x1) := by kernel_rfl
def g73_23 (x0 : V6) (x1 : Int) (k0 : V6 → Int → Bool → Option R) : Option R :=
k0 x0 x1 (decide (x1 < (x0.2.2.1.length : Int)))
theorem t73_23 (x0 x1) : exec cl N c73_23 (e8 x0 x1) K = (g73_23 x0 x1 (fun y0 y1 y2 => K .normal (e83 y0 y1 y2))) := by
  kernel_rfl
theorem kp73_9 (x0 x1 x2) : keep [1, 4] (e83 x0 x1 x2) = (e8 x0 x1) := by kernel_rfl
theorem hb73_6 (x0 x1 x2) : boolOf? (ent (e83 x0 x1 x2) (.t 46)) = some x2 := by kernel_rfl
def g73_25 (S88 : Int → Option (Bool)) (x0 : V6) (x1 : Int) (k0 : V6 → Int → Bool → Option R) : Option R :=
if 0 ≤ x1 ∧ x1 < (x0.2.2.1.length : Int) then
(S88 ((x0.2.2.1.getD x1.toNat 0).toNat : Int)).bind fun r288 =>
k0 x0 x1 (!r288)
else none
theorem t73_25 (S88) (h88 : (ctr88 S88).holds cl) (x0 x1) : exec cl N c73_25 (e8 x0 x1) K = (g73_25 S88 x0 x1 (fun y0 y1 y2 => K .normal (e84 y0 y1 y2))) := by
  rw [← put_eq h88]
  kernel_rfl
def g73_26 (x0 : V6) (x1 : Int) (x2 : Bool) (k0 : Int → Option R) : Option R :=
k0 (2 : Int)
theorem t73_26 (x0 x1 x2) : exec cl N c73_26 (e84 x0 x1 x2) K = (g73_26 x0 x1 x2 (fun y0 => K .normal [(2, .v U2 y0)])) := by
  kernel_rfl
theorem kp73_10 (x0) : keep [1, 2, 4] [(2, .v U2 x0)] = (e85 x0) := by kernel_rfl
theorem kp73_11 (x0 x1 x2) : keep [1, 2, 4] (e84 x0 x1 x2) = (e86 x0 x1) := by kernel_rfl
theorem hb73_7 (x0 x1 x2) : boolOf? (ent (e84 x0 x1 x2) (.t 54)) = some x2 := by kernel_rfl
theorem kp73_12 (x0) : keep [1, 2, 4] (e85 x0) = (e85 x0) := by kernel_rfl
theorem kp73_13 (x0 x1) : keep [1, 2, 4] (e86 x0 x1) = (e86 x0 x1) := by kernel_rfl
def g73_29 (x0 : V6) (x1 : Int) (k0 : V6 → Int → Option R) : Option R :=
k0 x0 (IntKind.i64.wrap (x1 + (1 : Int)))
theorem t73_29 (x0 x1) : exec cl N c73_29 (e86 x0 x1) K = (g73_29 x0 x1 (fun y0 y1 => K .normal (e8 y0 y1))) := by
  kernel_rfl
def g73_30 (S88 : Int → Option (Bool)) (x0 : V6) (x1 : Int) (k0 : Int → Option R) (k1 : V6 → Int → Option R) (k2 : V6 → Int → Option R) : Option R :=
(g73_23 x0 x1 (fun y0 y1 y2 => brB y2 ((fun y0 y1 => (g73_25 S88 y0 y1 (fun y0 y1 y2 => brB y2 (g73_26 y0 y1 y2 (fun y0 => ((fun y0 => (k0 y0)) y0))) (g73_29 y0 y1 k1)))) y0 y1) (k2 y0 y1)))
theorem t73_30 (S88) (h88 : (ctr88 S88).holds cl) (x0 x1) : exec cl N c73_30 (e8 x0 x1) K = (g73_30 S88 x0 x1 (fun y0 => K .ret (e85 y0)) (fun y0 y1 => K .normal (e8 y0 y1)) (fun y0 y1 => K (.exit 0) (e8 y0 y1))) := by
  simp only [c73_30, exec_seq, seqK_normal, seqK_exit, seqK_ret, t73_23, c73_24, exec_out, exec_cond', hb73_6, Option.bind_some, brB_true, brB_false, exec_skip, exec_exit, kp73_9, c73_28, exec_block, t73_25 S88 h88, c73_27, hb73_7, t73_26, exec_ret, kp73_10, kp73_11, blockK_normal, blockK_ret, blockK_eq, kp73_12, kp73_13, t73_29]
  rfl
def l73_31 {R : Type} (S88 : Int → Option (Bool)) (k0 : Int → Option R) (k1 : V6 → Int → Option R) : Nat → V6 → Int → Option R
  | 0, _, _ => none
  | m + 1, x0, x1 => (g73_30 S88 x0 x1 k0 (fun y0 y1 => l73_31 S88 k0 k1 m y0 y1) k1)
theorem lt73_31 (S88) (h88 : (ctr88 S88).holds cl) : ∀ (m) (x0 x1), iter [1, 4] (fun env K => exec cl N c73_30 env K) K m (e8 x0 x1) = l73_31 S88 (fun y0 => K .ret (e85 y0)) (fun y0 y1 => K (.exit 0) (e8 y0 y1)) m x0 x1 := by
  intro m
  induction m with
  | zero => intros; rfl
  | succ m ih =>
    intro x0 x1
    simp only [iter_succ, t73_30 S88 h88, loopK_normal, loopK_exit, loopK_ret, kp73_8, ih]
    rfl
theorem kp73_14 (x0) : keep [2] (e85 x0) = [(2, .v U2 x0)] := by kernel_rfl
theorem kp73_15 (x0 x1) : keep [2] (e8 x0 x1) = [(2, .dead)] := by kernel_rfl
def g73_31 (N : Nat) (S88 : Int → Option (Bool)) (x0 : V6) (x1 : Int) (k0 : Int → Option R) (k1 : Option R) : Option R :=
l73_31 S88 (fun y0 => k0 y0) (fun y0 y1 => k1) N x0 x1
theorem t73_31 (S88) (h88 : (ctr88 S88).holds cl) (x0 x1) : exec cl N c73_31 (e8 x0 x1) K = (g73_31 N S88 x0 x1 (fun y0 => K .ret [(2, .v U2 y0)]) (K (.exit 0) [(2, .dead)])) := by
  simp only [c73_31, exec_out, exec_loop, kp73_8, lt73_31 S88 h88, kp73_14, kp73_15]
  rfl
theorem kp73_16 (x0) : keep [2] [(2, .v U2 x0)] = [(2, .v U2 x0)] := by kernel_rfl
theorem kp73_17 : keep [2] [(2, .dead)] = [(2, .dead)] := by kernel_rfl
def g73_33 (k0 : Int → Option R) : Option R :=
k0 (0 : Int)
theorem t73_33 : exec cl N c73_33 [(2, .dead)] K = (g73_33 (fun y0 => K .normal [(2, .v U2 y0)])) := by
  kernel_rfl
def g73_34 (N : Nat) (S88 : Int → Option (Bool)) (x0 : V6) (k0 : Int → Option R) (k1 : Int → Option R) : Option R :=
(g73_0 x0 (fun y0 => (g73_1 y0 (fun y0 y1 => brB y1 (g73_2 y0 y1 (fun y0 => ((fun y0 => (k0 y0)) y0))) ((fun y0 => (g73_4 y0 (fun y0 y1 => (g73_8 y0 y1 (fun y0 y1 => (g73_12 y0 y1 (fun y0 y1 => (g73_13 y0 y1 (fun y0 y1 => brB y1 (g73_14 y0 y1 (fun y0 => ((fun y0 => (k0 y0)) y0))) ((fun y0 => (g73_16 y0 (fun y0 y1 => brB y1 (g73_17 y0 y1 (fun y0 => ((fun y0 => (k0 y0)) y0))) ((fun y0 => (g73_19 y0 (fun y0 y1 => brB y1 (g73_20 y0 y1 (fun y0 => ((fun y0 => (k0 y0)) y0))) ((fun y0 => (g73_22 y0 (fun y0 y1 => (g73_31 N S88 y0 y1 (fun y0 => (k1 y0)) (g73_33 (fun y0 => (k1 y0))))))) y0)))) y0)))) y0)))))))))) y0)))))
theorem t73_34 (S88) (h88 : (ctr88 S88).holds cl) (x0) : exec cl N c73_34 [(0, .v U14 x0)] K = (g73_34 N S88 x0 (fun y0 => K .ret [(1, .dead), (2, .v U2 y0)]) (fun y0 => K .ret [(2, .v U2 y0)])) := by
  simp only [c73_34, exec_seq, seqK_normal, seqK_exit, seqK_ret, t73_0, t73_1, c73_3, exec_out, exec_cond', hb73_0, Option.bind_some, brB_true, brB_false, t73_2, exec_ret, exec_skip, kp73_0, kp73_1, t73_4, t73_8, t73_12, t73_13, c73_15, hb73_3, t73_14, kp73_5, t73_16, c73_18, hb73_4, t73_17, kp73_6, t73_19, c73_21, hb73_5, t73_20, kp73_7, t73_22, c73_32, exec_block, t73_31 S88 h88, blockK_normal, blockK_ret, blockK_eq, kp73_16, kp73_17, t73_33]
  rfl
theorem rk73_0 (y0) : retK d73 .ret [(1, .dead), (2, .v U2 y0)] = some [.v U2 y0] := by kernel_rfl
theorem rk73_1 (y0) : retK d73 .ret [(2, .v U2 y0)] = some [.v U2 y0] := by kernel_rfl
def g73 (N : Nat) (S88 : Int → Option (Bool)) (x0 : V6) (k : Int → Option R) : Option R :=
(g73_34 N S88 x0 (fun y0 => k y0) (fun y0 => k y0))
theorem gen73 {N : Nat} {cl : Cal} (S88 : Int → Option (Bool)) (h88 : (ctr88 S88).holds cl) (x0 : V6) {R : Type} (k : List E → Option R) : exec cl N c73 (params 0 [.v U14 x0]) (fun e env => (retK d73 e env).bind k) = g73 N S88 x0 (fun (r0 : Int) => k [.v U2 r0]) := by
  have e0 : params 0 [.v U14 x0] = [(0, .v U14 x0)] := by kernel_rfl
  simp only [c73, e0, t73_34 S88 h88, rk73_0, rk73_1, Option.bind_some]
  rfl
def ctr73 (S : V6 → Option (Int)) : Ctr := { A := V6 × Unit, B := Int, f := 73, enc := fun a => [.v U14 a.1], dec := (decC (decV U14) dec0), S := fun a => S a.1, ent := fun b => [.v U2 b], ok := (decV_cons (T := U14) (fun es b h => dec0_some h)) }
def S73 (N : Nat) (x0 : V6) : Option (Int) := g73 N (S88 N) x0 (fun (r0 : Int) => some (r0))
def g67_0 (x0 : V7) (k0 : V7 → Option R) : Option R :=
k0 x0
theorem t67_0 (x0) : exec cl N c67_0 [(0, .v U17 x0)] K = (g67_0 x0 (fun y0 => K .normal [(0, .v U17 y0)])) := by
  kernel_rfl
def g67_1 (x0 : V7) (k0 : V7 → Bool → Option R) : Option R :=
k0 x0 (decide ((x0.length : Int) > (200 : Int)))
theorem t67_1 (x0) : exec cl N c67_1 [(0, .v U17 x0)] K = (g67_1 x0 (fun y0 y1 => K .normal (e87 y0 y1))) := by
  kernel_rfl
def g67_2 (x0 : V7) (x1 : Bool) (k0 : Int → Option R) : Option R :=
k0 (3 : Int)
theorem t67_2 (x0 x1) : exec cl N c67_2 (e87 x0 x1) K = (g67_2 x0 x1 (fun y0 => K .normal [(2, .v U2 y0)])) := by
  kernel_rfl
theorem kp67_0 (x0) : keep [0, 2] [(2, .v U2 x0)] = (e28 x0) := by kernel_rfl
theorem kp67_1 (x0 x1) : keep [0, 2] (e87 x0 x1) = (e29 x0) := by kernel_rfl
theorem hb67_0 (x0 x1) : boolOf? (ent (e87 x0 x1) (.t 7)) = some x1 := by kernel_rfl
def g67_4 (x0 : V7) (k0 : V7 → Int → Option R) : Option R :=
k0 x0 (0 : Int)
theorem t67_4 (x0) : exec cl N c67_4 (e29 x0) K = (g67_4 x0 (fun y0 y1 => K .normal (e40 y0 y1))) := by
  kernel_rfl
theorem kp67_2 (x0 x1) : keep [0, 3] (e40 x0 x1) = (e40 x0 x1) := by kernel_rfl
def g67_5 (x0 : V7) (x1 : Int) (k0 : V7 → Int → Bool → Option R) : Option R :=
k0 x0 x1 (decide (x1 < (x0.length : Int)))
theorem t67_5 (x0 x1) : exec cl N c67_5 (e40 x0 x1) K = (g67_5 x0 x1 (fun y0 y1 y2 => K .normal (e88 y0 y1 y2))) := by
  kernel_rfl
theorem kp67_3 (x0 x1 x2) : keep [0, 3] (e88 x0 x1 x2) = (e40 x0 x1) := by kernel_rfl
theorem hb67_1 (x0 x1 x2) : boolOf? (ent (e88 x0 x1 x2) (.t 11)) = some x2 := by kernel_rfl
def g67_7 (S73 : V6 → Option (Int)) (x0 : V7) (x1 : Int) (k0 : V7 → Int → Int → Option R) : Option R :=
if 0 ≤ x1 ∧ x1 < (x0.length : Int) then
(S73 (x0.getD x1.toNat ((0 : Int), ((0 : Int), ([], ()))))).bind fun r295 =>
k0 x0 x1 r295
else none
theorem t67_7 (S73) (h73 : (ctr73 S73).holds cl) (x0 x1) : exec cl N c67_7 (e40 x0 x1) K = (g67_7 S73 x0 x1 (fun y0 y1 y2 => K .normal [(0, .v U17 y0), (3, .v U2 y1), (4, .v U2 y2)])) := by
  rw [← put_eq h73]
  kernel_rfl
def g67_8 (x0 : V7) (x1 x2 : Int) (k0 : V7 → Int → Int → Bool → Option R) : Option R :=
k0 x0 x1 x2 (x2 != (0 : Int))
theorem t67_8 (x0 x1 x2) : exec cl N c67_8 [(0, .v U17 x0), (3, .v U2 x1), (4, .v U2 x2)] K = (g67_8 x0 x1 x2 (fun y0 y1 y2 y3 => K .normal (e89 y0 y1 y2 y3))) := by
  kernel_rfl
def g67_9 (x0 : V7) (x1 x2 : Int) (x3 : Bool) (k0 : Int → Option R) : Option R :=
k0 x2
theorem t67_9 (x0 x1 x2 x3) : exec cl N c67_9 (e89 x0 x1 x2 x3) K = (g67_9 x0 x1 x2 x3 (fun y0 => K .normal [(2, .v U2 y0)])) := by
  kernel_rfl
theorem kp67_4 (x0) : keep [0, 2, 3] [(2, .v U2 x0)] = (e90 x0) := by kernel_rfl
theorem kp67_5 (x0 x1 x2 x3) : keep [0, 2, 3] (e89 x0 x1 x2 x3) = (e91 x0 x1) := by kernel_rfl
theorem hb67_2 (x0 x1 x2 x3) : boolOf? (ent (e89 x0 x1 x2 x3) (.t 20)) = some x3 := by kernel_rfl
theorem kp67_6 (x0) : keep [0, 2, 3] (e90 x0) = (e90 x0) := by kernel_rfl
theorem kp67_7 (x0 x1) : keep [0, 2, 3] (e91 x0 x1) = (e91 x0 x1) := by kernel_rfl
def g67_12 (x0 : V7) (x1 : Int) (k0 : V7 → Int → Option R) : Option R :=
k0 x0 (IntKind.i64.wrap (x1 + (1 : Int)))
theorem t67_12 (x0 x1) : exec cl N c67_12 (e91 x0 x1) K = (g67_12 x0 x1 (fun y0 y1 => K .normal (e40 y0 y1))) := by
  kernel_rfl
def g67_13 (S73 : V6 → Option (Int)) (x0 : V7) (x1 : Int) (k0 : Int → Option R) (k1 : V7 → Int → Option R) (k2 : V7 → Int → Option R) : Option R :=
(g67_5 x0 x1 (fun y0 y1 y2 => brB y2 ((fun y0 y1 => (g67_7 S73 y0 y1 (fun y0 y1 y2 => (g67_8 y0 y1 y2 (fun y0 y1 y2 y3 => brB y3 (g67_9 y0 y1 y2 y3 (fun y0 => ((fun y0 => (k0 y0)) y0))) (g67_12 y0 y1 k1)))))) y0 y1) (k2 y0 y1)))
theorem t67_13 (S73) (h73 : (ctr73 S73).holds cl) (x0 x1) : exec cl N c67_13 (e40 x0 x1) K = (g67_13 S73 x0 x1 (fun y0 => K .ret (e90 y0)) (fun y0 y1 => K .normal (e40 y0 y1)) (fun y0 y1 => K (.exit 0) (e40 y0 y1))) := by
  simp only [c67_13, exec_seq, seqK_normal, seqK_exit, seqK_ret, t67_5, c67_6, exec_out, exec_cond', hb67_1, Option.bind_some, brB_true, brB_false, exec_skip, exec_exit, kp67_3, c67_11, exec_block, t67_7 S73 h73, t67_8, c67_10, hb67_2, t67_9, exec_ret, kp67_4, kp67_5, blockK_normal, blockK_ret, blockK_eq, kp67_6, kp67_7, t67_12]
  rfl
def l67_14 {R : Type} (S73 : V6 → Option (Int)) (k0 : Int → Option R) (k1 : V7 → Int → Option R) : Nat → V7 → Int → Option R
  | 0, _, _ => none
  | m + 1, x0, x1 => (g67_13 S73 x0 x1 k0 (fun y0 y1 => l67_14 S73 k0 k1 m y0 y1) k1)
theorem lt67_14 (S73) (h73 : (ctr73 S73).holds cl) : ∀ (m) (x0 x1), iter [0, 3] (fun env K => exec cl N c67_13 env K) K m (e40 x0 x1) = l67_14 S73 (fun y0 => K .ret (e90 y0)) (fun y0 y1 => K (.exit 0) (e40 y0 y1)) m x0 x1 := by
  intro m
  induction m with
  | zero => intros; rfl
  | succ m ih =>
    intro x0 x1
    simp only [iter_succ, t67_13 S73 h73, loopK_normal, loopK_exit, loopK_ret, kp67_2, ih]
    rfl
theorem kp67_8 (x0) : keep [2] (e90 x0) = [(2, .v U2 x0)] := by kernel_rfl
theorem kp67_9 (x0 x1) : keep [2] (e40 x0 x1) = [(2, .dead)] := by kernel_rfl
def g67_14 (N : Nat) (S73 : V6 → Option (Int)) (x0 : V7) (x1 : Int) (k0 : Int → Option R) (k1 : Option R) : Option R :=
l67_14 S73 (fun y0 => k0 y0) (fun y0 y1 => k1) N x0 x1
theorem t67_14 (S73) (h73 : (ctr73 S73).holds cl) (x0 x1) : exec cl N c67_14 (e40 x0 x1) K = (g67_14 N S73 x0 x1 (fun y0 => K .ret [(2, .v U2 y0)]) (K (.exit 0) [(2, .dead)])) := by
  simp only [c67_14, exec_out, exec_loop, kp67_2, lt67_14 S73 h73, kp67_8, kp67_9]
  rfl
theorem kp67_10 (x0) : keep [2] [(2, .v U2 x0)] = [(2, .v U2 x0)] := by kernel_rfl
theorem kp67_11 : keep [2] [(2, .dead)] = [(2, .dead)] := by kernel_rfl
def g67_16 (k0 : Int → Option R) : Option R :=
k0 (0 : Int)
theorem t67_16 : exec cl N c67_16 [(2, .dead)] K = (g67_16 (fun y0 => K .normal [(2, .v U2 y0)])) := by
  kernel_rfl
def g67_17 (N : Nat) (S73 : V6 → Option (Int)) (x0 : V7) (k0 : Int → Option R) (k1 : Int → Option R) : Option R :=
(g67_0 x0 (fun y0 => (g67_1 y0 (fun y0 y1 => brB y1 (g67_2 y0 y1 (fun y0 => ((fun y0 => (k0 y0)) y0))) ((fun y0 => (g67_4 y0 (fun y0 y1 => (g67_14 N S73 y0 y1 (fun y0 => (k1 y0)) (g67_16 (fun y0 => (k1 y0))))))) y0)))))
theorem t67_17 (S73) (h73 : (ctr73 S73).holds cl) (x0) : exec cl N c67_17 [(0, .v U17 x0)] K = (g67_17 N S73 x0 (fun y0 => K .ret (e28 y0)) (fun y0 => K .ret [(2, .v U2 y0)])) := by
  simp only [c67_17, exec_seq, seqK_normal, seqK_exit, seqK_ret, t67_0, t67_1, c67_3, exec_out, exec_cond', hb67_0, Option.bind_some, brB_true, brB_false, t67_2, exec_ret, exec_skip, kp67_0, kp67_1, t67_4, c67_15, exec_block, t67_14 S73 h73, blockK_normal, blockK_ret, blockK_eq, kp67_10, kp67_11, t67_16]
  rfl
theorem rk67_0 (y0) : retK d67 .ret (e28 y0) = some [.v U2 y0] := by kernel_rfl
theorem rk67_1 (y0) : retK d67 .ret [(2, .v U2 y0)] = some [.v U2 y0] := by kernel_rfl
def g67 (N : Nat) (S73 : V6 → Option (Int)) (x0 : V7) (k : Int → Option R) : Option R :=
(g67_17 N S73 x0 (fun y0 => k y0) (fun y0 => k y0))
theorem gen67 {N : Nat} {cl : Cal} (S73 : V6 → Option (Int)) (h73 : (ctr73 S73).holds cl) (x0 : V7) {R : Type} (k : List E → Option R) : exec cl N c67 (params 0 [.v U17 x0]) (fun e env => (retK d67 e env).bind k) = g67 N S73 x0 (fun (r0 : Int) => k [.v U2 r0]) := by
  have e0 : params 0 [.v U17 x0] = [(0, .v U17 x0)] := by kernel_rfl
  simp only [c67, e0, t67_17 S73 h73, rk67_0, rk67_1, Option.bind_some]
  rfl
def ctr67 (S : V7 → Option (Int)) : Ctr := { A := V7 × Unit, B := Int, f := 67, enc := fun a => [.v U17 a.1], dec := (decC (decV U17) dec0), S := fun a => S a.1, ent := fun b => [.v U2 b], ok := (decV_cons (T := U17) (fun es b h => dec0_some h)) }
def S67 (N : Nat) (x0 : V7) : Option (Int) := g67 N (S73 N) x0 (fun (r0 : Int) => some (r0))
def g39_0 (x0 x1 : V7) (k0 : V7 → V7 → Option R) : Option R :=
k0 x0 x1
theorem t39_0 (x0 x1) : exec cl N c39_0 (e35 x0 x1) K = (g39_0 x0 x1 (fun y0 y1 => K .normal (e35 y0 y1))) := by
  kernel_rfl
def g39_1 (S67 : V7 → Option (Int)) (x0 x1 : V7) (k0 : V7 → Int → Option R) : Option R :=
(S67 x0).bind fun r301 =>
k0 x1 r301
theorem t39_1 (S67) (h67 : (ctr67 S67).holds cl) (x0 x1) : exec cl N c39_1 (e35 x0 x1) K = (g39_1 S67 x0 x1 (fun y0 y1 => K .normal (e36 y0 y1))) := by
  rw [← put_eq h67]
  kernel_rfl
def g39_2 (x0 : V7) (x1 : Int) (k0 : V7 → Int → Bool → Option R) : Option R :=
k0 x0 x1 (x1 != (0 : Int))
theorem t39_2 (x0 x1) : exec cl N c39_2 (e36 x0 x1) K = (g39_2 x0 x1 (fun y0 y1 y2 => K .normal (e37 y0 y1 y2))) := by
  kernel_rfl
def g39_3 (x0 : V7) (x1 : Int) (x2 : Bool) (k0 : Int → Option R) : Option R :=
k0 x1
theorem t39_3 (x0 x1 x2) : exec cl N c39_3 (e37 x0 x1 x2) K = (g39_3 x0 x1 x2 (fun y0 => K .normal [(4, .v U2 y0)])) := by
  kernel_rfl
theorem kp39_0 (x0) : keep [1, 4] [(4, .v U2 x0)] = (e38 x0) := by kernel_rfl
theorem kp39_1 (x0 x1 x2) : keep [1, 4] (e37 x0 x1 x2) = (e39 x0) := by kernel_rfl
theorem hb39_0 (x0 x1 x2) : boolOf? (ent (e37 x0 x1 x2) (.t 9)) = some x2 := by kernel_rfl
def g39_5 (S67 : V7 → Option (Int)) (x0 : V7) (k0 : Int → Option R) : Option R :=
(S67 x0).bind fun r303 =>
k0 r303
theorem t39_5 (S67) (h67 : (ctr67 S67).holds cl) (x0) : exec cl N c39_5 (e39 x0) K = (g39_5 S67 x0 (fun y0 => K .normal [(4, .v U2 y0)])) := by
  rw [← put_eq h67]
  kernel_rfl
def g39_6 (S67 : V7 → Option (Int)) (x0 x1 : V7) (k0 : Int → Option R) (k1 : Int → Option R) : Option R :=
(g39_0 x0 x1 (fun y0 y1 => (g39_1 S67 y0 y1 (fun y0 y1 => (g39_2 y0 y1 (fun y0 y1 y2 => brB y2 (g39_3 y0 y1 y2 (fun y0 => ((fun y0 => (k0 y0)) y0))) ((fun y0 => (g39_5 S67 y0 (fun y0 => (k1 y0)))) y0)))))))
theorem t39_6 (S67) (h67 : (ctr67 S67).holds cl) (x0 x1) : exec cl N c39_6 (e35 x0 x1) K = (g39_6 S67 x0 x1 (fun y0 => K .ret (e38 y0)) (fun y0 => K .ret [(4, .v U2 y0)])) := by
  simp only [c39_6, exec_seq, seqK_normal, seqK_exit, seqK_ret, t39_0, t39_1 S67 h67, t39_2, c39_4, exec_out, exec_cond', hb39_0, Option.bind_some, brB_true, brB_false, t39_3, exec_ret, exec_skip, kp39_0, kp39_1, t39_5 S67 h67]
  rfl
theorem rk39_0 (y0) : retK d39 .ret (e38 y0) = some [.v U2 y0] := by kernel_rfl
theorem rk39_1 (y0) : retK d39 .ret [(4, .v U2 y0)] = some [.v U2 y0] := by kernel_rfl
def g39 (S67 : V7 → Option (Int)) (x0 x1 : V7) (k : Int → Option R) : Option R :=
(g39_6 S67 x0 x1 (fun y0 => k y0) (fun y0 => k y0))
theorem gen39 {N : Nat} {cl : Cal} (S67 : V7 → Option (Int)) (h67 : (ctr67 S67).holds cl) (x0 : V7) (x1 : V7) {R : Type} (k : List E → Option R) : exec cl N c39 (params 0 [.v U17 x0, .v U17 x1]) (fun e env => (retK d39 e env).bind k) = g39 S67 x0 x1 (fun (r0 : Int) => k [.v U2 r0]) := by
  have e0 : params 0 [.v U17 x0, .v U17 x1] = (e35 x0 x1) := by kernel_rfl
  simp only [c39, e0, t39_6 S67 h67, rk39_0, rk39_1, Option.bind_some]
  rfl
def ctr39 (S : V7 → V7 → Option (Int)) : Ctr := { A := V7 × V7 × Unit, B := Int, f := 39, enc := fun a => [.v U17 a.1, .v U17 a.2.1], dec := (decC (decV U17) (decC (decV U17) dec0)), S := fun a => S a.1 a.2.1, ent := fun b => [.v U2 b], ok := (decV_cons (T := U17) (decV_cons (T := U17) (fun es b h => dec0_some h))) }
def S39 (N : Nat) (x0 : V7) (x1 : V7) : Option (Int) := g39 (S67 N) x0 x1 (fun (r0 : Int) => some (r0))
def g71_0 (x0 : V6) (k0 : V6 → Option R) : Option R :=
k0 x0
theorem t71_0 (x0) : exec cl N c71_0 [(0, .v U14 x0)] K = (g71_0 x0 (fun y0 => K .normal [(1, .loc U14 .no y0)])) := by
  kernel_rfl
def g71_1 (x0 : V6) (k0 : Bool → Option R) : Option R :=
brB (x0.1 == (1 : Int)) (k0 true) (k0 (x0.1 == (2 : Int)))
theorem t71_1 (x0) : exec cl N c71_1 [(1, .loc U14 .no x0)] K = (g71_1 x0 (fun y0 => K .normal [(2, .v .bool y0)])) := by
  kernel_rfl
def g71_2 (x0 : V6) (k0 : Bool → Option R) : Option R :=
(g71_0 x0 (fun y0 => (g71_1 y0 (fun y0 => (k0 y0)))))
theorem t71_2 (x0) : exec cl N c71_2 [(0, .v U14 x0)] K = (g71_2 x0 (fun y0 => K .ret [(2, .v .bool y0)])) := by
  simp only [c71_2, exec_seq, seqK_normal, seqK_exit, seqK_ret, t71_0, t71_1, exec_ret]
  rfl
theorem rk71_0 (y0) : retK d71 .ret [(2, .v .bool y0)] = some [.v .bool y0] := by kernel_rfl
def g71 (x0 : V6) (k : Bool → Option R) : Option R :=
(g71_2 x0 (fun y0 => k y0))
theorem gen71 {N : Nat} {cl : Cal} (x0 : V6) {R : Type} (k : List E → Option R) : exec cl N c71 (params 0 [.v U14 x0]) (fun e env => (retK d71 e env).bind k) = g71 x0 (fun (r0 : Bool) => k [.v .bool r0]) := by
  have e0 : params 0 [.v U14 x0] = [(0, .v U14 x0)] := by kernel_rfl
  simp only [c71, e0, t71_2, rk71_0, Option.bind_some]
  rfl
def ctr71 (S : V6 → Option (Bool)) : Ctr := { A := V6 × Unit, B := Bool, f := 71, enc := fun a => [.v U14 a.1], dec := (decC (decV U14) dec0), S := fun a => S a.1, ent := fun b => [.v .bool b], ok := (decV_cons (T := U14) (fun es b h => dec0_some h)) }
def S71 (N : Nat) (x0 : V6) : Option (Bool) := g71 x0 (fun (r0 : Bool) => some (r0))
def g43_0 (x0 : V7) (k0 : V7 → Option R) : Option R :=
k0 x0
theorem t43_0 (x0) : exec cl N c43_0 [(0, .v U17 x0)] K = (g43_0 x0 (fun y0 => K .normal [(0, .v U17 y0)])) := by
  kernel_rfl
def g43_1 (x0 : V7) (k0 : V7 → Int → Option R) : Option R :=
k0 x0 (x0.length : Int)
theorem t43_1 (x0) : exec cl N c43_1 [(0, .v U17 x0)] K = (g43_1 x0 (fun y0 y1 => K .normal (e40 y0 y1))) := by
  kernel_rfl
def g43_2 (S71 : V6 → Option (Bool)) (x0 : V7) (x1 : Int) (k0 : V7 → Int → Bool → Option R) : Option R :=
brB (decide (x1 > (0 : Int))) (let v323 : Int := (IntKind.i64.wrap (x1 - (1 : Int)))
if 0 ≤ v323 ∧ v323 < (x0.length : Int) then
(S71 (x0.getD v323.toNat ((0 : Int), ((0 : Int), ([], ()))))).bind fun r324 =>
k0 x0 x1 r324
else none) (k0 x0 x1 false)
theorem t43_2 (S71) (h71 : (ctr71 S71).holds cl) (x0 x1) : exec cl N c43_2 (e40 x0 x1) K = (g43_2 S71 x0 x1 (fun y0 y1 y2 => K .normal (e92 y0 y1 y2))) := by
  rw [← put_eq h71]
  kernel_rfl
def g43_3 (x0 : V7) (x1 : Int) (x2 : Bool) (k0 : Int → Option R) : Option R :=
k0 (1 : Int)
theorem t43_3 (x0 x1 x2) : exec cl N c43_3 (e92 x0 x1 x2) K = (g43_3 x0 x1 x2 (fun y0 => K .normal [(2, .v U2 y0)])) := by
  kernel_rfl
theorem kp43_0 (x0) : keep [0, 2, 3] [(2, .v U2 x0)] = (e90 x0) := by kernel_rfl
theorem kp43_1 (x0 x1 x2) : keep [0, 2, 3] (e92 x0 x1 x2) = (e91 x0 x1) := by kernel_rfl
theorem hb43_0 (x0 x1 x2) : boolOf? (ent (e92 x0 x1 x2) (.t 15)) = some x2 := by kernel_rfl
def g43_5 (S71 : V6 → Option (Bool)) (x0 : V7) (x1 : Int) (k0 : Bool → Option R) : Option R :=
brB (decide (x1 > (1 : Int))) (let v326 : Int := (IntKind.i64.wrap (x1 - (2 : Int)))
if 0 ≤ v326 ∧ v326 < (x0.length : Int) then
(S71 (x0.getD v326.toNat ((0 : Int), ((0 : Int), ([], ()))))).bind fun r327 =>
brB r327 (let v328 : Int := (IntKind.i64.wrap (x1 - (1 : Int)))
if 0 ≤ v328 ∧ v328 < (x0.length : Int) then
brB ((x0.getD v328.toNat ((0 : Int), ((0 : Int), ([], ())))).1 == (5 : Int)) (let v330 : Int := (IntKind.i64.wrap (x1 - (1 : Int)))
if 0 ≤ v330 ∧ v330 < (x0.length : Int) then
k0 ((x0.getD v330.toNat ((0 : Int), ((0 : Int), ([], ())))).2.2.1 == ([109] : List UInt8))
else none) (k0 false)
else none) (k0 false)
else none) (k0 false)
theorem t43_5 (S71) (h71 : (ctr71 S71).holds cl) (x0 x1) : exec cl N c43_5 (e91 x0 x1) K = (g43_5 S71 x0 x1 (fun y0 => K .normal [(43, .v .bool y0)])) := by
  rw [← put_eq h71]
  kernel_rfl
def g43_6 (x0 : Bool) (k0 : Int → Option R) : Option R :=
k0 (2 : Int)
theorem t43_6 (x0) : exec cl N c43_6 [(43, .v .bool x0)] K = (g43_6 x0 (fun y0 => K .normal [(2, .v U2 y0)])) := by
  kernel_rfl
theorem kp43_2 (x0) : keep [2] [(2, .v U2 x0)] = [(2, .v U2 x0)] := by kernel_rfl
theorem kp43_3 (x0) : keep [2] [(43, .v .bool x0)] = [(2, .dead)] := by kernel_rfl
theorem hb43_1 (x0) : boolOf? (ent [(43, .v .bool x0)] (.t 43)) = some x0 := by kernel_rfl
def g43_8 (k0 : Int → Option R) : Option R :=
k0 (0 : Int)
theorem t43_8 : exec cl N c43_8 [(2, .dead)] K = (g43_8 (fun y0 => K .normal [(2, .v U2 y0)])) := by
  kernel_rfl
def g43_9 (S71 : V6 → Option (Bool)) (x0 : V7) (k0 : Int → Option R) (k1 : Int → Option R) : Option R :=
(g43_0 x0 (fun y0 => (g43_1 y0 (fun y0 y1 => (g43_2 S71 y0 y1 (fun y0 y1 y2 => brB y2 (g43_3 y0 y1 y2 (fun y0 => ((fun y0 => (k0 y0)) y0))) ((fun y0 y1 => (g43_5 S71 y0 y1 (fun y0 => brB y0 (g43_6 y0 (fun y0 => ((fun y0 => (k1 y0)) y0))) (g43_8 (fun y0 => (k1 y0)))))) y0 y1)))))))
theorem t43_9 (S71) (h71 : (ctr71 S71).holds cl) (x0) : exec cl N c43_9 [(0, .v U17 x0)] K = (g43_9 S71 x0 (fun y0 => K .ret (e90 y0)) (fun y0 => K .ret [(2, .v U2 y0)])) := by
  simp only [c43_9, exec_seq, seqK_normal, seqK_exit, seqK_ret, t43_0, t43_1, t43_2 S71 h71, c43_4, exec_out, exec_cond', hb43_0, Option.bind_some, brB_true, brB_false, t43_3, exec_ret, exec_skip, kp43_0, kp43_1, t43_5 S71 h71, c43_7, hb43_1, t43_6, kp43_2, kp43_3, t43_8]
  rfl
theorem rk43_0 (y0) : retK d43 .ret (e90 y0) = some [.v U2 y0] := by kernel_rfl
theorem rk43_1 (y0) : retK d43 .ret [(2, .v U2 y0)] = some [.v U2 y0] := by kernel_rfl
def g43 (S71 : V6 → Option (Bool)) (x0 : V7) (k : Int → Option R) : Option R :=
(g43_9 S71 x0 (fun y0 => k y0) (fun y0 => k y0))
theorem gen43 {N : Nat} {cl : Cal} (S71 : V6 → Option (Bool)) (h71 : (ctr71 S71).holds cl) (x0 : V7) {R : Type} (k : List E → Option R) : exec cl N c43 (params 0 [.v U17 x0]) (fun e env => (retK d43 e env).bind k) = g43 S71 x0 (fun (r0 : Int) => k [.v U2 r0]) := by
  have e0 : params 0 [.v U17 x0] = [(0, .v U17 x0)] := by kernel_rfl
  simp only [c43, e0, t43_9 S71 h71, rk43_0, rk43_1, Option.bind_some]
  rfl
def ctr43 (S : V7 → Option (Int)) : Ctr := { A := V7 × Unit, B := Int, f := 43, enc := fun a => [.v U17 a.1], dec := (decC (decV U17) dec0), S := fun a => S a.1, ent := fun b => [.v U2 b], ok := (decV_cons (T := U17) (fun es b h => dec0_some h)) }
def S43 (N : Nat) (x0 : V7) : Option (Int) := g43 (S71 N) x0 (fun (r0 : Int) => some (r0))
def g56_0 (x0 : V7) (k0 : V7 → Option R) : Option R :=
k0 x0
theorem t56_0 (x0) : exec cl N c56_0 [(0, .v U17 x0)] K = (g56_0 x0 (fun y0 => K .normal [(0, .v U17 y0)])) := by
  kernel_rfl
def g56_1 (x0 : V7) (k0 : V7 → Int → Option R) : Option R :=
k0 x0 (0 : Int)
theorem t56_1 (x0) : exec cl N c56_1 [(0, .v U17 x0)] K = (g56_1 x0 (fun y0 y1 => K .normal (e40 y0 y1))) := by
  kernel_rfl
theorem kp56_0 (x0 x1) : keep [0, 3] (e40 x0 x1) = (e40 x0 x1) := by kernel_rfl
def g56_2 (x0 : V7) (x1 : Int) (k0 : V7 → Int → Bool → Option R) : Option R :=
k0 x0 x1 (decide (x1 < (x0.length : Int)))
theorem t56_2 (x0 x1) : exec cl N c56_2 (e40 x0 x1) K = (g56_2 x0 x1 (fun y0 y1 y2 => K .normal (e48 y0 y1 y2))) := by
  kernel_rfl
theorem kp56_1 (x0 x1 x2) : keep [0, 3] (e48 x0 x1 x2) = (e40 x0 x1) := by kernel_rfl
theorem hb56_0 (x0 x1 x2) : boolOf? (ent (e48 x0 x1 x2) (.t 7)) = some x2 := by kernel_rfl
def g56_4 (S71 : V6 → Option (Bool)) (x0 : V7) (x1 : Int) (k0 : V7 → Int → Bool → Option R) : Option R :=
if 0 ≤ x1 ∧ x1 < (x0.length : Int) then
(S71 (x0.getD x1.toNat ((0 : Int), ((0 : Int), ([], ()))))).bind fun r338 =>
k0 x0 x1 r338
else none
theorem t56_4 (S71) (h71 : (ctr71 S71).holds cl) (x0 x1) : exec cl N c56_4 (e40 x0 x1) K = (g56_4 S71 x0 x1 (fun y0 y1 y2 => K .normal (e93 y0 y1 y2))) := by
  rw [← put_eq h71]
  kernel_rfl
def g56_5 (x0 : V7) (x1 : Int) (x2 : Bool) (k0 : Int → Option R) : Option R :=
k0 x1
theorem t56_5 (x0 x1 x2) : exec cl N c56_5 (e93 x0 x1 x2) K = (g56_5 x0 x1 x2 (fun y0 => K .normal [(2, .v U2 y0)])) := by
  kernel_rfl
theorem kp56_2 (x0) : keep [0, 2, 3] [(2, .v U2 x0)] = (e90 x0) := by kernel_rfl
theorem kp56_3 (x0 x1 x2) : keep [0, 2, 3] (e93 x0 x1 x2) = (e91 x0 x1) := by kernel_rfl
theorem hb56_1 (x0 x1 x2) : boolOf? (ent (e93 x0 x1 x2) (.t 14)) = some x2 := by kernel_rfl
def g56_7 (x0 : V7) (x1 : Int) (k0 : V7 → Int → Bool → Option R) : Option R :=
if 0 ≤ x1 ∧ x1 < (x0.length : Int) then
k0 x0 x1 ((x0.getD x1.toNat ((0 : Int), ((0 : Int), ([], ())))).1 != (9 : Int))
else none
theorem t56_7 (x0 x1) : exec cl N c56_7 (e91 x0 x1) K = (g56_7 x0 x1 (fun y0 y1 y2 => K .normal (e94 y0 y1 y2))) := by
  kernel_rfl
def g56_8 (x0 : V7) (x1 : Int) (x2 : Bool) (k0 : Int → Option R) : Option R :=
k0 (-1 : Int)
theorem t56_8 (x0 x1 x2) : exec cl N c56_8 (e94 x0 x1 x2) K = (g56_8 x0 x1 x2 (fun y0 => K .normal [(2, .v U2 y0)])) := by
  kernel_rfl
theorem kp56_4 (x0 x1 x2) : keep [0, 2, 3] (e94 x0 x1 x2) = (e91 x0 x1) := by kernel_rfl
theorem hb56_2 (x0 x1 x2) : boolOf? (ent (e94 x0 x1 x2) (.t 21)) = some x2 := by kernel_rfl
theorem kp56_5 (x0) : keep [0, 2, 3] (e90 x0) = (e90 x0) := by kernel_rfl
theorem kp56_6 (x0 x1) : keep [0, 2, 3] (e91 x0 x1) = (e91 x0 x1) := by kernel_rfl
def g56_11 (x0 : V7) (x1 : Int) (k0 : V7 → Int → Option R) : Option R :=
k0 x0 (IntKind.i64.wrap (x1 + (1 : Int)))
theorem t56_11 (x0 x1) : exec cl N c56_11 (e91 x0 x1) K = (g56_11 x0 x1 (fun y0 y1 => K .normal (e40 y0 y1))) := by
  kernel_rfl
def g56_12 (S71 : V6 → Option (Bool)) (x0 : V7) (x1 : Int) (k0 : Int → Option R) (k1 : V7 → Int → Option R) (k2 : V7 → Int → Option R) : Option R :=
(g56_2 x0 x1 (fun y0 y1 y2 => brB y2 ((fun y0 y1 => (g56_4 S71 y0 y1 (fun y0 y1 y2 => brB y2 (g56_5 y0 y1 y2 (fun y0 => ((fun y0 => (k0 y0)) y0))) ((fun y0 y1 => (g56_7 y0 y1 (fun y0 y1 y2 => brB y2 (g56_8 y0 y1 y2 (fun y0 => ((fun y0 => (k0 y0)) y0))) (g56_11 y0 y1 k1)))) y0 y1)))) y0 y1) (k2 y0 y1)))
theorem t56_12 (S71) (h71 : (ctr71 S71).holds cl) (x0 x1) : exec cl N c56_12 (e40 x0 x1) K = (g56_12 S71 x0 x1 (fun y0 => K .ret (e90 y0)) (fun y0 y1 => K .normal (e40 y0 y1)) (fun y0 y1 => K (.exit 0) (e40 y0 y1))) := by
  simp only [c56_12, exec_seq, seqK_normal, seqK_exit, seqK_ret, t56_2, c56_3, exec_out, exec_cond', hb56_0, Option.bind_some, brB_true, brB_false, exec_skip, exec_exit, kp56_1, c56_10, exec_block, t56_4 S71 h71, c56_6, hb56_1, t56_5, exec_ret, kp56_2, kp56_3, t56_7, c56_9, hb56_2, t56_8, kp56_4, blockK_normal, blockK_ret, blockK_eq, kp56_5, kp56_6, t56_11]
  rfl
def l56_13 {R : Type} (S71 : V6 → Option (Bool)) (k0 : Int → Option R) (k1 : V7 → Int → Option R) : Nat → V7 → Int → Option R
  | 0, _, _ => none
  | m + 1, x0, x1 => (g56_12 S71 x0 x1 k0 (fun y0 y1 => l56_13 S71 k0 k1 m y0 y1) k1)
theorem lt56_13 (S71) (h71 : (ctr71 S71).holds cl) : ∀ (m) (x0 x1), iter [0, 3] (fun env K => exec cl N c56_12 env K) K m (e40 x0 x1) = l56_13 S71 (fun y0 => K .ret (e90 y0)) (fun y0 y1 => K (.exit 0) (e40 y0 y1)) m x0 x1 := by
  intro m
  induction m with
  | zero => intros; rfl
  | succ m ih =>
    intro x0 x1
    simp only [iter_succ, t56_12 S71 h71, loopK_normal, loopK_exit, loopK_ret, kp56_0, ih]
    rfl
theorem kp56_7 (x0) : keep [2] (e90 x0) = [(2, .v U2 x0)] := by kernel_rfl
theorem kp56_8 (x0 x1) : keep [2] (e40 x0 x1) = [(2, .dead)] := by kernel_rfl
def g56_13 (N : Nat) (S71 : V6 → Option (Bool)) (x0 : V7) (x1 : Int) (k0 : Int → Option R) (k1 : Option R) : Option R :=
l56_13 S71 (fun y0 => k0 y0) (fun y0 y1 => k1) N x0 x1
theorem t56_13 (S71) (h71 : (ctr71 S71).holds cl) (x0 x1) : exec cl N c56_13 (e40 x0 x1) K = (g56_13 N S71 x0 x1 (fun y0 => K .ret [(2, .v U2 y0)]) (K (.exit 0) [(2, .dead)])) := by
  simp only [c56_13, exec_out, exec_loop, kp56_0, lt56_13 S71 h71, kp56_7, kp56_8]
  rfl
theorem kp56_9 (x0) : keep [2] [(2, .v U2 x0)] = [(2, .v U2 x0)] := by kernel_rfl
theorem kp56_10 : keep [2] [(2, .dead)] = [(2, .dead)] := by kernel_rfl
def g56_15 (k0 : Int → Option R) : Option R :=
k0 (-1 : Int)
theorem t56_15 : exec cl N c56_15 [(2, .dead)] K = (g56_15 (fun y0 => K .normal [(2, .v U2 y0)])) := by
  kernel_rfl
def g56_16 (N : Nat) (S71 : V6 → Option (Bool)) (x0 : V7) (k0 : Int → Option R) : Option R :=
(g56_0 x0 (fun y0 => (g56_1 y0 (fun y0 y1 => (g56_13 N S71 y0 y1 (fun y0 => (k0 y0)) (g56_15 (fun y0 => (k0 y0))))))))
theorem t56_16 (S71) (h71 : (ctr71 S71).holds cl) (x0) : exec cl N c56_16 [(0, .v U17 x0)] K = (g56_16 N S71 x0 (fun y0 => K .ret [(2, .v U2 y0)])) := by
  simp only [c56_16, exec_seq, seqK_normal, seqK_exit, seqK_ret, t56_0, t56_1, c56_14, exec_out, exec_block, t56_13 S71 h71, blockK_normal, blockK_ret, blockK_eq, kp56_10, kp56_9, t56_15, exec_ret]
  rfl
theorem rk56_0 (y0) : retK d56 .ret [(2, .v U2 y0)] = some [.v U2 y0] := by kernel_rfl
def g56 (N : Nat) (S71 : V6 → Option (Bool)) (x0 : V7) (k : Int → Option R) : Option R :=
(g56_16 N S71 x0 (fun y0 => k y0))
theorem gen56 {N : Nat} {cl : Cal} (S71 : V6 → Option (Bool)) (h71 : (ctr71 S71).holds cl) (x0 : V7) {R : Type} (k : List E → Option R) : exec cl N c56 (params 0 [.v U17 x0]) (fun e env => (retK d56 e env).bind k) = g56 N S71 x0 (fun (r0 : Int) => k [.v U2 r0]) := by
  have e0 : params 0 [.v U17 x0] = [(0, .v U17 x0)] := by kernel_rfl
  simp only [c56, e0, t56_16 S71 h71, rk56_0, Option.bind_some]
  rfl
def ctr56 (S : V7 → Option (Int)) : Ctr := { A := V7 × Unit, B := Int, f := 56, enc := fun a => [.v U17 a.1], dec := (decC (decV U17) dec0), S := fun a => S a.1, ent := fun b => [.v U2 b], ok := (decV_cons (T := U17) (fun es b h => dec0_some h)) }
def S56 (N : Nat) (x0 : V7) : Option (Int) := g56 N (S71 N) x0 (fun (r0 : Int) => some (r0))
def g68_0 (x0 : V7) (k0 : V7 → Option R) : Option R :=
k0 x0
theorem t68_0 (x0) : exec cl N c68_0 [(0, .v U17 x0)] K = (g68_0 x0 (fun y0 => K .normal [(0, .v U17 y0)])) := by
  kernel_rfl
def g68_1 (S56 : V7 → Option (Int)) (x0 : V7) (k0 : Bool → Option R) : Option R :=
(S56 x0).bind fun r343 =>
k0 (decide (r343 ≥ (0 : Int)))
theorem t68_1 (S56) (h56 : (ctr56 S56).holds cl) (x0) : exec cl N c68_1 [(0, .v U17 x0)] K = (g68_1 S56 x0 (fun y0 => K .normal [(2, .v .bool y0)])) := by
  rw [← put_eq h56]
  kernel_rfl
def g68_2 (S56 : V7 → Option (Int)) (x0 : V7) (k0 : Bool → Option R) : Option R :=
(g68_0 x0 (fun y0 => (g68_1 S56 y0 (fun y0 => (k0 y0)))))
theorem t68_2 (S56) (h56 : (ctr56 S56).holds cl) (x0) : exec cl N c68_2 [(0, .v U17 x0)] K = (g68_2 S56 x0 (fun y0 => K .ret [(2, .v .bool y0)])) := by
  simp only [c68_2, exec_seq, seqK_normal, seqK_exit, seqK_ret, t68_0, t68_1 S56 h56, exec_ret]
  rfl
theorem rk68_0 (y0) : retK d68 .ret [(2, .v .bool y0)] = some [.v .bool y0] := by kernel_rfl
def g68 (S56 : V7 → Option (Int)) (x0 : V7) (k : Bool → Option R) : Option R :=
(g68_2 S56 x0 (fun y0 => k y0))
theorem gen68 {N : Nat} {cl : Cal} (S56 : V7 → Option (Int)) (h56 : (ctr56 S56).holds cl) (x0 : V7) {R : Type} (k : List E → Option R) : exec cl N c68 (params 0 [.v U17 x0]) (fun e env => (retK d68 e env).bind k) = g68 S56 x0 (fun (r0 : Bool) => k [.v .bool r0]) := by
  have e0 : params 0 [.v U17 x0] = [(0, .v U17 x0)] := by kernel_rfl
  simp only [c68, e0, t68_2 S56 h56, rk68_0, Option.bind_some]
  rfl
def ctr68 (S : V7 → Option (Bool)) : Ctr := { A := V7 × Unit, B := Bool, f := 68, enc := fun a => [.v U17 a.1], dec := (decC (decV U17) dec0), S := fun a => S a.1, ent := fun b => [.v .bool b], ok := (decV_cons (T := U17) (fun es b h => dec0_some h)) }
def S68 (N : Nat) (x0 : V7) : Option (Bool) := g68 (S56 N) x0 (fun (r0 : Bool) => some (r0))
def g40_0 (x0 x1 : V7) (k0 : V7 → V7 → Option R) : Option R :=
k0 x0 x1
theorem t40_0 (x0 x1) : exec cl N c40_0 (e35 x0 x1) K = (g40_0 x0 x1 (fun y0 y1 => K .normal (e35 y0 y1))) := by
  kernel_rfl
def g40_1 (S43 : V7 → Option (Int)) (x0 x1 : V7) (k0 : V7 → V7 → Int → Option R) : Option R :=
(S43 x0).bind fun r350 =>
k0 x0 x1 r350
theorem t40_1 (S43) (h43 : (ctr43 S43).holds cl) (x0 x1) : exec cl N c40_1 (e35 x0 x1) K = (g40_1 S43 x0 x1 (fun y0 y1 y2 => K .normal (e49 y0 y1 y2))) := by
  rw [← put_eq h43]
  kernel_rfl
def g40_2 (S68 : V7 → Option (Bool)) (x0 x1 : V7) (x2 : Int) (k0 : V7 → Int → Bool → Option R) : Option R :=
(S68 x1).bind fun r351 =>
brB (!r351) (k0 x0 x2 true) (k0 x0 x2 (x2 == (0 : Int)))
theorem t40_2 (S68) (h68 : (ctr68 S68).holds cl) (x0 x1 x2) : exec cl N c40_2 (e49 x0 x1 x2) K = (g40_2 S68 x0 x1 x2 (fun y0 y1 y2 => K .normal (e95 y0 y1 y2))) := by
  rw [← put_eq h68]
  kernel_rfl
def g40_3 (x0 : V7) (x1 : Int) (x2 : Bool) (k0 : V0 → Option R) : Option R :=
k0 [(0 : Int)]
theorem t40_3 (x0 x1 x2) : exec cl N c40_3 (e95 x0 x1 x2) K = (g40_3 x0 x1 x2 (fun y0 => K .normal (e51 y0))) := by
  kernel_rfl
theorem kp40_0 (x0) : keep [0, 4, 5] (e51 x0) = (e96 x0) := by kernel_rfl
theorem kp40_1 (x0 x1 x2) : keep [0, 4, 5] (e95 x0 x1 x2) = (e7 x0 x1) := by kernel_rfl
theorem hb40_0 (x0 x1 x2) : boolOf? (ent (e95 x0 x1 x2) (.t 15)) = some x2 := by kernel_rfl
def g40_5 (x0 : V7) (x1 : Int) (k0 : V7 → Bool → Option R) : Option R :=
k0 x0 (x1 == (2 : Int))
theorem t40_5 (x0 x1) : exec cl N c40_5 (e7 x0 x1) K = (g40_5 x0 x1 (fun y0 y1 => K .normal (e97 y0 y1))) := by
  kernel_rfl
def g40_6 (x0 : V7) (x1 : Bool) (k0 : V0 → Option R) : Option R :=
k0 [(1 : Int), (3 : Int)]
theorem t40_6 (x0 x1) : exec cl N c40_6 (e97 x0 x1) K = (g40_6 x0 x1 (fun y0 => K .normal (e51 y0))) := by
  kernel_rfl
theorem kp40_2 (x0) : keep [0, 4] (e51 x0) = (e98 x0) := by kernel_rfl
theorem kp40_3 (x0 x1) : keep [0, 4] (e97 x0 x1) = (e2 x0) := by kernel_rfl
theorem hb40_1 (x0 x1) : boolOf? (ent (e97 x0 x1) (.t 18)) = some x1 := by kernel_rfl
def g40_8 (x0 : V7) (k0 : V7 → V0 → Option R) : Option R :=
k0 x0 [(1 : Int), (2 : Int), (3 : Int)]
theorem t40_8 (x0) : exec cl N c40_8 (e2 x0) K = (g40_8 x0 (fun y0 y1 => K .normal (e99 y0 y1))) := by
  kernel_rfl
def g40_9 (x0 : V7) (x1 : V0) (k0 : V0 → Bool → Option R) : Option R :=
let v354 : Int := (IntKind.i64.wrap ((x0.length : Int) - (1 : Int)))
if 0 ≤ v354 ∧ v354 < (x0.length : Int) then
k0 x1 ((x0.getD v354.toNat ((0 : Int), ((0 : Int), ([], ())))).2.1 != (1 : Int))
else none
theorem t40_9 (x0 x1) : exec cl N c40_9 (e99 x0 x1) K = (g40_9 x0 x1 (fun y0 y1 => K .normal (e100 y0 y1))) := by
  kernel_rfl
def g40_10 (x0 : V0) (x1 : Bool) (k0 : V0 → Option R) : Option R :=
if x0.length + [(4 : Int)].length ≤ 17592186044416 then
k0 (x0 ++ [(4 : Int)])
else none
theorem t40_10 (x0 x1) : exec cl N c40_10 (e100 x0 x1) K = (g40_10 x0 x1 (fun y0 => K .normal (e101 y0))) := by
  kernel_rfl
theorem kp40_4 (x0) : keep [6] (e101 x0) = (e101 x0) := by kernel_rfl
theorem kp40_5 (x0 x1) : keep [6] (e100 x0 x1) = (e101 x0) := by kernel_rfl
theorem hb40_2 (x0 x1) : boolOf? (ent (e100 x0 x1) (.t 28)) = some x1 := by kernel_rfl
def g40_12 (x0 : V7) (x1 : V0) (k0 : V0 → Option R) : Option R :=
(g40_9 x0 x1 (fun y0 y1 => brB y1 (g40_10 y0 y1 (fun y0 => (k0 y0))) (k0 y0)))
theorem t40_12 (x0 x1) : exec cl N c40_12 (e99 x0 x1) K = (g40_12 x0 x1 (fun y0 => K .normal (e101 y0))) := by
  simp only [c40_12, exec_seq, seqK_normal, seqK_exit, seqK_ret, t40_9, c40_11, exec_out, exec_cond', hb40_2, Option.bind_some, brB_true, brB_false, t40_10, exec_skip, kp40_4, kp40_5]
  rfl
def g40_13 (x0 : V0) (k0 : V0 → Option R) : Option R :=
k0 x0
theorem t40_13 (x0) : exec cl N c40_13 (e101 x0) K = (g40_13 x0 (fun y0 => K .normal (e102 y0))) := by
  kernel_rfl
def g40_14 (S43 : V7 → Option (Int)) (S68 : V7 → Option (Bool)) (x0 x1 : V7) (k0 : V0 → Option R) (k1 : V0 → Option R) (k2 : V0 → Option R) : Option R :=
(g40_0 x0 x1 (fun y0 y1 => (g40_1 S43 y0 y1 (fun y0 y1 y2 => (g40_2 S68 y0 y1 y2 (fun y0 y1 y2 => brB y2 (g40_3 y0 y1 y2 (fun y0 => ((fun y0 => (k0 y0)) y0))) ((fun y0 y1 => (g40_5 y0 y1 (fun y0 y1 => brB y1 (g40_6 y0 y1 (fun y0 => ((fun y0 => (k1 y0)) y0))) ((fun y0 => (g40_8 y0 (fun y0 y1 => (g40_12 y0 y1 (fun y0 => (g40_13 y0 (fun y0 => (k2 y0)))))))) y0)))) y0 y1)))))))
theorem t40_14 (S43) (S68) (h43 : (ctr43 S43).holds cl) (h68 : (ctr68 S68).holds cl) (x0 x1) : exec cl N c40_14 (e35 x0 x1) K = (g40_14 S43 S68 x0 x1 (fun y0 => K .ret (e96 y0)) (fun y0 => K .ret (e98 y0)) (fun y0 => K .ret (e102 y0))) := by
  simp only [c40_14, exec_seq, seqK_normal, seqK_exit, seqK_ret, t40_0, t40_1 S43 h43, t40_2 S68 h68, c40_4, exec_out, exec_cond', hb40_0, Option.bind_some, brB_true, brB_false, t40_3, exec_ret, exec_skip, kp40_0, kp40_1, t40_5, c40_7, hb40_1, t40_6, kp40_2, kp40_3, t40_8, t40_12, t40_13]
  rfl
theorem rk40_0 (y0) : retK d40 .ret (e96 y0) = some [.own true 3 U2 .no y0] := by kernel_rfl
theorem rk40_1 (y0) : retK d40 .ret (e98 y0) = some [.own true 3 U2 .no y0] := by kernel_rfl
theorem rk40_2 (y0) : retK d40 .ret (e102 y0) = some [.own true 3 U2 .no y0] := by kernel_rfl
def g40 (S43 : V7 → Option (Int)) (S68 : V7 → Option (Bool)) (x0 x1 : V7) (k : V0 → Option R) : Option R :=
(g40_14 S43 S68 x0 x1 (fun y0 => k y0) (fun y0 => k y0) (fun y0 => k y0))
theorem gen40 {N : Nat} {cl : Cal} (S43 : V7 → Option (Int)) (S68 : V7 → Option (Bool)) (h43 : (ctr43 S43).holds cl) (h68 : (ctr68 S68).holds cl) (x0 : V7) (x1 : V7) {R : Type} (k : List E → Option R) : exec cl N c40 (params 0 [.v U17 x0, .v U17 x1]) (fun e env => (retK d40 e env).bind k) = g40 S43 S68 x0 x1 (fun (r0 : V0) => k [.own true 3 U2 .no r0]) := by
  have e0 : params 0 [.v U17 x0, .v U17 x1] = (e35 x0 x1) := by kernel_rfl
  simp only [c40, e0, t40_14 S43 S68 h43 h68, rk40_0, rk40_1, rk40_2, Option.bind_some]
  rfl
def ctr40 (S : V7 → V7 → Option V2) : Ctr := { A := V7 × V7 × Unit, B := V0, f := 40, enc := fun a => [.v U17 a.1, .v U17 a.2.1], dec := (decC (decV U17) (decC (decV U17) dec0)), S := fun a => S a.1 a.2.1, ent := fun b => [.own true 3 U2 .no b], ok := (decV_cons (T := U17) (decV_cons (T := U17) (fun es b h => dec0_some h))) }
def S40 (N : Nat) (x0 : V7) (x1 : V7) : Option V2 := g40 (S43 N) (S68 N) x0 x1 (fun (r0 : V0) => some (r0))
def g54_0 (x0 : V0) (x1 : Int) (k0 : V0 → Int → Option R) : Option R :=
k0 x0 x1
theorem t54_0 (x0 x1) : exec cl N c54_0 (e53 x0 x1) K = (g54_0 x0 x1 (fun y0 y1 => K .normal (e53 y0 y1))) := by
  kernel_rfl
def g54_1 (x0 : V0) (x1 : Int) (k0 : V0 → Int → Int → Option R) : Option R :=
k0 x0 x1 (0 : Int)
theorem t54_1 (x0 x1) : exec cl N c54_1 (e53 x0 x1) K = (g54_1 x0 x1 (fun y0 y1 y2 => K .normal (e103 y0 y1 y2))) := by
  kernel_rfl
theorem kp54_0 (x0 x1 x2) : keep [0, 1, 5] (e103 x0 x1 x2) = (e103 x0 x1 x2) := by kernel_rfl
def g54_2 (x0 : V0) (x1 x2 : Int) (k0 : V0 → Int → Int → Bool → Option R) : Option R :=
k0 x0 x1 x2 (decide (x2 < (x0.length : Int)))
theorem t54_2 (x0 x1 x2) : exec cl N c54_2 (e103 x0 x1 x2) K = (g54_2 x0 x1 x2 (fun y0 y1 y2 y3 => K .normal (e104 y0 y1 y2 y3))) := by
  kernel_rfl
theorem kp54_1 (x0 x1 x2 x3) : keep [0, 1, 5] (e104 x0 x1 x2 x3) = (e103 x0 x1 x2) := by kernel_rfl
theorem hb54_0 (x0 x1 x2 x3) : boolOf? (ent (e104 x0 x1 x2 x3) (.t 9)) = some x3 := by kernel_rfl
def g54_4 (x0 : V0) (x1 x2 : Int) (k0 : V0 → Int → Int → Bool → Option R) : Option R :=
if 0 ≤ x2 ∧ x2 < (x0.length : Int) then
k0 x0 x1 x2 ((x0.getD x2.toNat (0 : Int)) == x1)
else none
theorem t54_4 (x0 x1 x2) : exec cl N c54_4 (e103 x0 x1 x2) K = (g54_4 x0 x1 x2 (fun y0 y1 y2 y3 => K .normal (e105 y0 y1 y2 y3))) := by
  kernel_rfl
def g54_5 (x0 : V0) (x1 x2 : Int) (x3 : Bool) (k0 : Bool → Option R) : Option R :=
k0 true
theorem t54_5 (x0 x1 x2 x3) : exec cl N c54_5 (e105 x0 x1 x2 x3) K = (g54_5 x0 x1 x2 x3 (fun y0 => K .normal [(4, .v .bool y0)])) := by
  kernel_rfl
theorem kp54_2 (x0) : keep [0, 1, 4, 5] [(4, .v .bool x0)] = (e106 x0) := by kernel_rfl
theorem kp54_3 (x0 x1 x2 x3) : keep [0, 1, 4, 5] (e105 x0 x1 x2 x3) = (e107 x0 x1 x2) := by kernel_rfl
theorem hb54_1 (x0 x1 x2 x3) : boolOf? (ent (e105 x0 x1 x2 x3) (.t 17)) = some x3 := by kernel_rfl
theorem kp54_4 (x0) : keep [0, 1, 4, 5] (e106 x0) = (e106 x0) := by kernel_rfl
theorem kp54_5 (x0 x1 x2) : keep [0, 1, 4, 5] (e107 x0 x1 x2) = (e107 x0 x1 x2) := by kernel_rfl
def g54_8 (x0 : V0) (x1 x2 : Int) (k0 : V0 → Int → Int → Option R) : Option R :=
k0 x0 x1 (IntKind.i64.wrap (x2 + (1 : Int)))
theorem t54_8 (x0 x1 x2) : exec cl N c54_8 (e107 x0 x1 x2) K = (g54_8 x0 x1 x2 (fun y0 y1 y2 => K .normal (e103 y0 y1 y2))) := by
  kernel_rfl
def g54_9 (x0 : V0) (x1 x2 : Int) (k0 : Bool → Option R) (k1 : V0 → Int → Int → Option R) (k2 : V0 → Int → Int → Option R) : Option R :=
(g54_2 x0 x1 x2 (fun y0 y1 y2 y3 => brB y3 ((fun y0 y1 y2 => (g54_4 y0 y1 y2 (fun y0 y1 y2 y3 => brB y3 (g54_5 y0 y1 y2 y3 (fun y0 => ((fun y0 => (k0 y0)) y0))) (g54_8 y0 y1 y2 k1)))) y0 y1 y2) (k2 y0 y1 y2)))
theorem t54_9 (x0 x1 x2) : exec cl N c54_9 (e103 x0 x1 x2) K = (g54_9 x0 x1 x2 (fun y0 => K .ret (e106 y0)) (fun y0 y1 y2 => K .normal (e103 y0 y1 y2)) (fun y0 y1 y2 => K (.exit 0) (e103 y0 y1 y2))) := by
  simp only [c54_9, exec_seq, seqK_normal, seqK_exit, seqK_ret, t54_2, c54_3, exec_out, exec_cond', hb54_0, Option.bind_some, brB_true, brB_false, exec_skip, exec_exit, kp54_1, c54_7, exec_block, t54_4, c54_6, hb54_1, t54_5, exec_ret, kp54_2, kp54_3, blockK_normal, blockK_ret, blockK_eq, kp54_4, kp54_5, t54_8]
  rfl
def l54_10 {R : Type} (k0 : Bool → Option R) (k1 : V0 → Int → Int → Option R) : Nat → V0 → Int → Int → Option R
  | 0, _, _, _ => none
  | m + 1, x0, x1, x2 => (g54_9 x0 x1 x2 k0 (fun y0 y1 y2 => l54_10 k0 k1 m y0 y1 y2) k1)
theorem lt54_10 : ∀ (m) (x0 x1 x2), iter [0, 1, 5] (fun env K => exec cl N c54_9 env K) K m (e103 x0 x1 x2) = l54_10 (fun y0 => K .ret (e106 y0)) (fun y0 y1 y2 => K (.exit 0) (e103 y0 y1 y2)) m x0 x1 x2 := by
  intro m
  induction m with
  | zero => intros; rfl
  | succ m ih =>
    intro x0 x1 x2
    simp only [iter_succ, t54_9, loopK_normal, loopK_exit, loopK_ret, kp54_0, ih]
    rfl
theorem kp54_6 (x0) : keep [4] (e106 x0) = [(4, .v .bool x0)] := by kernel_rfl
theorem kp54_7 (x0 x1 x2) : keep [4] (e103 x0 x1 x2) = [(4, .dead)] := by kernel_rfl
def g54_10 (N : Nat) (x0 : V0) (x1 x2 : Int) (k0 : Bool → Option R) (k1 : Option R) : Option R :=
l54_10 (fun y0 => k0 y0) (fun y0 y1 y2 => k1) N x0 x1 x2
theorem t54_10 (x0 x1 x2) : exec cl N c54_10 (e103 x0 x1 x2) K = (g54_10 N x0 x1 x2 (fun y0 => K .ret [(4, .v .bool y0)]) (K (.exit 0) [(4, .dead)])) := by
  simp only [c54_10, exec_out, exec_loop, kp54_0, lt54_10, kp54_6, kp54_7]
  rfl
theorem kp54_8 (x0) : keep [4] [(4, .v .bool x0)] = [(4, .v .bool x0)] := by kernel_rfl
theorem kp54_9 : keep [4] [(4, .dead)] = [(4, .dead)] := by kernel_rfl
def g54_12 (k0 : Bool → Option R) : Option R :=
k0 false
theorem t54_12 : exec cl N c54_12 [(4, .dead)] K = (g54_12 (fun y0 => K .normal [(4, .v .bool y0)])) := by
  kernel_rfl
def g54_13 (N : Nat) (x0 : V0) (x1 : Int) (k0 : Bool → Option R) : Option R :=
(g54_0 x0 x1 (fun y0 y1 => (g54_1 y0 y1 (fun y0 y1 y2 => (g54_10 N y0 y1 y2 (fun y0 => (k0 y0)) (g54_12 (fun y0 => (k0 y0))))))))
theorem t54_13 (x0 x1) : exec cl N c54_13 (e53 x0 x1) K = (g54_13 N x0 x1 (fun y0 => K .ret [(4, .v .bool y0)])) := by
  simp only [c54_13, exec_seq, seqK_normal, seqK_exit, seqK_ret, t54_0, t54_1, c54_11, exec_out, exec_block, t54_10, blockK_normal, blockK_ret, blockK_eq, kp54_8, kp54_9, t54_12, exec_ret]
  rfl
theorem rk54_0 (y0) : retK d54 .ret [(4, .v .bool y0)] = some [.v .bool y0] := by kernel_rfl
def g54 (N : Nat) (x0 : V0) (x1 : Int) (k : Bool → Option R) : Option R :=
(g54_13 N x0 x1 (fun y0 => k y0))
theorem gen54 {N : Nat} {cl : Cal} (x0 : V0) (x1 : Int) {R : Type} (k : List E → Option R) : exec cl N c54 (params 0 [.v U4 x0, .v U2 x1]) (fun e env => (retK d54 e env).bind k) = g54 N x0 x1 (fun (r0 : Bool) => k [.v .bool r0]) := by
  have e0 : params 0 [.v U4 x0, .v U2 x1] = (e53 x0 x1) := by kernel_rfl
  simp only [c54, e0, t54_13, rk54_0, Option.bind_some]
  rfl
def ctr54 (S : V0 → Int → Option (Bool)) : Ctr := { A := V0 × Int × Unit, B := Bool, f := 54, enc := fun a => [.v U4 a.1, .v U2 a.2.1], dec := (decC (decV U4) (decC (decV U2) dec0)), S := fun a => S a.1 a.2.1, ent := fun b => [.v .bool b], ok := (decV_cons (T := U4) (decV_cons (T := U2) (fun es b h => dec0_some h))) }
def S54 (N : Nat) (x0 : V0) (x1 : Int) : Option (Bool) := g54 N x0 x1 (fun (r0 : Bool) => some (r0))
def g28_0 (x0 x1 : V7) (x2 : Int) (k0 : V7 → V7 → Int → Option R) : Option R :=
k0 x0 x1 x2
theorem t28_0 (x0 x1 x2) : exec cl N c28_0 (e58 x0 x1 x2) K = (g28_0 x0 x1 x2 (fun y0 y1 y2 => K .normal (e58 y0 y1 y2))) := by
  kernel_rfl
def g28_1 (S39 : V7 → V7 → Option (Int)) (x0 x1 : V7) (x2 : Int) (k0 : V7 → V7 → Int → Int → Option R) : Option R :=
(S39 x0 x1).bind fun r364 =>
k0 x0 x1 x2 r364
theorem t28_1 (S39) (h39 : (ctr39 S39).holds cl) (x0 x1 x2) : exec cl N c28_1 (e58 x0 x1 x2) K = (g28_1 S39 x0 x1 x2 (fun y0 y1 y2 y3 => K .normal [(0, .v U17 y0), (1, .v U17 y1), (2, .v U2 y2), (7, .v U2 y3)])) := by
  rw [← put_eq h39]
  kernel_rfl
def g28_2 (x0 x1 : V7) (x2 x3 : Int) (k0 : V7 → V7 → Int → Int → Bool → Option R) : Option R :=
k0 x0 x1 x2 x3 (x3 != (0 : Int))
theorem t28_2 (x0 x1 x2 x3) : exec cl N c28_2 [(0, .v U17 x0), (1, .v U17 x1), (2, .v U2 x2), (7, .v U2 x3)] K = (g28_2 x0 x1 x2 x3 (fun y0 y1 y2 y3 y4 => K .normal (e108 y0 y1 y2 y3 y4))) := by
  kernel_rfl
def g28_3 (x0 x1 : V7) (x2 x3 : Int) (x4 : Bool) (k0 : Int → Option R) : Option R :=
k0 x3
theorem t28_3 (x0 x1 x2 x3 x4) : exec cl N c28_3 (e108 x0 x1 x2 x3 x4) K = (g28_3 x0 x1 x2 x3 x4 (fun y0 => K .normal [(6, .v U2 y0)])) := by
  kernel_rfl
theorem kp28_0 (x0) : keep [0, 1, 2, 6] [(6, .v U2 x0)] = (e109 x0) := by kernel_rfl
theorem kp28_1 (x0 x1 x2 x3 x4) : keep [0, 1, 2, 6] (e108 x0 x1 x2 x3 x4) = (e110 x0 x1 x2) := by kernel_rfl
theorem hb28_0 (x0 x1 x2 x3 x4) : boolOf? (ent (e108 x0 x1 x2 x3 x4) (.t 12)) = some x4 := by kernel_rfl
def g28_5 (x0 x1 : V7) (x2 : Int) (k0 : V7 → V7 → Int → Bool → Option R) : Option R :=
brB (decide (x2 < (0 : Int))) (k0 x0 x1 x2 true) (k0 x0 x1 x2 (decide (x2 > (4 : Int))))
theorem t28_5 (x0 x1 x2) : exec cl N c28_5 (e110 x0 x1 x2) K = (g28_5 x0 x1 x2 (fun y0 y1 y2 y3 => K .normal (e111 y0 y1 y2 y3))) := by
  kernel_rfl
def g28_6 (x0 x1 : V7) (x2 : Int) (x3 : Bool) (k0 : Int → Option R) : Option R :=
k0 (6 : Int)
theorem t28_6 (x0 x1 x2 x3) : exec cl N c28_6 (e111 x0 x1 x2 x3) K = (g28_6 x0 x1 x2 x3 (fun y0 => K .normal [(6, .v U2 y0)])) := by
  kernel_rfl
theorem kp28_2 (x0 x1 x2 x3) : keep [0, 1, 2, 6] (e111 x0 x1 x2 x3) = (e110 x0 x1 x2) := by kernel_rfl
theorem hb28_1 (x0 x1 x2 x3) : boolOf? (ent (e111 x0 x1 x2 x3) (.t 19)) = some x3 := by kernel_rfl
def g28_8 (S40 : V7 → V7 → Option V2) (S54 : V0 → Int → Option (Bool)) (x0 x1 : V7) (x2 : Int) (k0 : Bool → Option R) : Option R :=
(S40 x0 x1).bind fun r368 =>
(S54 r368 x2).bind fun r369 =>
k0 (!r369)
theorem t28_8 (S40) (S54) (h40 : (ctr40 S40).holds cl) (h54 : (ctr54 S54).holds cl) (x0 x1 x2) : exec cl N c28_8 (e110 x0 x1 x2) K = (g28_8 S40 S54 x0 x1 x2 (fun y0 => K .normal [(25, .v .bool y0)])) := by
  rw [← put_eq h40]
  rw [← put_eq h54]
  kernel_rfl
def g28_9 (x0 : Bool) (k0 : Int → Option R) : Option R :=
k0 (8 : Int)
theorem t28_9 (x0) : exec cl N c28_9 [(25, .v .bool x0)] K = (g28_9 x0 (fun y0 => K .normal [(6, .v U2 y0)])) := by
  kernel_rfl
theorem kp28_3 (x0) : keep [6] [(6, .v U2 x0)] = [(6, .v U2 x0)] := by kernel_rfl
theorem kp28_4 (x0) : keep [6] [(25, .v .bool x0)] = [(6, .dead)] := by kernel_rfl
theorem hb28_2 (x0) : boolOf? (ent [(25, .v .bool x0)] (.t 25)) = some x0 := by kernel_rfl
def g28_11 (k0 : Int → Option R) : Option R :=
k0 (0 : Int)
theorem t28_11 : exec cl N c28_11 [(6, .dead)] K = (g28_11 (fun y0 => K .normal [(6, .v U2 y0)])) := by
  kernel_rfl
def g28_12 (S39 : V7 → V7 → Option (Int)) (S40 : V7 → V7 → Option V2) (S54 : V0 → Int → Option (Bool)) (x0 x1 : V7) (x2 : Int) (k0 : Int → Option R) (k1 : Int → Option R) : Option R :=
(g28_0 x0 x1 x2 (fun y0 y1 y2 => (g28_1 S39 y0 y1 y2 (fun y0 y1 y2 y3 => (g28_2 y0 y1 y2 y3 (fun y0 y1 y2 y3 y4 => brB y4 (g28_3 y0 y1 y2 y3 y4 (fun y0 => ((fun y0 => (k0 y0)) y0))) ((fun y0 y1 y2 => (g28_5 y0 y1 y2 (fun y0 y1 y2 y3 => brB y3 (g28_6 y0 y1 y2 y3 (fun y0 => ((fun y0 => (k0 y0)) y0))) ((fun y0 y1 y2 => (g28_8 S40 S54 y0 y1 y2 (fun y0 => brB y0 (g28_9 y0 (fun y0 => ((fun y0 => (k1 y0)) y0))) (g28_11 (fun y0 => (k1 y0)))))) y0 y1 y2)))) y0 y1 y2)))))))
theorem t28_12 (S39) (S40) (S54) (h39 : (ctr39 S39).holds cl) (h40 : (ctr40 S40).holds cl) (h54 : (ctr54 S54).holds cl) (x0 x1 x2) : exec cl N c28_12 (e58 x0 x1 x2) K = (g28_12 S39 S40 S54 x0 x1 x2 (fun y0 => K .ret (e109 y0)) (fun y0 => K .ret [(6, .v U2 y0)])) := by
  simp only [c28_12, exec_seq, seqK_normal, seqK_exit, seqK_ret, t28_0, t28_1 S39 h39, t28_2, c28_4, exec_out, exec_cond', hb28_0, Option.bind_some, brB_true, brB_false, t28_3, exec_ret, exec_skip, kp28_0, kp28_1, t28_5, c28_7, hb28_1, t28_6, kp28_2, t28_8 S40 S54 h40 h54, c28_10, hb28_2, t28_9, kp28_3, kp28_4, t28_11]
  rfl
theorem rk28_0 (y0) : retK d28 .ret (e109 y0) = some [.v U2 y0] := by kernel_rfl
theorem rk28_1 (y0) : retK d28 .ret [(6, .v U2 y0)] = some [.v U2 y0] := by kernel_rfl
def g28 (S39 : V7 → V7 → Option (Int)) (S40 : V7 → V7 → Option V2) (S54 : V0 → Int → Option (Bool)) (x0 x1 : V7) (x2 : Int) (k : Int → Option R) : Option R :=
(g28_12 S39 S40 S54 x0 x1 x2 (fun y0 => k y0) (fun y0 => k y0))
theorem gen28 {N : Nat} {cl : Cal} (S39 : V7 → V7 → Option (Int)) (S40 : V7 → V7 → Option V2) (S54 : V0 → Int → Option (Bool)) (h39 : (ctr39 S39).holds cl) (h40 : (ctr40 S40).holds cl) (h54 : (ctr54 S54).holds cl) (x0 : V7) (x1 : V7) (x2 : Int) {R : Type} (k : List E → Option R) : exec cl N c28 (params 0 [.v U17 x0, .v U17 x1, .v U2 x2]) (fun e env => (retK d28 e env).bind k) = g28 S39 S40 S54 x0 x1 x2 (fun (r0 : Int) => k [.v U2 r0]) := by
  have e0 : params 0 [.v U17 x0, .v U17 x1, .v U2 x2] = (e58 x0 x1 x2) := by kernel_rfl
  simp only [c28, e0, t28_12 S39 S40 S54 h39 h40 h54, rk28_0, rk28_1, Option.bind_some]
  rfl
def ctr28 (S : V7 → V7 → Int → Option (Int)) : Ctr := { A := V7 × V7 × Int × Unit, B := Int, f := 28, enc := fun a => [.v U17 a.1, .v U17 a.2.1, .v U2 a.2.2.1], dec := (decC (decV U17) (decC (decV U17) (decC (decV U2) dec0))), S := fun a => S a.1 a.2.1 a.2.2.1, ent := fun b => [.v U2 b], ok := (decV_cons (T := U17) (decV_cons (T := U17) (decV_cons (T := U2) (fun es b h => dec0_some h)))) }
def S28 (N : Nat) (x0 : V7) (x1 : V7) (x2 : Int) : Option (Int) := g28 (S39 N) (S40 N) (S54 N) x0 x1 x2 (fun (r0 : Int) => some (r0))
def g55_0 (x0 : V7) (x1 x2 : Int) (k0 : V7 → Int → Int → Option R) : Option R :=
k0 x0 x1 x2
theorem t55_0 (x0 x1 x2) : exec cl N c55_0 (e112 x0 x1 x2) K = (g55_0 x0 x1 x2 (fun y0 y1 y2 => K .normal (e112 y0 y1 y2))) := by
  kernel_rfl
def g55_1 (x0 : V7) (x1 x2 : Int) (k0 : V7 → Int → Int → V7 → Option R) : Option R :=
k0 x0 x1 x2 []
theorem t55_1 (x0 x1 x2) : exec cl N c55_1 (e112 x0 x1 x2) K = (g55_1 x0 x1 x2 (fun y0 y1 y2 y3 => K .normal [(0, .v U17 y0), (1, .v U2 y1), (2, .v U2 y2), (7, .own true 30 U14 .no y3)])) := by
  kernel_rfl
def g55_2 (x0 : V7) (x1 x2 : Int) (x3 : V7) (k0 : V7 → Int → V7 → Int → Option R) : Option R :=
k0 x0 x2 x3 x1
theorem t55_2 (x0 x1 x2 x3) : exec cl N c55_2 [(0, .v U17 x0), (1, .v U2 x1), (2, .v U2 x2), (7, .own true 30 U14 .no x3)] K = (g55_2 x0 x1 x2 x3 (fun y0 y1 y2 y3 => K .normal (e113 y0 y1 y2 y3))) := by
  kernel_rfl
theorem kp55_0 (x0 x1 x2 x3) : keep [0, 2, 7, 8] (e113 x0 x1 x2 x3) = (e113 x0 x1 x2 x3) := by kernel_rfl
def g55_3 (x0 : V7) (x1 : Int) (x2 : V7) (x3 : Int) (k0 : V7 → Int → V7 → Int → Bool → Option R) : Option R :=
k0 x0 x1 x2 x3 (decide (x3 < x1))
theorem t55_3 (x0 x1 x2 x3) : exec cl N c55_3 (e113 x0 x1 x2 x3) K = (g55_3 x0 x1 x2 x3 (fun y0 y1 y2 y3 y4 => K .normal (e114 y0 y1 y2 y3 y4))) := by
  kernel_rfl
theorem kp55_1 (x0 x1 x2 x3 x4) : keep [0, 2, 7, 8] (e114 x0 x1 x2 x3 x4) = (e113 x0 x1 x2 x3) := by kernel_rfl
theorem hb55_0 (x0 x1 x2 x3 x4) : boolOf? (ent (e114 x0 x1 x2 x3 x4) (.t 12)) = some x4 := by kernel_rfl
def g55_5 (x0 : V7) (x1 : Int) (x2 : V7) (x3 : Int) (k0 : V7 → Int → V7 → Int → Option R) : Option R :=
if 0 ≤ x3 ∧ x3 < (x0.length : Int) then
if x2.length + [(x0.getD x3.toNat ((0 : Int), ((0 : Int), ([], ()))))].length ≤ 4398046511104 then
k0 x0 x1 (x2 ++ [(x0.getD x3.toNat ((0 : Int), ((0 : Int), ([], ()))))]) x3
else none
else none
theorem t55_5 (x0 x1 x2 x3) : exec cl N c55_5 (e113 x0 x1 x2 x3) K = (g55_5 x0 x1 x2 x3 (fun y0 y1 y2 y3 => K .normal (e113 y0 y1 y2 y3))) := by
  kernel_rfl
def g55_7 (x0 : V7) (x1 : Int) (x2 : V7) (x3 : Int) (k0 : V7 → Int → V7 → Int → Option R) : Option R :=
k0 x0 x1 x2 (IntKind.i64.wrap (x3 + (1 : Int)))
theorem t55_7 (x0 x1 x2 x3) : exec cl N c55_7 (e113 x0 x1 x2 x3) K = (g55_7 x0 x1 x2 x3 (fun y0 y1 y2 y3 => K .normal (e113 y0 y1 y2 y3))) := by
  kernel_rfl
def g55_8 (x0 : V7) (x1 : Int) (x2 : V7) (x3 : Int) (k0 : V7 → Int → V7 → Int → Option R) (k1 : V7 → Int → V7 → Int → Option R) : Option R :=
(g55_3 x0 x1 x2 x3 (fun y0 y1 y2 y3 y4 => brB y4 ((fun y0 y1 y2 y3 => (g55_5 y0 y1 y2 y3 (fun y0 y1 y2 y3 => (g55_7 y0 y1 y2 y3 k0)))) y0 y1 y2 y3) (k1 y0 y1 y2 y3)))
theorem t55_8 (x0 x1 x2 x3) : exec cl N c55_8 (e113 x0 x1 x2 x3) K = (g55_8 x0 x1 x2 x3 (fun y0 y1 y2 y3 => K .normal (e113 y0 y1 y2 y3)) (fun y0 y1 y2 y3 => K (.exit 0) (e113 y0 y1 y2 y3))) := by
  simp only [c55_8, exec_seq, seqK_normal, seqK_exit, seqK_ret, t55_3, c55_4, exec_out, exec_cond', hb55_0, Option.bind_some, brB_true, brB_false, exec_skip, exec_exit, kp55_1, c55_6, exec_block, t55_5, blockK_normal, blockK_ret, blockK_eq, kp55_0, t55_7]
  rfl
def l55_9 {R : Type} (k0 : V7 → Int → V7 → Int → Option R) : Nat → V7 → Int → V7 → Int → Option R
  | 0, _, _, _, _ => none
  | m + 1, x0, x1, x2, x3 => (g55_8 x0 x1 x2 x3 (fun y0 y1 y2 y3 => l55_9 k0 m y0 y1 y2 y3) k0)
theorem lt55_9 : ∀ (m) (x0 x1 x2 x3), iter [0, 2, 7, 8] (fun env K => exec cl N c55_8 env K) K m (e113 x0 x1 x2 x3) = l55_9 (fun y0 y1 y2 y3 => K (.exit 0) (e113 y0 y1 y2 y3)) m x0 x1 x2 x3 := by
  intro m
  induction m with
  | zero => intros; rfl
  | succ m ih =>
    intro x0 x1 x2 x3
    simp only [iter_succ, t55_8, loopK_normal, loopK_exit, loopK_ret, kp55_0, ih]
    rfl
theorem kp55_2 (x0 x1 x2 x3) : keep [7] (e113 x0 x1 x2 x3) = (e115 x2) := by kernel_rfl
def g55_9 (N : Nat) (x0 : V7) (x1 : Int) (x2 : V7) (x3 : Int) (k0 : V7 → Option R) : Option R :=
l55_9 (fun y0 y1 y2 y3 => k0 y2) N x0 x1 x2 x3
theorem t55_9 (x0 x1 x2 x3) : exec cl N c55_9 (e113 x0 x1 x2 x3) K = (g55_9 N x0 x1 x2 x3 (fun y0 => K (.exit 0) (e115 y0))) := by
  simp only [c55_9, exec_out, exec_loop, kp55_0, lt55_9, kp55_2]
  rfl
theorem kp55_3 (x0) : keep [7] (e115 x0) = (e115 x0) := by kernel_rfl
def g55_11 (x0 : V7) (k0 : V7 → Option R) : Option R :=
k0 x0
theorem t55_11 (x0) : exec cl N c55_11 (e115 x0) K = (g55_11 x0 (fun y0 => K .normal (e116 y0))) := by
  kernel_rfl
def g55_12 (N : Nat) (x0 : V7) (x1 x2 : Int) (k0 : V7 → Option R) : Option R :=
(g55_0 x0 x1 x2 (fun y0 y1 y2 => (g55_1 y0 y1 y2 (fun y0 y1 y2 y3 => (g55_2 y0 y1 y2 y3 (fun y0 y1 y2 y3 => (g55_9 N y0 y1 y2 y3 (fun y0 => ((fun y0 => (g55_11 y0 (fun y0 => (k0 y0)))) y0)))))))))
theorem t55_12 (x0 x1 x2) : exec cl N c55_12 (e112 x0 x1 x2) K = (g55_12 N x0 x1 x2 (fun y0 => K .ret (e116 y0))) := by
  simp only [c55_12, exec_seq, seqK_normal, seqK_exit, seqK_ret, t55_0, t55_1, t55_2, c55_10, exec_out, exec_block, t55_9, blockK_normal, blockK_ret, blockK_eq, kp55_3, t55_11, exec_ret]
  rfl
theorem rk55_0 (y0) : retK d55 .ret (e116 y0) = some [.own true 30 U14 .no y0] := by kernel_rfl
def g55 (N : Nat) (x0 : V7) (x1 x2 : Int) (k : V7 → Option R) : Option R :=
(g55_12 N x0 x1 x2 (fun y0 => k y0))
theorem gen55 {N : Nat} {cl : Cal} (x0 : V7) (x1 : Int) (x2 : Int) {R : Type} (k : List E → Option R) : exec cl N c55 (params 0 [.v U17 x0, .v U2 x1, .v U2 x2]) (fun e env => (retK d55 e env).bind k) = g55 N x0 x1 x2 (fun (r0 : V7) => k [.own true 30 U14 .no r0]) := by
  have e0 : params 0 [.v U17 x0, .v U2 x1, .v U2 x2] = (e112 x0 x1 x2) := by kernel_rfl
  simp only [c55, e0, t55_12, rk55_0, Option.bind_some]
  rfl
def ctr55 (S : V7 → Int → Int → Option V8) : Ctr := { A := V7 × Int × Int × Unit, B := V7, f := 55, enc := fun a => [.v U17 a.1, .v U2 a.2.1, .v U2 a.2.2.1], dec := (decC (decV U17) (decC (decV U2) (decC (decV U2) dec0))), S := fun a => S a.1 a.2.1 a.2.2.1, ent := fun b => [.own true 30 U14 .no b], ok := (decV_cons (T := U17) (decV_cons (T := U2) (decV_cons (T := U2) (fun es b h => dec0_some h)))) }
def S55 (N : Nat) (x0 : V7) (x1 : Int) (x2 : Int) : Option V8 := g55 N x0 x1 x2 (fun (r0 : V7) => some (r0))
def g29_0 (x0 x1 : V7) (x2 : Int) (k0 : V7 → V7 → Int → Option R) : Option R :=
k0 x0 x1 x2
theorem t29_0 (x0 x1 x2) : exec cl N c29_0 (e58 x0 x1 x2) K = (g29_0 x0 x1 x2 (fun y0 y1 y2 => K .normal (e58 y0 y1 y2))) := by
  kernel_rfl
def g29_1 (x0 x1 : V7) (x2 : Int) (k0 : V7 → V7 → Int → Int → Option R) : Option R :=
k0 x0 x1 x2 (x0.length : Int)
theorem t29_1 (x0 x1 x2) : exec cl N c29_1 (e58 x0 x1 x2) K = (g29_1 x0 x1 x2 (fun y0 y1 y2 y3 => K .normal (e117 y0 y1 y2 y3))) := by
  kernel_rfl
def g29_2 (x0 x1 : V7) (x2 x3 : Int) (k0 : V7 → V7 → Int → Int → Option R) : Option R :=
k0 x0 x1 x3 x2
theorem t29_2 (x0 x1 x2 x3) : exec cl N c29_2 (e117 x0 x1 x2 x3) K = (g29_2 x0 x1 x2 x3 (fun y0 y1 y2 y3 => K .normal [(0, .v U17 y0), (1, .v U17 y1), (9, .v U2 y2), (14, .v U2 y3)])) := by
  kernel_rfl
def g29_3 (x0 x1 : V7) (x2 x3 : Int) (k0 : V7 → V7 → Int → Int → Bool → Option R) : Option R :=
k0 x0 x1 x2 x3 (x3 == (1 : Int))
theorem t29_3 (x0 x1 x2 x3) : exec cl N c29_3 [(0, .v U17 x0), (1, .v U17 x1), (9, .v U2 x2), (14, .v U2 x3)] K = (g29_3 x0 x1 x2 x3 (fun y0 y1 y2 y3 y4 => K .normal (e118 y0 y1 y2 y3 y4))) := by
  kernel_rfl
def g29_4 (S43 : V7 → Option (Int)) (x0 x1 : V7) (x2 x3 : Int) (x4 : Bool) (k0 : V7 → V7 → Int → Int → Option R) : Option R :=
(S43 x0).bind fun r397 =>
k0 x0 x1 x2 (IntKind.i64.wrap (x2 - r397))
theorem t29_4 (S43) (h43 : (ctr43 S43).holds cl) (x0 x1 x2 x3 x4) : exec cl N c29_4 (e118 x0 x1 x2 x3 x4) K = (g29_4 S43 x0 x1 x2 x3 x4 (fun y0 y1 y2 y3 => K .normal [(0, .v U17 y0), (1, .v U17 y1), (9, .v U2 y2), (10, .v U2 y3)])) := by
  rw [← put_eq h43]
  kernel_rfl
def g29_5 (S55 : V7 → Int → Int → Option V8) (x0 x1 : V7) (x2 x3 : Int) (k0 : V7 → V7 → V7 → Option R) : Option R :=
(S55 x0 (0 : Int) x3).bind fun r399 =>
(S55 x1 (0 : Int) (x1.length : Int)).bind fun r400 =>
(S55 x0 x3 x2).bind fun r401 =>
k0 r399 r400 r401
theorem t29_5 (S55) (h55 : (ctr55 S55).holds cl) (x0 x1 x2 x3) : exec cl N c29_5 [(0, .v U17 x0), (1, .v U17 x1), (9, .v U2 x2), (10, .v U2 x3)] K = (g29_5 S55 x0 x1 x2 x3 (fun y0 y1 y2 => K .normal (e119 y0 y1 y2))) := by
  rw [← put_eq h55]
  kernel_rfl
theorem kp29_0 (x0 x1 x2) : keep [0, 1, 6, 7, 8, 9] (e119 x0 x1 x2) = (e120 x0 x1 x2) := by kernel_rfl
def g29_6 (x0 x1 : V7) (x2 x3 : Int) (x4 : Bool) (k0 : V7 → V7 → Int → Int → Bool → Option R) : Option R :=
k0 x0 x1 x2 x3 (x3 == (2 : Int))
theorem t29_6 (x0 x1 x2 x3 x4) : exec cl N c29_6 (e118 x0 x1 x2 x3 x4) K = (g29_6 x0 x1 x2 x3 x4 (fun y0 y1 y2 y3 y4 => K .normal (e121 y0 y1 y2 y3 y4))) := by
  kernel_rfl
def g29_7 (S56 : V7 → Option (Int)) (x0 x1 : V7) (x2 x3 : Int) (x4 : Bool) (k0 : V7 → V7 → Int → Int → Option R) : Option R :=
(S56 x1).bind fun r403 =>
k0 x0 x1 x2 (IntKind.i64.wrap (r403 + (1 : Int)))
theorem t29_7 (S56) (h56 : (ctr56 S56).holds cl) (x0 x1 x2 x3 x4) : exec cl N c29_7 (e121 x0 x1 x2 x3 x4) K = (g29_7 S56 x0 x1 x2 x3 x4 (fun y0 y1 y2 y3 => K .normal [(0, .v U17 y0), (1, .v U17 y1), (9, .v U2 y2), (11, .v U2 y3)])) := by
  rw [← put_eq h56]
  kernel_rfl
def g29_8 (S55 : V7 → Int → Int → Option V8) (x0 x1 : V7) (x2 x3 : Int) (k0 : V7 → V7 → V7 → Option R) : Option R :=
(S55 x0 (0 : Int) x2).bind fun r405 =>
(S55 x1 x3 (x1.length : Int)).bind fun r406 =>
(S55 x1 (0 : Int) x3).bind fun r407 =>
k0 r405 r406 r407
theorem t29_8 (S55) (h55 : (ctr55 S55).holds cl) (x0 x1 x2 x3) : exec cl N c29_8 [(0, .v U17 x0), (1, .v U17 x1), (9, .v U2 x2), (11, .v U2 x3)] K = (g29_8 S55 x0 x1 x2 x3 (fun y0 y1 y2 => K .normal (e119 y0 y1 y2))) := by
  rw [← put_eq h55]
  kernel_rfl
def g29_9 (x0 x1 : V7) (x2 x3 : Int) (x4 : Bool) (k0 : V7 → V7 → Int → Bool → Option R) : Option R :=
k0 x0 x1 x2 (x3 == (4 : Int))
theorem t29_9 (x0 x1 x2 x3 x4) : exec cl N c29_9 (e121 x0 x1 x2 x3 x4) K = (g29_9 x0 x1 x2 x3 x4 (fun y0 y1 y2 y3 => K .normal (e122 y0 y1 y2 y3))) := by
  kernel_rfl
def g29_10 (S55 : V7 → Int → Int → Option V8) (x0 x1 : V7) (x2 : Int) (x3 : Bool) (k0 : V7 → V7 → V7 → Option R) : Option R :=
(S55 x0 (0 : Int) (IntKind.i64.wrap (x2 - (1 : Int)))).bind fun r410 =>
let v411 : Int := (IntKind.i64.wrap (x2 - (1 : Int)))
if 0 ≤ v411 ∧ v411 < (x0.length : Int) then
let v412 : V6 := ((1 : Int), (1 : Int), (x0.getD v411.toNat ((0 : Int), ((0 : Int), ([], ())))).2.2.1, ())
if r410.length + [v412].length ≤ 4398046511104 then
(S55 x1 (0 : Int) (x1.length : Int)).bind fun r413 =>
k0 (r410 ++ [v412]) r413 []
else none
else none
theorem t29_10 (S55) (h55 : (ctr55 S55).holds cl) (x0 x1 x2 x3) : exec cl N c29_10 (e122 x0 x1 x2 x3) K = (g29_10 S55 x0 x1 x2 x3 (fun y0 y1 y2 => K .normal (e119 y0 y1 y2))) := by
  rw [← put_eq h55]
  kernel_rfl
theorem kp29_1 (x0 x1 x2 x3) : keep [0, 1, 6, 7, 8, 9] (e122 x0 x1 x2 x3) = (e123 x0 x1 x2) := by kernel_rfl
theorem hb29_0 (x0 x1 x2 x3) : boolOf? (ent (e122 x0 x1 x2 x3) (.t 48)) = some x3 := by kernel_rfl
theorem kp29_2 (x0 x1 x2) : keep [0, 1, 6, 7, 8, 9] (e120 x0 x1 x2) = (e120 x0 x1 x2) := by kernel_rfl
theorem kp29_3 (x0 x1 x2) : keep [0, 1, 6, 7, 8, 9] (e123 x0 x1 x2) = (e123 x0 x1 x2) := by kernel_rfl
theorem hb29_1 (x0 x1 x2 x3 x4) : boolOf? (ent (e121 x0 x1 x2 x3 x4) (.t 32)) = some x4 := by kernel_rfl
theorem hb29_2 (x0 x1 x2 x3 x4) : boolOf? (ent (e118 x0 x1 x2 x3 x4) (.t 15)) = some x4 := by kernel_rfl
def g29_15 (S55 : V7 → Int → Int → Option V8) (x0 x1 : V7) (x2 : Int) (k0 : V7 → V7 → V7 → Option R) : Option R :=
(S55 x0 (0 : Int) x2).bind fun r414 =>
(S55 x1 (0 : Int) (x1.length : Int)).bind fun r415 =>
k0 r414 r415 []
theorem t29_15 (S55) (h55 : (ctr55 S55).holds cl) (x0 x1 x2) : exec cl N c29_15 (e123 x0 x1 x2) K = (g29_15 S55 x0 x1 x2 (fun y0 y1 y2 => K .normal (e119 y0 y1 y2))) := by
  rw [← put_eq h55]
  kernel_rfl
def g29_16 (S43 : V7 → Option (Int)) (S55 : V7 → Int → Int → Option V8) (S56 : V7 → Option (Int)) (x0 x1 : V7) (x2 : Int) (k0 : V7 → V7 → V7 → Option R) (k1 : V7 → V7 → V7 → Option R) : Option R :=
(g29_0 x0 x1 x2 (fun y0 y1 y2 => (g29_1 y0 y1 y2 (fun y0 y1 y2 y3 => (g29_2 y0 y1 y2 y3 (fun y0 y1 y2 y3 => (g29_3 y0 y1 y2 y3 (fun y0 y1 y2 y3 y4 => brB y4 (g29_4 S43 y0 y1 y2 y3 y4 (fun y0 y1 y2 y3 => (g29_5 S55 y0 y1 y2 y3 (fun y0 y1 y2 => ((fun y0 y1 y2 => (k0 y0 y1 y2)) y0 y1 y2))))) (g29_6 y0 y1 y2 y3 y4 (fun y0 y1 y2 y3 y4 => brB y4 (g29_7 S56 y0 y1 y2 y3 y4 (fun y0 y1 y2 y3 => (g29_8 S55 y0 y1 y2 y3 (fun y0 y1 y2 => ((fun y0 y1 y2 => (k0 y0 y1 y2)) y0 y1 y2))))) (g29_9 y0 y1 y2 y3 y4 (fun y0 y1 y2 y3 => brB y3 (g29_10 S55 y0 y1 y2 y3 (fun y0 y1 y2 => ((fun y0 y1 y2 => (k0 y0 y1 y2)) y0 y1 y2))) ((fun y0 y1 y2 => ((fun y0 y1 y2 => ((fun y0 y1 y2 => ((fun y0 y1 y2 => (g29_15 S55 y0 y1 y2 (fun y0 y1 y2 => (k1 y0 y1 y2)))) y0 y1 y2)) y0 y1 y2)) y0 y1 y2)) y0 y1 y2)))))))))))))
theorem t29_16 (S43) (S55) (S56) (h43 : (ctr43 S43).holds cl) (h55 : (ctr55 S55).holds cl) (h56 : (ctr56 S56).holds cl) (x0 x1 x2) : exec cl N c29_16 (e58 x0 x1 x2) K = (g29_16 S43 S55 S56 x0 x1 x2 (fun y0 y1 y2 => K .ret (e120 y0 y1 y2)) (fun y0 y1 y2 => K .ret (e119 y0 y1 y2))) := by
  simp only [c29_16, exec_seq, seqK_normal, seqK_exit, seqK_ret, t29_0, t29_1, t29_2, c29_14, exec_out, exec_block, t29_3, c29_13, exec_cond', hb29_2, Option.bind_some, brB_true, brB_false, t29_4 S43 h43, t29_5 S55 h55, exec_ret, t29_6, c29_12, hb29_1, t29_7 S56 h56, t29_8 S55 h55, t29_9, c29_11, hb29_0, t29_10 S55 h55, exec_skip, kp29_0, kp29_1, kp29_2, kp29_3, blockK_normal, blockK_ret, blockK_eq, t29_15 S55 h55]
  rfl
theorem rk29_0 (y0 y1 y2) : retK d29 .ret (e120 y0 y1 y2) = some [.own true 30 U14 .no y0, .own true 30 U14 .no y1, .own true 30 U14 .no y2] := by kernel_rfl
theorem rk29_1 (y0 y1 y2) : retK d29 .ret (e119 y0 y1 y2) = some [.own true 30 U14 .no y0, .own true 30 U14 .no y1, .own true 30 U14 .no y2] := by kernel_rfl
def g29 (S43 : V7 → Option (Int)) (S55 : V7 → Int → Int → Option V8) (S56 : V7 → Option (Int)) (x0 x1 : V7) (x2 : Int) (k : V7 → V7 → V7 → Option R) : Option R :=
(g29_16 S43 S55 S56 x0 x1 x2 (fun y0 y1 y2 => k y0 y1 y2) (fun y0 y1 y2 => k y0 y1 y2))
theorem gen29 {N : Nat} {cl : Cal} (S43 : V7 → Option (Int)) (S55 : V7 → Int → Int → Option V8) (S56 : V7 → Option (Int)) (h43 : (ctr43 S43).holds cl) (h55 : (ctr55 S55).holds cl) (h56 : (ctr56 S56).holds cl) (x0 : V7) (x1 : V7) (x2 : Int) {R : Type} (k : List E → Option R) : exec cl N c29 (params 0 [.v U17 x0, .v U17 x1, .v U2 x2]) (fun e env => (retK d29 e env).bind k) = g29 S43 S55 S56 x0 x1 x2 (fun (r0 : V7) (r1 : V7) (r2 : V7) => k [.own true 30 U14 .no r0, .own true 30 U14 .no r1, .own true 30 U14 .no r2]) := by
  have e0 : params 0 [.v U17 x0, .v U17 x1, .v U2 x2] = (e58 x0 x1 x2) := by kernel_rfl
  simp only [c29, e0, t29_16 S43 S55 S56 h43 h55 h56, rk29_0, rk29_1, Option.bind_some]
  rfl
def ctr29 (S : V7 → V7 → Int → Option V12) : Ctr := { A := V7 × V7 × Int × Unit, B := V7 × V7 × V7, f := 29, enc := fun a => [.v U17 a.1, .v U17 a.2.1, .v U2 a.2.2.1], dec := (decC (decV U17) (decC (decV U17) (decC (decV U2) dec0))), S := fun a => S a.1 a.2.1 a.2.2.1, ent := fun b => [.own true 30 U14 .no b.1, .own true 30 U14 .no b.2.1, .own true 30 U14 .no b.2.2], ok := (decV_cons (T := U17) (decV_cons (T := U17) (decV_cons (T := U2) (fun es b h => dec0_some h)))) }
def S29 (N : Nat) (x0 : V7) (x1 : V7) (x2 : Int) : Option V12 := g29 (S43 N) (S55 N) (S56 N) x0 x1 x2 (fun (r0 : V7) (r1 : V7) (r2 : V7) => some (r0, r1, r2))
def g10_0 (x0 x1 : V7) (x2 : Int) (k0 : V7 → V7 → Int → Option R) : Option R :=
k0 x0 x1 x2
theorem t10_0 (x0 x1 x2) : exec cl N c10_0 (e58 x0 x1 x2) K = (g10_0 x0 x1 x2 (fun y0 y1 y2 => K .normal (e58 y0 y1 y2))) := by
  kernel_rfl
def g10_1 (S28 : V7 → V7 → Int → Option (Int)) (x0 x1 : V7) (x2 : Int) (k0 : V7 → V7 → Int → Int → Option R) : Option R :=
(S28 x0 x1 x2).bind fun r417 =>
k0 x0 x1 x2 r417
theorem t10_1 (S28) (h28 : (ctr28 S28).holds cl) (x0 x1 x2) : exec cl N c10_1 (e58 x0 x1 x2) K = (g10_1 S28 x0 x1 x2 (fun y0 y1 y2 y3 => K .normal (e117 y0 y1 y2 y3))) := by
  rw [← put_eq h28]
  kernel_rfl
def g10_2 (x0 x1 : V7) (x2 x3 : Int) (k0 : V7 → V7 → Int → Int → Bool → Option R) : Option R :=
k0 x0 x1 x2 x3 (x3 != (0 : Int))
theorem t10_2 (x0 x1 x2 x3) : exec cl N c10_2 (e117 x0 x1 x2 x3) K = (g10_2 x0 x1 x2 x3 (fun y0 y1 y2 y3 y4 => K .normal (e124 y0 y1 y2 y3 y4))) := by
  kernel_rfl
def g10_3 (x0 x1 : V7) (x2 x3 : Int) (x4 : Bool) (k0 : V7 → V7 → Int → Option R) : Option R :=
k0 [] [] x3
theorem t10_3 (x0 x1 x2 x3 x4) : exec cl N c10_3 (e124 x0 x1 x2 x3 x4) K = (g10_3 x0 x1 x2 x3 x4 (fun y0 y1 y2 => K .normal (e125 y0 y1 y2))) := by
  kernel_rfl
theorem kp10_0 (x0 x1 x2) : keep [0, 1, 2, 6, 7, 8] (e125 x0 x1 x2) = (e126 x0 x1 x2) := by kernel_rfl
theorem kp10_1 (x0 x1 x2 x3 x4) : keep [0, 1, 2, 6, 7, 8] (e124 x0 x1 x2 x3 x4) = (e127 x0 x1 x2) := by kernel_rfl
theorem hb10_0 (x0 x1 x2 x3 x4) : boolOf? (ent (e124 x0 x1 x2 x3 x4) (.t 18)) = some x4 := by kernel_rfl
def g10_5 (S29 : V7 → V7 → Int → Option V12) (x0 x1 : V7) (x2 : Int) (k0 : V7 → V7 → Option R) : Option R :=
(S29 x0 x1 x2).bind fun r419 =>
k0 r419.1 r419.2.1
theorem t10_5 (S29) (h29 : (ctr29 S29).holds cl) (x0 x1 x2) : exec cl N c10_5 (e127 x0 x1 x2) K = (g10_5 S29 x0 x1 x2 (fun y0 y1 => K .normal (e128 y0 y1))) := by
  rw [← put_eq h29]
  kernel_rfl
def g10_6 (x0 x1 : V7) (k0 : Int → V7 → V7 → Option R) : Option R :=
k0 (0 : Int) x0 x1
theorem t10_6 (x0 x1) : exec cl N c10_6 (e128 x0 x1) K = (g10_6 x0 x1 (fun y0 y1 y2 => K .normal (e129 y0 y1 y2))) := by
  kernel_rfl
def g10_7 (S28 : V7 → V7 → Int → Option (Int)) (S29 : V7 → V7 → Int → Option V12) (x0 x1 : V7) (x2 : Int) (k0 : V7 → V7 → Int → Option R) (k1 : Int → V7 → V7 → Option R) : Option R :=
(g10_0 x0 x1 x2 (fun y0 y1 y2 => (g10_1 S28 y0 y1 y2 (fun y0 y1 y2 y3 => (g10_2 y0 y1 y2 y3 (fun y0 y1 y2 y3 y4 => brB y4 (g10_3 y0 y1 y2 y3 y4 (fun y0 y1 y2 => ((fun y0 y1 y2 => (k0 y0 y1 y2)) y0 y1 y2))) ((fun y0 y1 y2 => (g10_5 S29 y0 y1 y2 (fun y0 y1 => (g10_6 y0 y1 (fun y0 y1 y2 => (k1 y0 y1 y2)))))) y0 y1 y2)))))))
theorem t10_7 (S28) (S29) (h28 : (ctr28 S28).holds cl) (h29 : (ctr29 S29).holds cl) (x0 x1 x2) : exec cl N c10_7 (e58 x0 x1 x2) K = (g10_7 S28 S29 x0 x1 x2 (fun y0 y1 y2 => K .ret (e126 y0 y1 y2)) (fun y0 y1 y2 => K .ret (e129 y0 y1 y2))) := by
  simp only [c10_7, exec_seq, seqK_normal, seqK_exit, seqK_ret, t10_0, t10_1 S28 h28, t10_2, c10_4, exec_out, exec_cond', hb10_0, Option.bind_some, brB_true, brB_false, t10_3, exec_ret, exec_skip, kp10_0, kp10_1, t10_5 S29 h29, t10_6]
  rfl
theorem rk10_0 (y0 y1 y2) : retK d10 .ret (e126 y0 y1 y2) = some [.own true 30 U14 .no y0, .own true 30 U14 .no y1, .v U2 y2] := by kernel_rfl
theorem rk10_1 (y0 y1 y2) : retK d10 .ret (e129 y0 y1 y2) = some [.own true 30 U14 .no y1, .own true 30 U14 .no y2, .v U2 y0] := by kernel_rfl
def g10 (S28 : V7 → V7 → Int → Option (Int)) (S29 : V7 → V7 → Int → Option V12) (x0 x1 : V7) (x2 : Int) (k : V7 → V7 → Int → Option R) : Option R :=
(g10_7 S28 S29 x0 x1 x2 (fun y0 y1 y2 => k y0 y1 y2) (fun y0 y1 y2 => k y1 y2 y0))
theorem gen10 {N : Nat} {cl : Cal} (S28 : V7 → V7 → Int → Option (Int)) (S29 : V7 → V7 → Int → Option V12) (h28 : (ctr28 S28).holds cl) (h29 : (ctr29 S29).holds cl) (x0 : V7) (x1 : V7) (x2 : Int) {R : Type} (k : List E → Option R) : exec cl N c10 (params 0 [.v U17 x0, .v U17 x1, .v U2 x2]) (fun e env => (retK d10 e env).bind k) = g10 S28 S29 x0 x1 x2 (fun (r0 : V7) (r1 : V7) (r2 : Int) => k [.own true 30 U14 .no r0, .own true 30 U14 .no r1, .v U2 r2]) := by
  have e0 : params 0 [.v U17 x0, .v U17 x1, .v U2 x2] = (e58 x0 x1 x2) := by kernel_rfl
  simp only [c10, e0, t10_7 S28 S29 h28 h29, rk10_0, rk10_1, Option.bind_some]
  rfl
def ctr10 (S : V7 → V7 → Int → Option V11) : Ctr := { A := V7 × V7 × Int × Unit, B := V7 × V7 × Int, f := 10, enc := fun a => [.v U17 a.1, .v U17 a.2.1, .v U2 a.2.2.1], dec := (decC (decV U17) (decC (decV U17) (decC (decV U2) dec0))), S := fun a => S a.1 a.2.1 a.2.2.1, ent := fun b => [.own true 30 U14 .no b.1, .own true 30 U14 .no b.2.1, .v U2 b.2.2], ok := (decV_cons (T := U17) (decV_cons (T := U17) (decV_cons (T := U2) (fun es b h => dec0_some h)))) }
def S10 (N : Nat) (x0 : V7) (x1 : V7) (x2 : Int) : Option V11 := g10 (S28 N) (S29 N) x0 x1 x2 (fun (r0 : V7) (r1 : V7) (r2 : Int) => some (r0, r1, r2))
def g11_0 (x0 x1 : V7) (x2 : Int) (k0 : V7 → V7 → Int → Option R) : Option R :=
k0 x0 x1 x2
theorem t11_0 (x0 x1 x2) : exec cl N c11_0 (e58 x0 x1 x2) K = (g11_0 x0 x1 x2 (fun y0 y1 y2 => K .normal (e58 y0 y1 y2))) := by
  kernel_rfl
def g11_1 (S27 : V7 → V7 → Int → Option V13) (x0 x1 : V7) (x2 : Int) (k0 : V7 → Int → Option R) : Option R :=
(S27 x0 x1 x2).bind fun r424 =>
k0 r424.2.2.1 r424.2.2.2
theorem t11_1 (S27) (h27 : (ctr27 S27).holds cl) (x0 x1 x2) : exec cl N c11_1 (e58 x0 x1 x2) K = (g11_1 S27 x0 x1 x2 (fun y0 y1 => K .normal [(10, .own true 30 U14 .no y0), (11, .v U2 y1)])) := by
  rw [← put_eq h27]
  kernel_rfl
def g11_2 (x0 : V7) (x1 : Int) (k0 : Int → V7 → Option R) : Option R :=
k0 x1 x0
theorem t11_2 (x0 x1) : exec cl N c11_2 [(10, .own true 30 U14 .no x0), (11, .v U2 x1)] K = (g11_2 x0 x1 (fun y0 y1 => K .normal (e130 y0 y1))) := by
  kernel_rfl
def g11_3 (S27 : V7 → V7 → Int → Option V13) (x0 x1 : V7) (x2 : Int) (k0 : Int → V7 → Option R) : Option R :=
(g11_0 x0 x1 x2 (fun y0 y1 y2 => (g11_1 S27 y0 y1 y2 (fun y0 y1 => (g11_2 y0 y1 (fun y0 y1 => (k0 y0 y1)))))))
theorem t11_3 (S27) (h27 : (ctr27 S27).holds cl) (x0 x1 x2) : exec cl N c11_3 (e58 x0 x1 x2) K = (g11_3 S27 x0 x1 x2 (fun y0 y1 => K .ret (e130 y0 y1))) := by
  simp only [c11_3, exec_seq, seqK_normal, seqK_exit, seqK_ret, t11_0, t11_1 S27 h27, t11_2, exec_ret]
  rfl
theorem rk11_0 (y0 y1) : retK d11 .ret (e130 y0 y1) = some [.own true 30 U14 .no y1, .v U2 y0] := by kernel_rfl
def g11 (S27 : V7 → V7 → Int → Option V13) (x0 x1 : V7) (x2 : Int) (k : V7 → Int → Option R) : Option R :=
(g11_3 S27 x0 x1 x2 (fun y0 y1 => k y1 y0))
theorem gen11 {N : Nat} {cl : Cal} (S27 : V7 → V7 → Int → Option V13) (h27 : (ctr27 S27).holds cl) (x0 : V7) (x1 : V7) (x2 : Int) {R : Type} (k : List E → Option R) : exec cl N c11 (params 0 [.v U17 x0, .v U17 x1, .v U2 x2]) (fun e env => (retK d11 e env).bind k) = g11 S27 x0 x1 x2 (fun (r0 : V7) (r1 : Int) => k [.own true 30 U14 .no r0, .v U2 r1]) := by
  have e0 : params 0 [.v U17 x0, .v U17 x1, .v U2 x2] = (e58 x0 x1 x2) := by kernel_rfl
  simp only [c11, e0, t11_3 S27 h27, rk11_0, Option.bind_some]
  rfl
def ctr11 (S : V7 → V7 → Int → Option V9) : Ctr := { A := V7 × V7 × Int × Unit, B := V7 × Int, f := 11, enc := fun a => [.v U17 a.1, .v U17 a.2.1, .v U2 a.2.2.1], dec := (decC (decV U17) (decC (decV U17) (decC (decV U2) dec0))), S := fun a => S a.1 a.2.1 a.2.2.1, ent := fun b => [.own true 30 U14 .no b.1, .v U2 b.2], ok := (decV_cons (T := U17) (decV_cons (T := U17) (decV_cons (T := U2) (fun es b h => dec0_some h)))) }
def S11 (N : Nat) (x0 : V7) (x1 : V7) (x2 : Int) : Option V9 := g11 (S27 N) x0 x1 x2 (fun (r0 : V7) (r1 : Int) => some (r0, r1))
end Go.Fw.L19
