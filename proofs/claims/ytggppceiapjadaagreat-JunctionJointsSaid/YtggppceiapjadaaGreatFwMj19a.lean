/- Printed by an own program for this claim: the machine's code of functions, or their typed forms with their equations; no conditions. -/
import Derived.Test.YtggppceiapjadaaGreatFwYj19
import Derived.Test.YtggppceiapjadaaGreatFwB1
set_option linter.unusedVariables false
set_option linter.unusedSimpArgs false
namespace Go.Fw.L19
open Go Go.Fw
set_option maxRecDepth 100000
set_option linter.unusedVariables false
set_option linter.unusedSimpArgs false
abbrev e0 := fun x0 x1 => ([(0, .v U0 x0), (1, .v U2 x1)] : Env)
abbrev e1 := fun x0 x1 x2 x3 => ([(0, .v U0 x0), (1, .v U2 x1), (5, .v U2 x2), (6, .v U2 x3)] : Env)
abbrev e2 := fun x0 x1 x2 x3 x4 => ([(0, .v U0 x0), (1, .v U2 x1), (5, .v U2 x2), (6, .v U2 x3), (15, .v .bool x4)] : Env)
abbrev e3 := fun x0 x1 => ([(1, .loc U27 .no x0), (3, .v U2 x1)] : Env)
abbrev e4 := fun x0 x1 x2 => ([(1, .loc U27 .no x0), (3, .v U2 x1), (4, .v U2 x2)] : Env)
abbrev e5 := fun x0 x1 x2 x3 => ([(1, .loc U27 .no x0), (3, .v U2 x1), (4, .v U2 x2), (16, .v .bool x3)] : Env)
abbrev e6 := fun x0 x1 => ([(0, .v U21 x0), (1, .v U2 x1)] : Env)
abbrev e7 := fun x0 x1 => ([(0, .v U21 x0), (9, .v .bool x1)] : Env)
abbrev e8 := fun x0 => ([(0, .v U21 x0), (4, .dead)] : Env)
abbrev e9 := fun x0 x1 => ([(0, .v U21 x0), (5, .v U2 x1)] : Env)
abbrev e10 := fun x0 x1 x2 => ([(0, .v U21 x0), (5, .v U2 x1), (13, .v .bool x2)] : Env)
abbrev e11 := fun x0 x1 x2 => ([(0, .v U21 x0), (5, .v U2 x1), (22, .v .bool x2)] : Env)
abbrev e12 := fun x0 => ([(0, .dead), (4, .v .bool x0), (5, .dead)] : Env)
abbrev e13 := fun x0 x1 => ([(0, .v U21 x0), (4, .dead), (5, .v U2 x1)] : Env)
abbrev e14 := fun x0 x1 => ([(0, .v .str x0), (12, .v .bool x1)] : Env)
abbrev e15 := fun x0 => ([(0, .dead), (2, .v U2 x0)] : Env)
abbrev e16 := fun x0 => ([(0, .v .str x0), (2, .dead)] : Env)
abbrev e17 := fun x0 x1 => ([(0, .v .str x0), (3, .v U2 x1)] : Env)
abbrev e18 := fun x0 x1 x2 => ([(0, .v .str x0), (3, .v U2 x1), (16, .v .bool x2)] : Env)
abbrev e19 := fun x0 x1 x2 x3 => ([(0, .v .str x0), (3, .v U2 x1), (4, .v U1 x2), (21, .v .bool x3)] : Env)
abbrev e20 := fun x0 x1 => ([(0, .v .str x0), (2, .dead), (3, .v U2 x1)] : Env)
abbrev e21 := fun x0 x1 x2 => ([(0, .v .str x0), (3, .v U2 x1), (30, .v .bool x2)] : Env)
abbrev e22 := fun x0 => ([(0, .dead), (2, .v U2 x0), (3, .dead)] : Env)
abbrev e23 := fun x0 => ([(2, .v U2 x0), (3, .dead)] : Env)
abbrev e24 := fun x0 => ([(2, .dead), (3, .v U2 x0)] : Env)
abbrev e25 := fun x0 x1 => ([(0, .v .str x0), (1, .v U1 x1)] : Env)
abbrev e26 := fun x0 x1 => ([(0, .v U4 x0), (1, .v U10 x1)] : Env)
abbrev e27 := fun x0 x1 x2 x3 => ([(0, .v U4 x0), (1, .v U10 x1), (7, .v U2 x2), (8, .v U2 x3)] : Env)
abbrev e28 := fun x0 x1 x2 x3 x4 => ([(0, .v U4 x0), (1, .v U10 x1), (7, .v U2 x2), (8, .v U2 x3), (9, .v .bool x4)] : Env)
abbrev e29 := fun x0 x1 x2 x3 x4 x5 => ([(0, .v U4 x0), (1, .v U10 x1), (5, .v U2 x2), (7, .v U2 x3), (8, .v U2 x4), (16, .v .bool x5)] : Env)
abbrev e30 := fun x0 => ([(0, .dead), (1, .dead), (4, .v U2 x0), (7, .dead), (8, .dead)] : Env)
abbrev e31 := fun x0 x1 x2 x3 => ([(0, .v U4 x0), (1, .v U10 x1), (4, .dead), (7, .v U2 x2), (8, .v U2 x3)] : Env)
abbrev e32 := fun x0 x1 => ([(0, .v U0 x0), (1, .v .str x1)] : Env)
abbrev e33 := fun x0 x1 x2 x3 => ([(0, .v U0 x0), (1, .v .str x1), (12, .v U2 x2), (13, .v .bool x3)] : Env)
abbrev e34 := fun x0 => ([(0, .dead), (1, .dead), (4, .v .str x0)] : Env)
abbrev e35 := fun x0 x1 x2 => ([(0, .v U0 x0), (1, .v .str x1), (15, .v .bool x2)] : Env)
abbrev e36 := fun x0 x1 => ([(0, .v U0 x0), (1, .v .str x1), (4, .dead)] : Env)
abbrev e37 := fun x0 x1 x2 => ([(0, .v U0 x0), (1, .v .str x1), (5, .v U2 x2)] : Env)
abbrev e38 := fun x0 x1 x2 x3 => ([(0, .v U0 x0), (1, .v .str x1), (5, .v U2 x2), (22, .v .bool x3)] : Env)
abbrev e39 := fun x0 x1 x2 x3 => ([(0, .v U0 x0), (1, .v .str x1), (5, .v U2 x2), (29, .v .bool x3)] : Env)
abbrev e40 := fun x0 x1 x2 x3 x4 x5 => ([(0, .v U0 x0), (1, .v .str x1), (5, .v U2 x2), (39, .v U0 x3), (40, .v U2 x4), (41, .v U2 x5)] : Env)
abbrev e41 := fun x0 x1 x2 x3 x4 x5 x6 => ([(0, .v U0 x0), (1, .v .str x1), (5, .v U2 x2), (39, .v U0 x3), (40, .v U2 x4), (41, .v U2 x5), (42, .v .bool x6)] : Env)
abbrev e42 := fun x0 x1 x2 x3 x4 x5 x6 => ([(0, .v U0 x0), (1, .v .str x1), (5, .v U2 x2), (7, .v .str x3), (39, .v U0 x4), (40, .v U2 x5), (41, .v U2 x6)] : Env)
abbrev e43 := fun x0 x1 x2 x3 x4 x5 x6 x7 => ([(0, .v U0 x0), (1, .v .str x1), (5, .v U2 x2), (7, .v .str x3), (39, .v U0 x4), (40, .v U2 x5), (41, .v U2 x6), (49, .v .bool x7)] : Env)
abbrev e44 := fun x0 x1 x2 x3 => ([(0, .v U0 x0), (7, .v U0 x1), (8, .v U2 x2), (9, .v U2 x3)] : Env)
abbrev e45 := fun x0 x1 x2 x3 x4 => ([(0, .v U0 x0), (7, .v U0 x1), (8, .v U2 x2), (9, .v U2 x3), (10, .v .bool x4)] : Env)
abbrev e46 := fun x0 x1 x2 x3 x4 x5 => ([(0, .v U0 x0), (5, .v .str x1), (7, .v U0 x2), (8, .v U2 x3), (9, .v U2 x4), (14, .v .bool x5)] : Env)
abbrev e47 := fun x0 x1 => ([(2, .v .str x0), (3, .v U2 x1)] : Env)
abbrev e48 := fun x0 x1 => ([(0, .dead), (2, .v .str x0), (3, .v U2 x1), (5, .dead), (7, .dead), (8, .dead), (9, .dead)] : Env)
abbrev e49 := fun x0 x1 x2 x3 x4 => ([(0, .v U0 x0), (2, .dead), (3, .dead), (5, .v .str x1), (7, .v U0 x2), (8, .v U2 x3), (9, .v U2 x4)] : Env)
abbrev e50 := fun x0 x1 x2 x3 x4 => ([(0, .v U0 x0), (7, .v U0 x1), (8, .v U2 x2), (9, .v U2 x3), (17, .v .bool x4)] : Env)
abbrev e51 := fun x0 x1 => ([(0, .dead), (2, .v .str x0), (3, .v U2 x1), (7, .dead), (8, .dead), (9, .dead)] : Env)
abbrev e52 := fun x0 x1 x2 x3 => ([(0, .v U0 x0), (2, .dead), (3, .dead), (7, .v U0 x1), (8, .v U2 x2), (9, .v U2 x3)] : Env)
abbrev e53 := fun x0 x1 => ([(0, .dead), (2, .v .str x0), (3, .v U2 x1)] : Env)
abbrev e54 := fun x0 => ([(0, .v U0 x0), (2, .dead), (3, .dead)] : Env)
abbrev e55 := fun x0 x1 => ([(6, .v .str x0), (23, .v .bool x1)] : Env)
abbrev e56 := fun x0 x1 => ([(2, .v .str x0), (3, .v U2 x1), (6, .dead)] : Env)
abbrev e57 := fun x0 => ([(3, .own true 4294967295 U1 .no x0)] : Env)
abbrev e58 := fun x0 x1 x2 => ([(3, .own true 4294967295 U1 .no x0), (8, .ref 3 []), (9, .v U2 x1), (10, .v U2 x2)] : Env)
abbrev e59 := fun x0 x1 x2 x3 => ([(3, .own true 4294967295 U1 .no x0), (8, .ref 3 []), (9, .v U2 x1), (10, .v U2 x2), (11, .v .bool x3)] : Env)
abbrev e60 := fun x0 x1 x2 x3 x4 => ([(3, .own true 4294967295 U1 .no x0), (4, .v U2 x1), (5, .v U1 x2), (8, .ref 3 []), (9, .v U2 x3), (10, .v U2 x4)] : Env)
abbrev e61 := fun x0 x1 x2 x3 x4 x5 => ([(3, .own true 4294967295 U1 .no x0), (4, .v U2 x1), (5, .v U1 x2), (8, .ref 3 []), (9, .v U2 x3), (10, .v U2 x4), (20, .v .bool x5)] : Env)
abbrev e62 := fun x0 x1 => ([(0, .v .str x0), (7, .v .bool x1)] : Env)
abbrev e63 := fun x0 x1 x2 x3 => ([(0, .v U0 x0), (1, .v .str x1), (7, .v U2 x2), (8, .v U2 x3)] : Env)
abbrev e64 := fun x0 x1 x2 x3 x4 => ([(0, .v U0 x0), (1, .v .str x1), (7, .v U2 x2), (8, .v U2 x3), (9, .v .bool x4)] : Env)
abbrev e65 := fun x0 x1 x2 x3 x4 x5 => ([(0, .v U0 x0), (1, .v .str x1), (5, .v U2 x2), (7, .v U2 x3), (8, .v U2 x4), (16, .v .bool x5)] : Env)
abbrev e66 := fun x0 x1 x2 x3 => ([(0, .v U0 x0), (1, .v .str x1), (4, .dead), (7, .v U2 x2), (8, .v U2 x3)] : Env)
abbrev e67 := fun x0 x1 => ([(1, .loc U20 .no x0), (6, .v .bool x1)] : Env)
abbrev e68 := fun x0 => ([(1, .dead), (2, .v U2 x0)] : Env)
abbrev e69 := fun x0 x1 => ([(1, .loc U20 .no x0), (25, .v .bool x1)] : Env)
abbrev e70 := fun x0 => ([(1, .loc U20 .no x0), (2, .dead)] : Env)
abbrev e71 := fun x0 x1 x2 x3 => ([(1, .loc U20 .no x0), (31, .v U0 x1), (32, .v U2 x2), (33, .v U2 x3)] : Env)
abbrev e72 := fun x0 x1 x2 x3 x4 => ([(1, .loc U20 .no x0), (31, .v U0 x1), (32, .v U2 x2), (33, .v U2 x3), (34, .v .bool x4)] : Env)
abbrev e73 := fun x0 x1 x2 x3 x4 x5 => ([(1, .loc U20 .no x0), (3, .v U2 x1), (4, .v .str x2), (31, .v U0 x3), (32, .v U2 x4), (33, .v U2 x5)] : Env)
abbrev e74 := fun x0 x1 x2 x3 x4 x5 x6 => ([(1, .loc U20 .no x0), (3, .v U2 x1), (4, .v .str x2), (5, .v U2 x3), (31, .v U0 x4), (32, .v U2 x5), (33, .v U2 x6)] : Env)
abbrev e75 := fun x0 x1 x2 x3 x4 x5 x6 x7 => ([(1, .loc U20 .no x0), (3, .v U2 x1), (4, .v .str x2), (5, .v U2 x3), (31, .v U0 x4), (32, .v U2 x5), (33, .v U2 x6), (41, .v .bool x7)] : Env)
abbrev e76 := fun x0 => ([(1, .dead), (2, .v U2 x0), (3, .dead), (4, .dead), (31, .dead), (32, .dead), (33, .dead)] : Env)
abbrev e77 := fun x0 x1 x2 x3 x4 x5 => ([(1, .loc U20 .no x0), (2, .dead), (3, .v U2 x1), (4, .v .str x2), (31, .v U0 x3), (32, .v U2 x4), (33, .v U2 x5)] : Env)
abbrev e78 := fun x0 x1 x2 x3 x4 => ([(1, .loc U20 .no x0), (31, .v U0 x1), (32, .v U2 x2), (33, .v U2 x3), (48, .v .bool x4)] : Env)
abbrev e79 := fun x0 => ([(1, .dead), (2, .v U2 x0), (31, .dead), (32, .dead), (33, .dead)] : Env)
abbrev e80 := fun x0 x1 x2 x3 => ([(1, .loc U20 .no x0), (2, .dead), (31, .v U0 x1), (32, .v U2 x2), (33, .v U2 x3)] : Env)
abbrev e81 := fun x0 x1 => ([(1, .loc U27 .no x0), (6, .v .bool x1)] : Env)
abbrev e82 := fun x0 x1 => ([(1, .loc U27 .no x0), (11, .v .bool x1)] : Env)
abbrev e83 := fun x0 => ([(1, .loc U27 .no x0), (2, .dead)] : Env)
abbrev e84 := fun x0 x1 x2 => ([(17, .v U22 x0), (18, .v U2 x1), (19, .v U2 x2)] : Env)
abbrev e85 := fun x0 x1 x2 x3 => ([(17, .v U22 x0), (18, .v U2 x1), (19, .v U2 x2), (20, .v .bool x3)] : Env)
abbrev e86 := fun x0 x1 x2 x3 x4 => ([(5, .v U2 x0), (17, .v U22 x1), (18, .v U2 x2), (19, .v U2 x3), (26, .v .bool x4)] : Env)
abbrev e87 := fun x0 => ([(2, .v U2 x0), (17, .dead), (18, .dead), (19, .dead)] : Env)
abbrev e88 := fun x0 x1 x2 => ([(2, .dead), (17, .v U22 x0), (18, .v U2 x1), (19, .v U2 x2)] : Env)
abbrev e89 := fun x0 x1 => ([(1, .loc U17 .no x0), (4, .v U2 x1)] : Env)
abbrev e90 := fun x0 x1 x2 => ([(1, .loc U17 .no x0), (4, .v U2 x1), (5, .v .bool x2)] : Env)
abbrev e91 := fun x0 => ([(1, .dead), (2, .v .bool x0)] : Env)
abbrev e92 := fun x0 x1 => ([(1, .loc U17 .no x0), (15, .v .bool x1)] : Env)
abbrev e93 := fun x0 => ([(1, .loc U17 .no x0), (2, .dead)] : Env)
abbrev e94 := fun x0 x1 x2 => ([(0, .v .str x0), (1, .v U11 x1), (2, .v .bool x2)] : Env)
abbrev e95 := fun x0 x1 x2 x3 => ([(1, .v U11 x0), (2, .v .bool x1), (10, .it x2 x3)] : Env)
abbrev e96 := fun x0 x1 x2 x3 x4 x5 x6 x7 => ([(1, .v U11 x0), (2, .v .bool x1), (10, .it x2 x3), (11, .tup [.v .bool x4, .v U2 x5, .v U3 x6]), (12, .v .bool x7)] : Env)
abbrev e97 := fun x0 x1 x2 x3 x4 x5 => ([(1, .v U11 x0), (2, .v .bool x1), (10, .it x2 x3), (11, .tup [.v .bool x4]), (12, .v .bool x5)] : Env)
abbrev e98 := fun x0 x1 x2 x3 x4 x5 x6 => ([(1, .v U11 x0), (2, .v .bool x1), (10, .it x2 x3), (11, .tup [.v .bool x4, .v U2 x5, .v U3 x6])] : Env)
abbrev e99 := fun x0 x1 x2 x3 x4 x5 => ([(1, .v U11 x0), (2, .v .bool x1), (7, .v U2 x2), (10, .it x3 x4), (19, .v .bool x5)] : Env)
abbrev e100 := fun x0 => ([(1, .dead), (2, .dead), (6, .v U2 x0), (10, .dead)] : Env)
abbrev e101 := fun x0 x1 x2 x3 => ([(1, .v U11 x0), (2, .v .bool x1), (6, .dead), (10, .it x2 x3)] : Env)
abbrev e102 := fun x0 x1 x2 x3 x4 => ([(1, .v U11 x0), (2, .v .bool x1), (10, .it x2 x3), (11, .tup [.v .bool x4])] : Env)
abbrev e103 := fun x0 x1 => ([(0, .v .str x0), (1, .v U11 x1)] : Env)
abbrev e104 := fun x0 x1 => ([(1, .loc U17 .no x0), (3, .v .bool x1)] : Env)
abbrev e105 := fun x0 x1 => ([(1, .loc U17 .no x0), (12, .v .bool x1)] : Env)
abbrev e106 := fun x0 x1 => ([(1, .loc U17 .no x0), (16, .v .bool x1)] : Env)
abbrev e107 := fun x0 x1 => ([(1, .loc U17 .no x0), (20, .v .bool x1)] : Env)
abbrev e108 := fun x0 x1 => ([(0, .v U21 x0), (8, .v .bool x1)] : Env)
abbrev e109 := fun x0 => ([(0, .v U21 x0), (2, .dead)] : Env)
abbrev e110 := fun x0 x1 x2 => ([(9, .v U21 x0), (10, .v U2 x1), (11, .v U2 x2)] : Env)
abbrev e111 := fun x0 x1 x2 x3 => ([(9, .v U21 x0), (10, .v U2 x1), (11, .v U2 x2), (12, .v .bool x3)] : Env)
abbrev e112 := fun x0 x1 x2 x3 x4 => ([(5, .v U2 x0), (9, .v U21 x1), (10, .v U2 x2), (11, .v U2 x3), (18, .v .bool x4)] : Env)
abbrev e113 := fun x0 => ([(2, .v U2 x0), (9, .dead), (10, .dead), (11, .dead)] : Env)
abbrev e114 := fun x0 x1 x2 => ([(2, .dead), (9, .v U21 x0), (10, .v U2 x1), (11, .v U2 x2)] : Env)
abbrev e115 := fun x0 x1 => ([(0, .v U21 x0), (1, .v U21 x1)] : Env)
abbrev e116 := fun x0 x1 => ([(1, .v U21 x0), (5, .v U2 x1)] : Env)
abbrev e117 := fun x0 x1 x2 => ([(1, .v U21 x0), (5, .v U2 x1), (9, .v .bool x2)] : Env)
abbrev e118 := fun x0 => ([(1, .dead), (4, .v U2 x0)] : Env)
abbrev e119 := fun x0 => ([(1, .v U21 x0), (4, .dead)] : Env)
abbrev e120 := fun x0 x1 => ([(0, .v U21 x0), (3, .v U2 x1)] : Env)
abbrev e121 := fun x0 x1 x2 => ([(0, .v U21 x0), (3, .v U2 x1), (6, .v .bool x2)] : Env)
abbrev e122 := fun x0 x1 => ([(0, .v U21 x0), (1, .v U26 x1)] : Env)
abbrev e123 := fun x0 x1 x2 x3 => ([(0, .v U21 x0), (1, .v U26 x1), (7, .v U2 x2), (8, .v U2 x3)] : Env)
abbrev e124 := fun x0 x1 x2 x3 x4 => ([(0, .v U21 x0), (1, .v U26 x1), (7, .v U2 x2), (8, .v U2 x3), (9, .v .bool x4)] : Env)
abbrev e125 := fun x0 x1 x2 x3 x4 x5 => ([(0, .v U21 x0), (1, .v U26 x1), (5, .v U2 x2), (7, .v U2 x3), (8, .v U2 x4), (16, .v .bool x5)] : Env)
abbrev e126 := fun x0 x1 x2 x3 => ([(0, .v U21 x0), (1, .v U26 x1), (4, .dead), (7, .v U2 x2), (8, .v U2 x3)] : Env)
abbrev e127 := fun x0 x1 x2 => ([(0, .v U21 x0), (3, .v U2 x1), (7, .v .bool x2)] : Env)
abbrev e128 := fun x0 x1 x2 => ([(0, .v U21 x0), (1, .v U21 x1), (5, .v U2 x2)] : Env)
abbrev e129 := fun x0 x1 x2 => ([(0, .v U21 x0), (5, .v U2 x1), (8, .v .bool x2)] : Env)
abbrev e130 := fun x0 => ([(4, .own true 3 U2 .no x0)] : Env)
abbrev e131 := fun x0 x1 => ([(0, .v U21 x0), (17, .v .bool x1)] : Env)
abbrev e132 := fun x0 x1 => ([(0, .v U2 x0), (1, .v U2 x1)] : Env)
abbrev e133 := fun x0 x1 x2 => ([(1, .v U2 x0), (5, .v U2 x1), (6, .v .bool x2)] : Env)
abbrev e134 := fun x0 x1 x2 => ([(1, .v U2 x0), (5, .v U2 x1), (8, .v .bool x2)] : Env)
abbrev e135 := fun x0 x1 => ([(1, .v U2 x0), (10, .v .bool x1)] : Env)
abbrev e136 := fun x0 => ([(1, .v U2 x0), (4, .dead)] : Env)
abbrev e137 := fun x0 x1 x2 => ([(0, .v U27 x0), (1, .v U2 x1), (2, .v .str x2)] : Env)
abbrev e138 := fun x0 x1 x2 => ([(1, .v U2 x0), (2, .v .str x1), (3, .loc U27 .no x2)] : Env)
abbrev e139 := fun x0 x1 x2 x3 x4 => ([(1, .v U2 x0), (2, .v .str x1), (3, .loc U27 .no x2), (8, .v U2 x3), (9, .v .bool x4)] : Env)
abbrev e140 := fun x0 x1 x2 x3 x4 x5 x6 => ([(1, .v U2 x0), (2, .v .str x1), (8, .v U2 x2), (9, .v .bool x3), (15, .v U22 x4), (16, .v U2 x5), (17, .v U2 x6)] : Env)
abbrev e141 := fun x0 x1 x2 x3 x4 x5 x6 x7 => ([(1, .v U2 x0), (2, .v .str x1), (8, .v U2 x2), (9, .v .bool x3), (15, .v U22 x4), (16, .v U2 x5), (17, .v U2 x6), (18, .v .bool x7)] : Env)
abbrev e142 := fun x0 x1 x2 x3 x4 x5 x6 x7 => ([(1, .v U2 x0), (2, .v .str x1), (8, .v U2 x2), (9, .v .bool x3), (11, .loc U20 .no x4), (15, .v U22 x5), (16, .v U2 x6), (17, .v U2 x7)] : Env)
abbrev e143 := fun x0 x1 x2 x3 x4 x5 x6 x7 x8 => ([(1, .v U2 x0), (2, .v .str x1), (8, .v U2 x2), (9, .v .bool x3), (11, .loc U20 .no x4), (15, .v U22 x5), (16, .v U2 x6), (17, .v U2 x7), (39, .v .bool x8)] : Env)
abbrev e144 := fun x0 x1 => ([(8, .v U2 x0), (9, .v .bool x1)] : Env)
abbrev e145 := fun x0 x1 => ([(6, .v U2 x0), (7, .v .bool x1)] : Env)
abbrev e146 := fun x0 x1 x2 x3 x4 => ([(0, .v U27 x0), (1, .v .str x1), (2, .v .str x2), (3, .v U21 x3), (4, .v U21 x4)] : Env)
abbrev e147 := fun x0 x1 x2 x3 x4 => ([(1, .v .str x0), (2, .v .str x1), (3, .v U21 x2), (4, .v U21 x3), (5, .loc U27 .no x4)] : Env)
abbrev e148 := fun x0 x1 x2 x3 x4 x5 => ([(1, .v .str x0), (2, .v .str x1), (3, .v U21 x2), (4, .v U21 x3), (5, .loc U27 .no x4), (12, .v U2 x5)] : Env)
abbrev e149 := fun x0 x1 x2 x3 x4 x5 x6 => ([(1, .v .str x0), (2, .v .str x1), (3, .v U21 x2), (4, .v U21 x3), (5, .loc U27 .no x4), (12, .v U2 x5), (23, .v .bool x6)] : Env)
abbrev e150 := fun x0 x1 => ([(10, .own true 45 U15 .no x0), (11, .v U2 x1)] : Env)
abbrev e151 := fun x0 x1 => ([(1, .dead), (2, .dead), (3, .dead), (4, .dead), (5, .dead), (10, .own true 45 U15 .no x0), (11, .v U2 x1)] : Env)
abbrev e152 := fun x0 x1 x2 x3 x4 => ([(1, .v .str x0), (2, .v .str x1), (3, .v U21 x2), (4, .v U21 x3), (5, .loc U27 .no x4), (10, .dead), (11, .dead)] : Env)
abbrev e153 := fun x0 x1 x2 x3 x4 x5 => ([(1, .v .str x0), (2, .v .str x1), (3, .v U21 x2), (4, .v U21 x3), (5, .loc U27 .no x4), (13, .v U2 x5)] : Env)
abbrev e154 := fun x0 x1 x2 x3 x4 x5 x6 => ([(1, .v .str x0), (2, .v .str x1), (3, .v U21 x2), (4, .v U21 x3), (5, .loc U27 .no x4), (13, .v U2 x5), (29, .v .bool x6)] : Env)
abbrev e155 := fun x0 x1 x2 x3 x4 x5 => ([(1, .v .str x0), (2, .v .str x1), (3, .v U21 x2), (4, .v U21 x3), (5, .loc U27 .no x4), (14, .own true 45 U15 .no x5)] : Env)
abbrev e156 := fun x0 x1 x2 x3 x4 x5 x6 x7 => ([(1, .v .str x0), (2, .v .str x1), (3, .v U21 x2), (5, .loc U27 .no x3), (14, .own true 45 U15 .no x4), (33, .own true 3 U2 .no x5), (34, .v U2 x6), (35, .v U2 x7)] : Env)
abbrev e157 := fun x0 x1 x2 x3 x4 x5 x6 x7 x8 => ([(1, .v .str x0), (2, .v .str x1), (3, .v U21 x2), (5, .loc U27 .no x3), (14, .own true 45 U15 .no x4), (33, .own true 3 U2 .no x5), (34, .v U2 x6), (35, .v U2 x7), (36, .v .bool x8)] : Env)
abbrev e158 := fun x0 x1 x2 x3 x4 x5 x6 x7 x8 => ([(1, .v .str x0), (2, .v .str x1), (3, .v U21 x2), (5, .loc U27 .no x3), (14, .own true 45 U15 .no x4), (16, .v U2 x5), (33, .own true 3 U2 .no x6), (34, .v U2 x7), (35, .v U2 x8)] : Env)
abbrev e159 := fun x0 x1 x2 x3 x4 x5 x6 x7 x8 x9 => ([(1, .v .str x0), (2, .v .str x1), (3, .v U21 x2), (5, .loc U27 .no x3), (14, .own true 45 U15 .no x4), (16, .v U2 x5), (33, .own true 3 U2 .no x6), (34, .v U2 x7), (35, .v U2 x8), (40, .v .bool x9)] : Env)
abbrev e160 := fun x0 x1 x2 x3 x4 x5 x6 x7 => ([(1, .v .str x0), (2, .v .str x1), (3, .v U21 x2), (5, .loc U27 .no x3), (14, .own true 45 U15 .no x4), (16, .dead), (33, .own true 3 U2 .no x5), (34, .v U2 x6), (35, .v U2 x7)] : Env)
abbrev e161 := fun x0 x1 x2 x3 x4 x5 x6 x7 x8 x9 => ([(1, .v .str x0), (2, .v .str x1), (3, .v U21 x2), (5, .loc U27 .no x3), (14, .own true 45 U15 .no x4), (16, .v U2 x5), (17, .v .str x6), (33, .own true 3 U2 .no x7), (34, .v U2 x8), (35, .v U2 x9)] : Env)
abbrev e162 := fun x0 x1 x2 x3 x4 x5 x6 x7 x8 x9 x10 => ([(1, .v .str x0), (2, .v .str x1), (3, .v U21 x2), (5, .loc U27 .no x3), (14, .own true 45 U15 .no x4), (16, .v U2 x5), (17, .v .str x6), (33, .own true 3 U2 .no x7), (34, .v U2 x8), (35, .v U2 x9), (48, .v .bool x10)] : Env)
abbrev e163 := fun x0 x1 x2 x3 x4 x5 x6 x7 x8 x9 x10 => ([(1, .v .str x0), (2, .v .str x1), (3, .v U21 x2), (5, .loc U27 .no x3), (14, .own true 45 U15 .no x4), (16, .v U2 x5), (18, .v U2 x6), (19, .v .bool x7), (33, .own true 3 U2 .no x8), (34, .v U2 x9), (35, .v U2 x10)] : Env)
abbrev e164 := fun x0 x1 x2 x3 x4 x5 x6 x7 x8 x9 x10 => ([(1, .v .str x0), (2, .v .str x1), (3, .v U21 x2), (5, .loc U27 .no x3), (14, .own true 45 U15 .no x4), (16, .v U2 x5), (18, .v U2 x6), (33, .own true 3 U2 .no x7), (34, .v U2 x8), (35, .v U2 x9), (60, .v .bool x10)] : Env)
abbrev e165 := fun x0 => ([(14, .own true 45 U15 .no x0)] : Env)
abbrev e166 := fun x0 x1 => ([(10, .ref 14 []), (11, .v U2 x0), (14, .own true 45 U15 .no x1)] : Env)
abbrev e167 := fun x0 x1 => ([(0, .v .str x0), (11, .v .bool x1)] : Env)
abbrev e168 := fun x0 x1 x2 => ([(0, .v .str x0), (3, .v U2 x1), (15, .v .bool x2)] : Env)
abbrev e169 := fun x0 x1 x2 => ([(0, .v .str x0), (3, .v U2 x1), (25, .v .bool x2)] : Env)
abbrev e170 := fun x0 x1 x2 => ([(0, .v .str x0), (3, .v U2 x1), (54, .v .bool x2)] : Env)
abbrev e171 := fun x0 x1 x2 => ([(0, .v .str x0), (3, .own true 5 U1 .no x1), (4, .v U2 x2)] : Env)
abbrev e172 := fun x0 x1 x2 x3 => ([(0, .v .str x0), (3, .own true 5 U1 .no x1), (4, .v U2 x2), (11, .v .bool x3)] : Env)
abbrev e173 := fun x0 x1 x2 x3 => ([(0, .v .str x0), (3, .own true 5 U1 .no x1), (4, .v U2 x2), (29, .v .bool x3)] : Env)
abbrev e174 := fun x0 => ([(3, .own true 5 U1 .no x0)] : Env)
abbrev e175 := fun x0 x1 => ([(0, .v U1 x0), (9, .v .bool x1)] : Env)
abbrev e176 := fun x0 x1 => ([(0, .v U1 x0), (3, .v U2 x1)] : Env)
abbrev e177 := fun x0 x1 x2 => ([(0, .v U1 x0), (3, .v U2 x1), (11, .v .bool x2)] : Env)
abbrev e178 := fun x0 x1 x2 => ([(0, .v U1 x0), (3, .v U2 x1), (17, .v .bool x2)] : Env)
abbrev e179 := fun x0 => ([(0, .dead), (2, .v .bool x0), (3, .dead)] : Env)
abbrev e180 := fun x0 x1 => ([(0, .v U1 x0), (2, .dead), (3, .v U2 x1)] : Env)
abbrev e181 := fun x0 x1 => ([(0, .v .str x0), (6, .v .bool x1)] : Env)
abbrev e182 := fun x0 x1 => ([(0, .v .str x0), (14, .v .bool x1)] : Env)
abbrev e183 := fun x0 x1 x2 => ([(0, .v .str x0), (3, .v U2 x1), (18, .v .bool x2)] : Env)
abbrev e184 := fun x0 x1 x2 x3 => ([(0, .v U0 x0), (1, .v .str x1), (5, .v U2 x2), (9, .v .bool x3)] : Env)
abbrev e185 := fun x0 x1 x2 x3 => ([(0, .v U0 x0), (1, .v .str x1), (5, .v U2 x2), (17, .v .bool x3)] : Env)
abbrev e186 := fun x0 => ([(0, .dead), (1, .dead), (4, .v .bool x0), (5, .dead)] : Env)
abbrev e187 := fun x0 x1 x2 => ([(0, .v U0 x0), (1, .v .str x1), (4, .dead), (5, .v U2 x2)] : Env)
abbrev e188 := fun x0 x1 => ([(1, .loc U20 .no x0), (22, .v .bool x1)] : Env)
abbrev e189 := fun x0 x1 => ([(1, .loc U20 .no x0), (26, .v .bool x1)] : Env)
abbrev e190 := fun x0 x1 => ([(1, .loc U20 .no x0), (3, .v U2 x1)] : Env)
abbrev e191 := fun x0 x1 x2 => ([(1, .loc U20 .no x0), (3, .v U2 x1), (31, .v .bool x2)] : Env)
abbrev e192 := fun x0 x1 x2 x3 => ([(1, .loc U20 .no x0), (3, .v U2 x1), (4, .v U2 x2), (41, .v .bool x3)] : Env)
abbrev e193 := fun x0 => ([(1, .dead), (2, .v U2 x0), (3, .dead)] : Env)
abbrev e194 := fun x0 x1 => ([(1, .loc U20 .no x0), (2, .dead), (3, .v U2 x1)] : Env)
abbrev e195 := fun x0 x1 x2 => ([(1, .loc U20 .no x0), (3, .v U2 x1), (52, .v .bool x2)] : Env)
abbrev e196 := fun x0 x1 => ([(1, .loc U27 .no x0), (8, .v .bool x1)] : Env)
abbrev e197 := fun x0 x1 => ([(1, .loc U27 .no x0), (12, .v .bool x1)] : Env)
abbrev e198 := fun x0 x1 x2 => ([(1, .loc U27 .no x0), (3, .v U2 x1), (17, .v .bool x2)] : Env)
abbrev e199 := fun x0 x1 x2 x3 => ([(1, .loc U27 .no x0), (3, .v U2 x1), (4, .v U2 x2), (27, .v .bool x3)] : Env)
abbrev e200 := fun x0 x1 => ([(1, .loc U27 .no x0), (2, .dead), (3, .v U2 x1)] : Env)
abbrev e201 := fun x0 x1 x2 => ([(1, .loc U17 .no x0), (3, .v .bool x1), (18, .v .bool x2)] : Env)
abbrev e202 := fun x0 x1 x2 => ([(1, .loc U17 .no x0), (3, .v .bool x1), (29, .v .bool x2)] : Env)
abbrev e203 := fun x0 x1 => ([(1, .loc U17 .no x0), (34, .v .bool x1)] : Env)
abbrev e204 := fun x0 x1 => ([(1, .loc U17 .no x0), (37, .v .bool x1)] : Env)
abbrev e205 := fun x0 x1 => ([(1, .loc U17 .no x0), (41, .v .bool x1)] : Env)
abbrev e206 := fun x0 x1 x2 => ([(1, .loc U17 .no x0), (4, .v U2 x1), (46, .v .bool x2)] : Env)
abbrev e207 := fun x0 x1 x2 => ([(1, .loc U17 .no x0), (4, .v U2 x1), (54, .v .bool x2)] : Env)
abbrev e208 := fun x0 => ([(1, .dead), (2, .v U2 x0), (4, .dead)] : Env)
abbrev e209 := fun x0 x1 => ([(1, .loc U17 .no x0), (2, .dead), (4, .v U2 x1)] : Env)
abbrev e210 := fun x0 x1 => ([(0, .v U21 x0), (7, .v .bool x1)] : Env)
abbrev e211 := fun x0 x1 x2 => ([(0, .v U21 x0), (3, .v U2 x1), (11, .v .bool x2)] : Env)
abbrev e212 := fun x0 x1 x2 x3 => ([(0, .v U21 x0), (3, .v U2 x1), (4, .v U2 x2), (20, .v .bool x3)] : Env)
abbrev e213 := fun x0 x1 => ([(0, .v U21 x0), (2, .dead), (3, .v U2 x1)] : Env)
abbrev e214 := fun x0 x1 x2 => ([(0, .v U21 x0), (3, .v U2 x1), (15, .v .bool x2)] : Env)
abbrev e215 := fun x0 x1 x2 => ([(0, .v U21 x0), (3, .v U2 x1), (14, .v .bool x2)] : Env)
abbrev e216 := fun x0 x1 x2 => ([(0, .v U21 x0), (3, .v U2 x1), (21, .v .bool x2)] : Env)
abbrev e217 := fun x0 x1 x2 => ([(0, .v U21 x0), (5, .v U2 x1), (15, .v .bool x2)] : Env)
abbrev e218 := fun x0 => ([(0, .dead), (4, .own true 3 U2 .no x0), (5, .dead)] : Env)
abbrev e219 := fun x0 x1 => ([(0, .v U21 x0), (18, .v .bool x1)] : Env)
abbrev e220 := fun x0 => ([(0, .dead), (4, .own true 3 U2 .no x0)] : Env)
abbrev e221 := fun x0 x1 => ([(0, .v U21 x0), (6, .own true 3 U2 .no x1)] : Env)
abbrev e222 := fun x0 x1 => ([(6, .own true 3 U2 .no x0), (28, .v .bool x1)] : Env)
abbrev e223 := fun x0 => ([(6, .own true 3 U2 .no x0)] : Env)
abbrev e224 := fun x0 => ([(4, .ref 6 []), (6, .own true 3 U2 .no x0)] : Env)
abbrev e225 := fun x0 x1 => ([(0, .v U2 x0), (11, .v .bool x1)] : Env)
abbrev e226 := fun x0 x1 x2 x3 x4 => ([(1, .v U2 x0), (3, .loc U27 .no x1), (8, .v U2 x2), (9, .v .bool x3), (10, .v .str x4)] : Env)
abbrev e227 := fun x0 x1 x2 x3 x4 x5 => ([(1, .v U2 x0), (3, .loc U27 .no x1), (8, .v U2 x2), (9, .v .bool x3), (10, .v .str x4), (11, .v U2 x5)] : Env)
abbrev e228 := fun x0 x1 x2 x3 x4 x5 x6 => ([(1, .v U2 x0), (3, .loc U27 .no x1), (8, .v U2 x2), (9, .v .bool x3), (10, .v .str x4), (11, .v U2 x5), (19, .v .bool x6)] : Env)
abbrev e229 := fun x0 x1 x2 x3 x4 x5 x6 => ([(1, .v U2 x0), (3, .loc U27 .no x1), (8, .v U2 x2), (9, .v .bool x3), (10, .v .str x4), (11, .v U2 x5), (12, .loc U20 .no x6)] : Env)
abbrev e230 := fun x0 x1 x2 x3 x4 x5 x6 x7 => ([(1, .v U2 x0), (3, .loc U27 .no x1), (8, .v U2 x2), (9, .v .bool x3), (10, .v .str x4), (11, .v U2 x5), (12, .loc U20 .no x6), (43, .v .bool x7)] : Env)
abbrev e231 := fun x0 x1 x2 x3 x4 x5 x6 x7 => ([(1, .v U2 x0), (3, .loc U27 .no x1), (8, .v U2 x2), (9, .v .bool x3), (10, .v .str x4), (11, .v U2 x5), (12, .loc U20 .no x6), (51, .v .bool x7)] : Env)
abbrev e232 := fun x0 x1 x2 x3 x4 x5 => ([(1, .v .str x0), (2, .v .str x1), (3, .v U21 x2), (5, .loc U27 .no x3), (14, .own true 45 U15 .no x4), (15, .own true 3 U2 .no x5)] : Env)
abbrev e233 := fun x0 x1 x2 x3 x4 x5 x6 => ([(1, .v .str x0), (2, .v .str x1), (3, .v U21 x2), (5, .loc U27 .no x3), (14, .own true 45 U15 .no x4), (15, .own true 3 U2 .no x5), (16, .v U2 x6)] : Env)
abbrev e234 := fun x0 x1 x2 x3 x4 x5 x6 x7 => ([(1, .v .str x0), (2, .v .str x1), (3, .v U21 x2), (5, .loc U27 .no x3), (14, .own true 45 U15 .no x4), (15, .own true 3 U2 .no x5), (16, .v U2 x6), (37, .v .bool x7)] : Env)
abbrev e235 := fun x0 x1 x2 x3 x4 x5 x6 x7 => ([(1, .v .str x0), (2, .v .str x1), (3, .v U21 x2), (5, .loc U27 .no x3), (14, .own true 45 U15 .no x4), (15, .own true 3 U2 .no x5), (16, .v U2 x6), (44, .v .bool x7)] : Env)
abbrev e236 := fun x0 x1 x2 x3 x4 x5 x6 x7 => ([(1, .v .str x0), (2, .v .str x1), (3, .v U21 x2), (5, .loc U27 .no x3), (14, .own true 45 U15 .no x4), (15, .own true 3 U2 .no x5), (16, .v U2 x6), (17, .v .str x7)] : Env)
abbrev e237 := fun x0 x1 x2 x3 x4 x5 x6 x7 x8 => ([(1, .v .str x0), (2, .v .str x1), (3, .v U21 x2), (5, .loc U27 .no x3), (14, .own true 45 U15 .no x4), (15, .own true 3 U2 .no x5), (16, .v U2 x6), (17, .v .str x7), (54, .v .bool x8)] : Env)
abbrev e238 := fun x0 x1 x2 x3 x4 x5 x6 x7 x8 => ([(1, .v .str x0), (2, .v .str x1), (3, .v U21 x2), (5, .loc U27 .no x3), (14, .own true 45 U15 .no x4), (15, .own true 3 U2 .no x5), (16, .v U2 x6), (18, .v U2 x7), (19, .v .bool x8)] : Env)
abbrev e239 := fun x0 x1 x2 x3 x4 x5 x6 x7 x8 => ([(1, .v .str x0), (2, .v .str x1), (3, .v U21 x2), (5, .loc U27 .no x3), (14, .own true 45 U15 .no x4), (15, .own true 3 U2 .no x5), (16, .v U2 x6), (18, .v U2 x7), (69, .v .bool x8)] : Env)
abbrev e240 := fun x0 x1 x2 => ([(0, .v U16 x0), (1, .v U29 x1), (4, .loc U15 .no x2)] : Env)
abbrev e241 := fun x0 x1 x2 x3 => ([(0, .v U16 x0), (1, .v U29 x1), (4, .loc U15 .no x2), (9, .v .bool x3)] : Env)
abbrev e242 := fun x0 x1 x2 x3 x4 => ([(0, .v U16 x0), (1, .v U29 x1), (4, .loc U15 .no x2), (5, .loc U15 .no x3), (6, .v U2 x4)] : Env)
abbrev e243 := fun x0 x1 x2 x3 x4 x5 => ([(0, .v U16 x0), (1, .v U29 x1), (4, .loc U15 .no x2), (5, .loc U15 .no x3), (6, .v U2 x4), (17, .v .bool x5)] : Env)
abbrev e244 := fun x0 x1 x2 x3 x4 x5 => ([(0, .v U16 x0), (1, .v U29 x1), (4, .loc U15 .no x2), (5, .loc U15 .no x3), (6, .v U2 x4), (27, .v .bool x5)] : Env)
abbrev e245 := fun x0 x1 => ([(4, .loc U15 .no x0), (5, .loc U15 .no x1)] : Env)
abbrev e246 := fun x0 x1 x2 x3 x4 x5 => ([(1, .v .str x0), (2, .v .str x1), (3, .v U21 x2), (4, .v U21 x3), (5, .loc U27 .no x4), (10, .loc U15 .no x5)] : Env)
abbrev e247 := fun x0 x1 x2 => ([(10, .loc U15 .no x0), (12, .own true 45 U15 .no x1), (13, .v U2 x2)] : Env)
abbrev e248 := fun x0 x1 x2 x3 => ([(10, .loc U15 .no x0), (12, .own true 45 U15 .no x1), (13, .v U2 x2), (24, .v .bool x3)] : Env)
abbrev e249 := fun x0 x1 => ([(10, .loc U15 .no x0), (11, .v U2 x1)] : Env)
abbrev e250 := fun x0 x1 => ([(10, .loc U15 .no x0), (11, .v U2 x1), (12, .dead)] : Env)
abbrev e251 := fun x0 x1 => ([(10, .loc U15 .no x0), (11, .dead), (12, .own true 45 U15 .no x1)] : Env)
abbrev e252 := fun x0 x1 x2 => ([(10, .loc U15 .no x0), (12, .own true 45 U15 .no x1), (29, .v .bool x2)] : Env)
abbrev e253 := fun x0 x1 x2 x3 => ([(10, .loc U15 .no x0), (12, .own true 45 U15 .no x1), (13, .v U2 x2), (26, .v .bool x3)] : Env)
abbrev e254 := fun x0 x1 x2 => ([(10, .loc U15 .no x0), (12, .own true 45 U15 .no x1), (31, .v .bool x2)] : Env)
abbrev e255 := fun x0 x1 x2 => ([(10, .loc U15 .no x0), (12, .own true 45 U15 .no x1), (14, .loc U15 .no x2)] : Env)
abbrev e256 := fun x0 x1 x2 x3 => ([(10, .loc U15 .no x0), (12, .own true 45 U15 .no x1), (14, .loc U15 .no x2), (15, .v U2 x3)] : Env)
abbrev e257 := fun x0 x1 x2 x3 x4 => ([(10, .loc U15 .no x0), (12, .own true 45 U15 .no x1), (14, .loc U15 .no x2), (15, .v U2 x3), (39, .v .bool x4)] : Env)
abbrev e258 := fun x0 x1 x2 x3 x4 => ([(10, .loc U15 .no x0), (12, .own true 45 U15 .no x1), (14, .loc U15 .no x2), (15, .v U2 x3), (49, .v .bool x4)] : Env)
abbrev e259 := fun x0 x1 => ([(10, .loc U15 .no x0), (14, .loc U15 .no x1)] : Env)
abbrev e260 := fun x0 x1 => ([(0, .v U16 x0), (1, .v U16 x1)] : Env)
abbrev e261 := fun x0 x1 x2 => ([(0, .v U16 x0), (1, .v U16 x1), (10, .v .bool x2)] : Env)
abbrev e262 := fun x0 => ([(0, .dead), (1, .dead), (4, .v .bool x0)] : Env)
abbrev e263 := fun x0 x1 x2 => ([(0, .v U16 x0), (1, .v U16 x1), (5, .v U2 x2)] : Env)
abbrev e264 := fun x0 x1 x2 x3 => ([(0, .v U16 x0), (1, .v U16 x1), (5, .v U2 x2), (14, .v .bool x3)] : Env)
abbrev e265 := fun x0 x1 x2 x3 => ([(0, .v U16 x0), (1, .v U16 x1), (5, .v U2 x2), (25, .v .bool x3)] : Env)
abbrev e266 := fun x0 x1 x2 => ([(0, .v U16 x0), (1, .v U16 x1), (4, .dead), (5, .v U2 x2)] : Env)
abbrev e267 := fun x0 x1 x2 => ([(2, .loc U27 .no x0), (3, .loc U32 .no x1), (24, .v .bool x2)] : Env)
abbrev e268 := fun x0 => ([(2, .dead), (3, .dead), (4, .v .bool x0)] : Env)
abbrev e269 := fun x0 x1 x2 x3 x4 x5 => ([(2, .loc U27 .no x0), (3, .loc U32 .no x1), (5, .v U16 x2), (6, .v U2 x3), (7, .own true 45 U15 .no x4), (8, .v U2 x5)] : Env)
abbrev e270 := fun x0 x1 x2 x3 x4 x5 x6 x7 => ([(2, .loc U27 .no x0), (3, .loc U32 .no x1), (5, .v U16 x2), (6, .v U2 x3), (7, .own true 45 U15 .no x4), (8, .v U2 x5), (9, .loc U15 .no x6), (10, .v U2 x7)] : Env)
abbrev e271 := fun x0 x1 x2 x3 x4 x5 x6 x7 => ([(5, .v U16 x0), (6, .v U2 x1), (7, .own true 45 U15 .no x2), (8, .v U2 x3), (9, .loc U15 .no x4), (10, .v U2 x5), (11, .loc U15 .no x6), (12, .v U2 x7)] : Env)
variable {N : Nat} {cl : Cal} {R : Type} {K : KE R}
def g31_0 (x0 : V6) (x1 : Int) (k0 : V6 → Int → Option R) : Option R :=
k0 x0 x1
theorem t31_0 (x0 x1) : exec cl N c31_0 (e0 x0 x1) K = (g31_0 x0 x1 (fun y0 y1 => K .normal (e0 y0 y1))) := by
  kernel_rfl
def g31_1 (x0 : V6) (x1 : Int) (k0 : V6 → Int → Int → Option R) : Option R :=
k0 x0 x1 (0 : Int)
theorem t31_1 (x0 x1) : exec cl N c31_1 (e0 x0 x1) K = (g31_1 x0 x1 (fun y0 y1 y2 => K .normal [(0, .v U0 y0), (1, .v U2 y1), (5, .v U2 y2)])) := by
  kernel_rfl
def g31_2 (x0 : V6) (x1 x2 : Int) (k0 : V6 → Int → Int → Int → Option R) : Option R :=
k0 x0 x1 x2 (0 : Int)
theorem t31_2 (x0 x1 x2) : exec cl N c31_2 [(0, .v U0 x0), (1, .v U2 x1), (5, .v U2 x2)] K = (g31_2 x0 x1 x2 (fun y0 y1 y2 y3 => K .normal (e1 y0 y1 y2 y3))) := by
  kernel_rfl
theorem kp31_0 (x0 x1 x2 x3) : keep [0, 1, 5, 6] (e1 x0 x1 x2 x3) = (e1 x0 x1 x2 x3) := by kernel_rfl
def g31_3 (x0 : V6) (x1 x2 x3 : Int) (k0 : V6 → Int → Int → Int → Bool → Option R) : Option R :=
brB (decide (x3 < (x0.length : Int))) (k0 x0 x1 x2 x3 (decide (x2 ≤ x1))) (k0 x0 x1 x2 x3 false)
theorem t31_3 (x0 x1 x2 x3) : exec cl N c31_3 (e1 x0 x1 x2 x3) K = (g31_3 x0 x1 x2 x3 (fun y0 y1 y2 y3 y4 => K .normal (e2 y0 y1 y2 y3 y4))) := by
  kernel_rfl
theorem kp31_1 (x0 x1 x2 x3 x4) : keep [0, 1, 5, 6] (e2 x0 x1 x2 x3 x4) = (e1 x0 x1 x2 x3) := by kernel_rfl
theorem hb31_0 (x0 x1 x2 x3 x4) : boolOf? (ent (e2 x0 x1 x2 x3 x4) (.t 15)) = some x4 := by kernel_rfl
def g31_5 (x0 : V6) (x1 x2 x3 : Int) (k0 : V6 → Int → Int → Int → Option R) : Option R :=
if 0 ≤ x3 ∧ x3 < (x0.length : Int) then
k0 x0 x1 (IntKind.i64.wrap ((IntKind.i64.wrap (x2 + (1 : Int))) + ((x0.getD x3.toNat []).length : Int))) x3
else none
theorem t31_5 (x0 x1 x2 x3) : exec cl N c31_5 (e1 x0 x1 x2 x3) K = (g31_5 x0 x1 x2 x3 (fun y0 y1 y2 y3 => K .normal (e1 y0 y1 y2 y3))) := by
  kernel_rfl
def g31_7 (x0 : V6) (x1 x2 x3 : Int) (k0 : V6 → Int → Int → Int → Option R) : Option R :=
k0 x0 x1 x2 (IntKind.i64.wrap (x3 + (1 : Int)))
theorem t31_7 (x0 x1 x2 x3) : exec cl N c31_7 (e1 x0 x1 x2 x3) K = (g31_7 x0 x1 x2 x3 (fun y0 y1 y2 y3 => K .normal (e1 y0 y1 y2 y3))) := by
  kernel_rfl
def g31_8 (x0 : V6) (x1 x2 x3 : Int) (k0 : V6 → Int → Int → Int → Option R) (k1 : V6 → Int → Int → Int → Option R) : Option R :=
(g31_3 x0 x1 x2 x3 (fun y0 y1 y2 y3 y4 => brB y4 ((fun y0 y1 y2 y3 => (g31_5 y0 y1 y2 y3 (fun y0 y1 y2 y3 => (g31_7 y0 y1 y2 y3 k0)))) y0 y1 y2 y3) (k1 y0 y1 y2 y3)))
theorem t31_8 (x0 x1 x2 x3) : exec cl N c31_8 (e1 x0 x1 x2 x3) K = (g31_8 x0 x1 x2 x3 (fun y0 y1 y2 y3 => K .normal (e1 y0 y1 y2 y3)) (fun y0 y1 y2 y3 => K (.exit 0) (e1 y0 y1 y2 y3))) := by
  simp only [c31_8, exec_seq, seqK_normal, seqK_exit, seqK_ret, t31_3, c31_4, exec_out, exec_cond', hb31_0, Option.bind_some, brB_true, brB_false, exec_skip, exec_exit, kp31_1, c31_6, exec_block, t31_5, blockK_normal, blockK_ret, blockK_eq, kp31_0, t31_7]
  rfl
def l31_9 {R : Type} (k0 : V6 → Int → Int → Int → Option R) : Nat → V6 → Int → Int → Int → Option R
  | 0, _, _, _, _ => none
  | m + 1, x0, x1, x2, x3 => (g31_8 x0 x1 x2 x3 (fun y0 y1 y2 y3 => l31_9 k0 m y0 y1 y2 y3) k0)
theorem lt31_9 : ∀ (m) (x0 x1 x2 x3), iter [0, 1, 5, 6] (fun env K => exec cl N c31_8 env K) K m (e1 x0 x1 x2 x3) = l31_9 (fun y0 y1 y2 y3 => K (.exit 0) (e1 y0 y1 y2 y3)) m x0 x1 x2 x3 := by
  intro m
  induction m with
  | zero => intros; rfl
  | succ m ih =>
    intro x0 x1 x2 x3
    simp only [iter_succ, t31_8, loopK_normal, loopK_exit, loopK_ret, kp31_0, ih]
    rfl
theorem kp31_2 (x0 x1 x2 x3) : keep [5] (e1 x0 x1 x2 x3) = [(5, .v U2 x2)] := by kernel_rfl
def g31_9 (N : Nat) (x0 : V6) (x1 x2 x3 : Int) (k0 : Int → Option R) : Option R :=
l31_9 (fun y0 y1 y2 y3 => k0 y2) N x0 x1 x2 x3
theorem t31_9 (x0 x1 x2 x3) : exec cl N c31_9 (e1 x0 x1 x2 x3) K = (g31_9 N x0 x1 x2 x3 (fun y0 => K (.exit 0) [(5, .v U2 y0)])) := by
  simp only [c31_9, exec_out, exec_loop, kp31_0, lt31_9, kp31_2]
  rfl
theorem kp31_3 (x0) : keep [5] [(5, .v U2 x0)] = [(5, .v U2 x0)] := by kernel_rfl
def g31_11 (x0 : Int) (k0 : Int → Option R) : Option R :=
k0 x0
theorem t31_11 (x0) : exec cl N c31_11 [(5, .v U2 x0)] K = (g31_11 x0 (fun y0 => K .normal [(4, .v U2 y0)])) := by
  kernel_rfl
def g31_12 (N : Nat) (x0 : V6) (x1 : Int) (k0 : Int → Option R) : Option R :=
(g31_0 x0 x1 (fun y0 y1 => (g31_1 y0 y1 (fun y0 y1 y2 => (g31_2 y0 y1 y2 (fun y0 y1 y2 y3 => (g31_9 N y0 y1 y2 y3 (fun y0 => ((fun y0 => (g31_11 y0 (fun y0 => (k0 y0)))) y0)))))))))
theorem t31_12 (x0 x1) : exec cl N c31_12 (e0 x0 x1) K = (g31_12 N x0 x1 (fun y0 => K .ret [(4, .v U2 y0)])) := by
  simp only [c31_12, exec_seq, seqK_normal, seqK_exit, seqK_ret, t31_0, t31_1, t31_2, c31_10, exec_out, exec_block, t31_9, blockK_normal, blockK_ret, blockK_eq, kp31_3, t31_11, exec_ret]
  rfl
theorem rk31_0 (y0) : retK d31 .ret [(4, .v U2 y0)] = some [.v U2 y0] := by kernel_rfl
def g31 (N : Nat) (x0 : V6) (x1 : Int) (k : Int → Option R) : Option R :=
(g31_12 N x0 x1 (fun y0 => k y0))
theorem gen31 {N : Nat} {cl : Cal} (x0 : V6) (x1 : Int) {R : Type} (k : List E → Option R) : exec cl N c31 (params 0 [.v U0 x0, .v U2 x1]) (fun e env => (retK d31 e env).bind k) = g31 N x0 x1 (fun (r0 : Int) => k [.v U2 r0]) := by
  have e0 : params 0 [.v U0 x0, .v U2 x1] = (e0 x0 x1) := by kernel_rfl
  simp only [c31, e0, t31_12, rk31_0, Option.bind_some]
  rfl
def ctr31 (S : V6 → Int → Option (Int)) : Ctr := { A := V6 × Int × Unit, B := Int, f := 31, enc := fun a => [.v U0 a.1, .v U2 a.2.1], dec := (decC (decV U0) (decC (decV U2) dec0)), S := fun a => S a.1 a.2.1, ent := fun b => [.v U2 b], ok := (decV_cons (T := U0) (decV_cons (T := U2) (fun es b h => dec0_some h))) }
def S31 (N : Nat) (x0 : V6) (x1 : Int) : Option (Int) := g31 N x0 x1 (fun (r0 : Int) => some (r0))
def g14_0 (x0 : V28) (k0 : V28 → Option R) : Option R :=
k0 x0
theorem t14_0 (x0) : exec cl N c14_0 [(0, .v U27 x0)] K = (g14_0 x0 (fun y0 => K .normal [(1, .loc U27 .no y0)])) := by
  kernel_rfl
def g14_1 (x0 : V28) (k0 : V28 → Int → Option R) : Option R :=
k0 x0 (x0.1.length : Int)
theorem t14_1 (x0) : exec cl N c14_1 [(1, .loc U27 .no x0)] K = (g14_1 x0 (fun y0 y1 => K .normal (e3 y0 y1))) := by
  kernel_rfl
def g14_2 (x0 : V28) (x1 : Int) (k0 : V28 → Int → Int → Option R) : Option R :=
k0 x0 x1 (0 : Int)
theorem t14_2 (x0 x1) : exec cl N c14_2 (e3 x0 x1) K = (g14_2 x0 x1 (fun y0 y1 y2 => K .normal (e4 y0 y1 y2))) := by
  kernel_rfl
theorem kp14_0 (x0 x1 x2) : keep [1, 3, 4] (e4 x0 x1 x2) = (e4 x0 x1 x2) := by kernel_rfl
def g14_3 (x0 : V28) (x1 x2 : Int) (k0 : V28 → Int → Int → Bool → Option R) : Option R :=
brB (decide (x2 < (x0.2.1.length : Int))) (k0 x0 x1 x2 (decide (x2 < (50 : Int)))) (k0 x0 x1 x2 false)
theorem t14_3 (x0 x1 x2) : exec cl N c14_3 (e4 x0 x1 x2) K = (g14_3 x0 x1 x2 (fun y0 y1 y2 y3 => K .normal (e5 y0 y1 y2 y3))) := by
  kernel_rfl
theorem kp14_1 (x0 x1 x2 x3) : keep [1, 3, 4] (e5 x0 x1 x2 x3) = (e4 x0 x1 x2) := by kernel_rfl
theorem hb14_0 (x0 x1 x2 x3) : boolOf? (ent (e5 x0 x1 x2 x3) (.t 16)) = some x3 := by kernel_rfl
def g14_5 (S31 : V6 → Int → Option (Int)) (x0 : V28) (x1 x2 : Int) (k0 : V28 → Int → Int → Option R) : Option R :=
if 0 ≤ x2 ∧ x2 < (x0.2.1.length : Int) then
(S31 ((x0.2.1.getD x2.toNat ((0 : Int), ((0 : Int), ([], ())))).2.2.1) (1500 : Int)).bind fun r21 =>
k0 x0 (IntKind.i64.wrap (x1 + r21)) x2
else none
theorem t14_5 (S31) (h31 : (ctr31 S31).holds cl) (x0 x1 x2) : exec cl N c14_5 (e4 x0 x1 x2) K = (g14_5 S31 x0 x1 x2 (fun y0 y1 y2 => K .normal (e4 y0 y1 y2))) := by
  rw [← put_eq h31]
  kernel_rfl
def g14_7 (x0 : V28) (x1 x2 : Int) (k0 : V28 → Int → Int → Option R) : Option R :=
k0 x0 x1 (IntKind.i64.wrap (x2 + (1 : Int)))
theorem t14_7 (x0 x1 x2) : exec cl N c14_7 (e4 x0 x1 x2) K = (g14_7 x0 x1 x2 (fun y0 y1 y2 => K .normal (e4 y0 y1 y2))) := by
  kernel_rfl
def g14_8 (S31 : V6 → Int → Option (Int)) (x0 : V28) (x1 x2 : Int) (k0 : V28 → Int → Int → Option R) (k1 : V28 → Int → Int → Option R) : Option R :=
(g14_3 x0 x1 x2 (fun y0 y1 y2 y3 => brB y3 ((fun y0 y1 y2 => (g14_5 S31 y0 y1 y2 (fun y0 y1 y2 => (g14_7 y0 y1 y2 k0)))) y0 y1 y2) (k1 y0 y1 y2)))
theorem t14_8 (S31) (h31 : (ctr31 S31).holds cl) (x0 x1 x2) : exec cl N c14_8 (e4 x0 x1 x2) K = (g14_8 S31 x0 x1 x2 (fun y0 y1 y2 => K .normal (e4 y0 y1 y2)) (fun y0 y1 y2 => K (.exit 0) (e4 y0 y1 y2))) := by
  simp only [c14_8, exec_seq, seqK_normal, seqK_exit, seqK_ret, t14_3, c14_4, exec_out, exec_cond', hb14_0, Option.bind_some, brB_true, brB_false, exec_skip, exec_exit, kp14_1, c14_6, exec_block, t14_5 S31 h31, blockK_normal, blockK_ret, blockK_eq, kp14_0, t14_7]
  rfl
def l14_9 {R : Type} (S31 : V6 → Int → Option (Int)) (k0 : V28 → Int → Int → Option R) : Nat → V28 → Int → Int → Option R
  | 0, _, _, _ => none
  | m + 1, x0, x1, x2 => (g14_8 S31 x0 x1 x2 (fun y0 y1 y2 => l14_9 S31 k0 m y0 y1 y2) k0)
theorem lt14_9 (S31) (h31 : (ctr31 S31).holds cl) : ∀ (m) (x0 x1 x2), iter [1, 3, 4] (fun env K => exec cl N c14_8 env K) K m (e4 x0 x1 x2) = l14_9 S31 (fun y0 y1 y2 => K (.exit 0) (e4 y0 y1 y2)) m x0 x1 x2 := by
  intro m
  induction m with
  | zero => intros; rfl
  | succ m ih =>
    intro x0 x1 x2
    simp only [iter_succ, t14_8 S31 h31, loopK_normal, loopK_exit, loopK_ret, kp14_0, ih]
    rfl
theorem kp14_2 (x0 x1 x2) : keep [1, 3] (e4 x0 x1 x2) = (e3 x0 x1) := by kernel_rfl
def g14_9 (N : Nat) (S31 : V6 → Int → Option (Int)) (x0 : V28) (x1 x2 : Int) (k0 : V28 → Int → Option R) : Option R :=
l14_9 S31 (fun y0 y1 y2 => k0 y0 y1) N x0 x1 x2
theorem t14_9 (S31) (h31 : (ctr31 S31).holds cl) (x0 x1 x2) : exec cl N c14_9 (e4 x0 x1 x2) K = (g14_9 N S31 x0 x1 x2 (fun y0 y1 => K (.exit 0) (e3 y0 y1))) := by
  simp only [c14_9, exec_out, exec_loop, kp14_0, lt14_9 S31 h31, kp14_2]
  rfl
theorem kp14_3 (x0 x1) : keep [1, 3] (e3 x0 x1) = (e3 x0 x1) := by kernel_rfl
def g14_11 (x0 : V28) (x1 : Int) (k0 : Bool → Option R) : Option R :=
brB (decide ((x0.2.1.length : Int) ≤ (40 : Int))) (k0 (decide (x1 ≤ (1500 : Int)))) (k0 false)
theorem t14_11 (x0 x1) : exec cl N c14_11 (e3 x0 x1) K = (g14_11 x0 x1 (fun y0 => K .normal [(2, .v .bool y0)])) := by
  kernel_rfl
def g14_12 (N : Nat) (S31 : V6 → Int → Option (Int)) (x0 : V28) (k0 : Bool → Option R) : Option R :=
(g14_0 x0 (fun y0 => (g14_1 y0 (fun y0 y1 => (g14_2 y0 y1 (fun y0 y1 y2 => (g14_9 N S31 y0 y1 y2 (fun y0 y1 => ((fun y0 y1 => (g14_11 y0 y1 (fun y0 => (k0 y0)))) y0 y1)))))))))
theorem t14_12 (S31) (h31 : (ctr31 S31).holds cl) (x0) : exec cl N c14_12 [(0, .v U27 x0)] K = (g14_12 N S31 x0 (fun y0 => K .ret [(2, .v .bool y0)])) := by
  simp only [c14_12, exec_seq, seqK_normal, seqK_exit, seqK_ret, t14_0, t14_1, t14_2, c14_10, exec_out, exec_block, t14_9 S31 h31, blockK_normal, blockK_ret, blockK_eq, kp14_3, t14_11, exec_ret]
  rfl
theorem rk14_0 (y0) : retK d14 .ret [(2, .v .bool y0)] = some [.v .bool y0] := by kernel_rfl
def g14 (N : Nat) (S31 : V6 → Int → Option (Int)) (x0 : V28) (k : Bool → Option R) : Option R :=
(g14_12 N S31 x0 (fun y0 => k y0))
theorem gen14 {N : Nat} {cl : Cal} (S31 : V6 → Int → Option (Int)) (h31 : (ctr31 S31).holds cl) (x0 : V28) {R : Type} (k : List E → Option R) : exec cl N c14 (params 0 [.v U27 x0]) (fun e env => (retK d14 e env).bind k) = g14 N S31 x0 (fun (r0 : Bool) => k [.v .bool r0]) := by
  have e0 : params 0 [.v U27 x0] = [(0, .v U27 x0)] := by kernel_rfl
  simp only [c14, e0, t14_12 S31 h31, rk14_0, Option.bind_some]
  rfl
def ctr14 (S : V28 → Option (Bool)) : Ctr := { A := V28 × Unit, B := Bool, f := 14, enc := fun a => [.v U27 a.1], dec := (decC (decV U27) dec0), S := fun a => S a.1, ent := fun b => [.v .bool b], ok := (decV_cons (T := U27) (fun es b h => dec0_some h)) }
def S14 (N : Nat) (x0 : V28) : Option (Bool) := g14 N (S31 N) x0 (fun (r0 : Bool) => some (r0))
def g7_0 (x0 : V20) (x1 : Int) (k0 : V20 → Int → Option R) : Option R :=
k0 x0 x1
theorem t7_0 (x0 x1) : exec cl N c7_0 (e6 x0 x1) K = (g7_0 x0 x1 (fun y0 y1 => K .normal (e6 y0 y1))) := by
  kernel_rfl
def g7_1 (x0 : V20) (x1 : Int) (k0 : V20 → Bool → Option R) : Option R :=
k0 x0 (decide ((x0.length : Int) > x1))
theorem t7_1 (x0 x1) : exec cl N c7_1 (e6 x0 x1) K = (g7_1 x0 x1 (fun y0 y1 => K .normal (e7 y0 y1))) := by
  kernel_rfl
def g7_2 (x0 : V20) (x1 : Bool) (k0 : Bool → Option R) : Option R :=
k0 false
theorem t7_2 (x0 x1) : exec cl N c7_2 (e7 x0 x1) K = (g7_2 x0 x1 (fun y0 => K .normal [(4, .v .bool y0)])) := by
  kernel_rfl
theorem kp7_0 (x0) : keep [0, 4] [(4, .v .bool x0)] = [(0, .dead), (4, .v .bool x0)] := by kernel_rfl
theorem kp7_1 (x0 x1) : keep [0, 4] (e7 x0 x1) = (e8 x0) := by kernel_rfl
theorem hb7_0 (x0 x1) : boolOf? (ent (e7 x0 x1) (.t 9)) = some x1 := by kernel_rfl
def g7_4 (x0 : V20) (k0 : V20 → Int → Option R) : Option R :=
k0 x0 (0 : Int)
theorem t7_4 (x0) : exec cl N c7_4 (e8 x0) K = (g7_4 x0 (fun y0 y1 => K .normal (e9 y0 y1))) := by
  kernel_rfl
theorem kp7_2 (x0 x1) : keep [0, 5] (e9 x0 x1) = (e9 x0 x1) := by kernel_rfl
def g7_5 (x0 : V20) (x1 : Int) (k0 : V20 → Int → Bool → Option R) : Option R :=
k0 x0 x1 (decide (x1 < (x0.length : Int)))
theorem t7_5 (x0 x1) : exec cl N c7_5 (e9 x0 x1) K = (g7_5 x0 x1 (fun y0 y1 y2 => K .normal (e10 y0 y1 y2))) := by
  kernel_rfl
theorem kp7_3 (x0 x1 x2) : keep [0, 5] (e10 x0 x1 x2) = (e9 x0 x1) := by kernel_rfl
theorem hb7_1 (x0 x1 x2) : boolOf? (ent (e10 x0 x1 x2) (.t 13)) = some x2 := by kernel_rfl
def g7_7 (x0 : V20) (x1 : Int) (k0 : V20 → Int → Bool → Option R) : Option R :=
if 0 ≤ x1 ∧ x1 < (x0.length : Int) then
k0 x0 x1 (decide ((((x0.getD x1.toNat ((0 : Int), ((0 : Int), ([], ())))).2.2.1).length : Int) > (40 : Int)))
else none
theorem t7_7 (x0 x1) : exec cl N c7_7 (e9 x0 x1) K = (g7_7 x0 x1 (fun y0 y1 y2 => K .normal (e11 y0 y1 y2))) := by
  kernel_rfl
def g7_8 (x0 : V20) (x1 : Int) (x2 : Bool) (k0 : Bool → Option R) : Option R :=
k0 false
theorem t7_8 (x0 x1 x2) : exec cl N c7_8 (e11 x0 x1 x2) K = (g7_8 x0 x1 x2 (fun y0 => K .normal [(4, .v .bool y0)])) := by
  kernel_rfl
theorem kp7_4 (x0) : keep [0, 4, 5] [(4, .v .bool x0)] = (e12 x0) := by kernel_rfl
theorem kp7_5 (x0 x1 x2) : keep [0, 4, 5] (e11 x0 x1 x2) = (e13 x0 x1) := by kernel_rfl
theorem hb7_2 (x0 x1 x2) : boolOf? (ent (e11 x0 x1 x2) (.t 22)) = some x2 := by kernel_rfl
theorem kp7_6 (x0) : keep [0, 4, 5] (e12 x0) = (e12 x0) := by kernel_rfl
theorem kp7_7 (x0 x1) : keep [0, 4, 5] (e13 x0 x1) = (e13 x0 x1) := by kernel_rfl
def g7_11 (x0 : V20) (x1 : Int) (k0 : V20 → Int → Option R) : Option R :=
k0 x0 (IntKind.i64.wrap (x1 + (1 : Int)))
theorem t7_11 (x0 x1) : exec cl N c7_11 (e13 x0 x1) K = (g7_11 x0 x1 (fun y0 y1 => K .normal (e9 y0 y1))) := by
  kernel_rfl
def g7_12 (x0 : V20) (x1 : Int) (k0 : Bool → Option R) (k1 : V20 → Int → Option R) (k2 : V20 → Int → Option R) : Option R :=
(g7_5 x0 x1 (fun y0 y1 y2 => brB y2 ((fun y0 y1 => (g7_7 y0 y1 (fun y0 y1 y2 => brB y2 (g7_8 y0 y1 y2 (fun y0 => ((fun y0 => (k0 y0)) y0))) (g7_11 y0 y1 k1)))) y0 y1) (k2 y0 y1)))
theorem t7_12 (x0 x1) : exec cl N c7_12 (e9 x0 x1) K = (g7_12 x0 x1 (fun y0 => K .ret (e12 y0)) (fun y0 y1 => K .normal (e9 y0 y1)) (fun y0 y1 => K (.exit 0) (e9 y0 y1))) := by
  simp only [c7_12, exec_seq, seqK_normal, seqK_exit, seqK_ret, t7_5, c7_6, exec_out, exec_cond', hb7_1, Option.bind_some, brB_true, brB_false, exec_skip, exec_exit, kp7_3, c7_10, exec_block, t7_7, c7_9, hb7_2, t7_8, exec_ret, kp7_4, kp7_5, blockK_normal, blockK_ret, blockK_eq, kp7_6, kp7_7, t7_11]
  rfl
def l7_13 {R : Type} (k0 : Bool → Option R) (k1 : V20 → Int → Option R) : Nat → V20 → Int → Option R
  | 0, _, _ => none
  | m + 1, x0, x1 => (g7_12 x0 x1 k0 (fun y0 y1 => l7_13 k0 k1 m y0 y1) k1)
theorem lt7_13 : ∀ (m) (x0 x1), iter [0, 5] (fun env K => exec cl N c7_12 env K) K m (e9 x0 x1) = l7_13 (fun y0 => K .ret (e12 y0)) (fun y0 y1 => K (.exit 0) (e9 y0 y1)) m x0 x1 := by
  intro m
  induction m with
  | zero => intros; rfl
  | succ m ih =>
    intro x0 x1
    simp only [iter_succ, t7_12, loopK_normal, loopK_exit, loopK_ret, kp7_2, ih]
    rfl
theorem kp7_8 (x0) : keep [4] (e12 x0) = [(4, .v .bool x0)] := by kernel_rfl
theorem kp7_9 (x0 x1) : keep [4] (e9 x0 x1) = [(4, .dead)] := by kernel_rfl
def g7_13 (N : Nat) (x0 : V20) (x1 : Int) (k0 : Bool → Option R) (k1 : Option R) : Option R :=
l7_13 (fun y0 => k0 y0) (fun y0 y1 => k1) N x0 x1
theorem t7_13 (x0 x1) : exec cl N c7_13 (e9 x0 x1) K = (g7_13 N x0 x1 (fun y0 => K .ret [(4, .v .bool y0)]) (K (.exit 0) [(4, .dead)])) := by
  simp only [c7_13, exec_out, exec_loop, kp7_2, lt7_13, kp7_8, kp7_9]
  rfl
theorem kp7_10 (x0) : keep [4] [(4, .v .bool x0)] = [(4, .v .bool x0)] := by kernel_rfl
theorem kp7_11 : keep [4] [(4, .dead)] = [(4, .dead)] := by kernel_rfl
def g7_15 (k0 : Bool → Option R) : Option R :=
k0 true
theorem t7_15 : exec cl N c7_15 [(4, .dead)] K = (g7_15 (fun y0 => K .normal [(4, .v .bool y0)])) := by
  kernel_rfl
def g7_16 (N : Nat) (x0 : V20) (x1 : Int) (k0 : Bool → Option R) (k1 : Bool → Option R) : Option R :=
(g7_0 x0 x1 (fun y0 y1 => (g7_1 y0 y1 (fun y0 y1 => brB y1 (g7_2 y0 y1 (fun y0 => ((fun y0 => (k0 y0)) y0))) ((fun y0 => (g7_4 y0 (fun y0 y1 => (g7_13 N y0 y1 (fun y0 => (k1 y0)) (g7_15 (fun y0 => (k1 y0))))))) y0)))))
theorem t7_16 (x0 x1) : exec cl N c7_16 (e6 x0 x1) K = (g7_16 N x0 x1 (fun y0 => K .ret [(0, .dead), (4, .v .bool y0)]) (fun y0 => K .ret [(4, .v .bool y0)])) := by
  simp only [c7_16, exec_seq, seqK_normal, seqK_exit, seqK_ret, t7_0, t7_1, c7_3, exec_out, exec_cond', hb7_0, Option.bind_some, brB_true, brB_false, t7_2, exec_ret, exec_skip, kp7_0, kp7_1, t7_4, c7_14, exec_block, t7_13, blockK_normal, blockK_ret, blockK_eq, kp7_10, kp7_11, t7_15]
  rfl
theorem rk7_0 (y0) : retK d7 .ret [(0, .dead), (4, .v .bool y0)] = some [.v .bool y0] := by kernel_rfl
theorem rk7_1 (y0) : retK d7 .ret [(4, .v .bool y0)] = some [.v .bool y0] := by kernel_rfl
def g7 (N : Nat) (x0 : V20) (x1 : Int) (k : Bool → Option R) : Option R :=
(g7_16 N x0 x1 (fun y0 => k y0) (fun y0 => k y0))
theorem gen7 {N : Nat} {cl : Cal} (x0 : V20) (x1 : Int) {R : Type} (k : List E → Option R) : exec cl N c7 (params 0 [.v U21 x0, .v U2 x1]) (fun e env => (retK d7 e env).bind k) = g7 N x0 x1 (fun (r0 : Bool) => k [.v .bool r0]) := by
  have e0 : params 0 [.v U21 x0, .v U2 x1] = (e6 x0 x1) := by kernel_rfl
  simp only [c7, e0, t7_16, rk7_0, rk7_1, Option.bind_some]
  rfl
def ctr7 (S : V20 → Int → Option (Bool)) : Ctr := { A := V20 × Int × Unit, B := Bool, f := 7, enc := fun a => [.v U21 a.1, .v U2 a.2.1], dec := (decC (decV U21) (decC (decV U2) dec0)), S := fun a => S a.1 a.2.1, ent := fun b => [.v .bool b], ok := (decV_cons (T := U21) (decV_cons (T := U2) (fun es b h => dec0_some h))) }
def S7 (N : Nat) (x0 : V20) (x1 : Int) : Option (Bool) := g7 N x0 x1 (fun (r0 : Bool) => some (r0))
def g15_0 (x0 : V31) (k0 : V31 → Option R) : Option R :=
k0 x0
theorem t15_0 (x0) : exec cl N c15_0 [(0, .v U32 x0)] K = (g15_0 x0 (fun y0 => K .normal [(1, .loc U32 .no y0)])) := by
  kernel_rfl
def g15_1 (S7 : V20 → Int → Option (Bool)) (x0 : V31) (k0 : Bool → Option R) : Option R :=
brB (decide ((x0.1.length : Int) ≤ (40 : Int))) (brB (decide ((x0.2.1.length : Int) ≤ (40 : Int))) ((S7 x0.2.2.1 (210 : Int)).bind fun r41 =>
brB r41 ((S7 x0.2.2.2.1 (210 : Int)).bind fun r42 =>
k0 r42) (k0 false)) (k0 false)) (k0 false)
theorem t15_1 (S7) (h7 : (ctr7 S7).holds cl) (x0) : exec cl N c15_1 [(1, .loc U32 .no x0)] K = (g15_1 S7 x0 (fun y0 => K .normal [(2, .v .bool y0)])) := by
  rw [← put_eq h7]
  kernel_rfl
def g15_2 (S7 : V20 → Int → Option (Bool)) (x0 : V31) (k0 : Bool → Option R) : Option R :=
(g15_0 x0 (fun y0 => (g15_1 S7 y0 (fun y0 => (k0 y0)))))
theorem t15_2 (S7) (h7 : (ctr7 S7).holds cl) (x0) : exec cl N c15_2 [(0, .v U32 x0)] K = (g15_2 S7 x0 (fun y0 => K .ret [(2, .v .bool y0)])) := by
  simp only [c15_2, exec_seq, seqK_normal, seqK_exit, seqK_ret, t15_0, t15_1 S7 h7, exec_ret]
  rfl
theorem rk15_0 (y0) : retK d15 .ret [(2, .v .bool y0)] = some [.v .bool y0] := by kernel_rfl
def g15 (S7 : V20 → Int → Option (Bool)) (x0 : V31) (k : Bool → Option R) : Option R :=
(g15_2 S7 x0 (fun y0 => k y0))
theorem gen15 {N : Nat} {cl : Cal} (S7 : V20 → Int → Option (Bool)) (h7 : (ctr7 S7).holds cl) (x0 : V31) {R : Type} (k : List E → Option R) : exec cl N c15 (params 0 [.v U32 x0]) (fun e env => (retK d15 e env).bind k) = g15 S7 x0 (fun (r0 : Bool) => k [.v .bool r0]) := by
  have e0 : params 0 [.v U32 x0] = [(0, .v U32 x0)] := by kernel_rfl
  simp only [c15, e0, t15_2 S7 h7, rk15_0, Option.bind_some]
  rfl
def ctr15 (S : V31 → Option (Bool)) : Ctr := { A := V31 × Unit, B := Bool, f := 15, enc := fun a => [.v U32 a.1], dec := (decC (decV U32) dec0), S := fun a => S a.1, ent := fun b => [.v .bool b], ok := (decV_cons (T := U32) (fun es b h => dec0_some h)) }
def S15 (N : Nat) (x0 : V31) : Option (Bool) := g15 (S7 N) x0 (fun (r0 : Bool) => some (r0))
def g93_0 (x0 : Int) (k0 : Int → Option R) : Option R :=
k0 x0
theorem t93_0 (x0) : exec cl N c93_0 [(0, .v U1 x0)] K = (g93_0 x0 (fun y0 => K .normal [(0, .v U1 y0)])) := by
  kernel_rfl
def g93_1 (x0 : Int) (k0 : Bool → Option R) : Option R :=
brB (decide (x0 ≥ (97 : Int))) (k0 (decide (x0 ≤ (122 : Int)))) (k0 false)
theorem t93_1 (x0) : exec cl N c93_1 [(0, .v U1 x0)] K = (g93_1 x0 (fun y0 => K .normal [(2, .v .bool y0)])) := by
  kernel_rfl
def g93_2 (x0 : Int) (k0 : Bool → Option R) : Option R :=
(g93_0 x0 (fun y0 => (g93_1 y0 (fun y0 => (k0 y0)))))
theorem t93_2 (x0) : exec cl N c93_2 [(0, .v U1 x0)] K = (g93_2 x0 (fun y0 => K .ret [(2, .v .bool y0)])) := by
  simp only [c93_2, exec_seq, seqK_normal, seqK_exit, seqK_ret, t93_0, t93_1, exec_ret]
  rfl
theorem rk93_0 (y0) : retK d93 .ret [(2, .v .bool y0)] = some [.v .bool y0] := by kernel_rfl
def g93 (x0 : Int) (k : Bool → Option R) : Option R :=
(g93_2 x0 (fun y0 => k y0))
theorem gen93 {N : Nat} {cl : Cal} (x0 : Int) {R : Type} (k : List E → Option R) : exec cl N c93 (params 0 [.v U1 x0]) (fun e env => (retK d93 e env).bind k) = g93 x0 (fun (r0 : Bool) => k [.v .bool r0]) := by
  have e0 : params 0 [.v U1 x0] = [(0, .v U1 x0)] := by kernel_rfl
  simp only [c93, e0, t93_2, rk93_0, Option.bind_some]
  rfl
def ctr93 (S : Int → Option (Bool)) : Ctr := { A := Int × Unit, B := Bool, f := 93, enc := fun a => [.v U1 a.1], dec := (decC (decV U1) dec0), S := fun a => S a.1, ent := fun b => [.v .bool b], ok := (decV_cons (T := U1) (fun es b h => dec0_some h)) }
def S93 (N : Nat) (x0 : Int) : Option (Bool) := g93 x0 (fun (r0 : Bool) => some (r0))
def g94_0 (x0 : Int) (k0 : Int → Option R) : Option R :=
k0 x0
theorem t94_0 (x0) : exec cl N c94_0 [(0, .v U1 x0)] K = (g94_0 x0 (fun y0 => K .normal [(0, .v U1 y0)])) := by
  kernel_rfl
def g94_1 (x0 : Int) (k0 : Bool → Option R) : Option R :=
brB (decide (x0 ≥ (48 : Int))) (k0 (decide (x0 ≤ (57 : Int)))) (k0 false)
theorem t94_1 (x0) : exec cl N c94_1 [(0, .v U1 x0)] K = (g94_1 x0 (fun y0 => K .normal [(2, .v .bool y0)])) := by
  kernel_rfl
def g94_2 (x0 : Int) (k0 : Bool → Option R) : Option R :=
(g94_0 x0 (fun y0 => (g94_1 y0 (fun y0 => (k0 y0)))))
theorem t94_2 (x0) : exec cl N c94_2 [(0, .v U1 x0)] K = (g94_2 x0 (fun y0 => K .ret [(2, .v .bool y0)])) := by
  simp only [c94_2, exec_seq, seqK_normal, seqK_exit, seqK_ret, t94_0, t94_1, exec_ret]
  rfl
theorem rk94_0 (y0) : retK d94 .ret [(2, .v .bool y0)] = some [.v .bool y0] := by kernel_rfl
def g94 (x0 : Int) (k : Bool → Option R) : Option R :=
(g94_2 x0 (fun y0 => k y0))
theorem gen94 {N : Nat} {cl : Cal} (x0 : Int) {R : Type} (k : List E → Option R) : exec cl N c94 (params 0 [.v U1 x0]) (fun e env => (retK d94 e env).bind k) = g94 x0 (fun (r0 : Bool) => k [.v .bool r0]) := by
  have e0 : params 0 [.v U1 x0] = [(0, .v U1 x0)] := by kernel_rfl
  simp only [c94, e0, t94_2, rk94_0, Option.bind_some]
  rfl
def ctr94 (S : Int → Option (Bool)) : Ctr := { A := Int × Unit, B := Bool, f := 94, enc := fun a => [.v U1 a.1], dec := (decC (decV U1) dec0), S := fun a => S a.1, ent := fun b => [.v .bool b], ok := (decV_cons (T := U1) (fun es b h => dec0_some h)) }
def S94 (N : Nat) (x0 : Int) : Option (Bool) := g94 x0 (fun (r0 : Bool) => some (r0))
def g82_0 (x0 : V1) (k0 : V1 → Option R) : Option R :=
k0 x0
theorem t82_0 (x0) : exec cl N c82_0 [(0, .v .str x0)] K = (g82_0 x0 (fun y0 => K .normal [(0, .v .str y0)])) := by
  kernel_rfl
def g82_1 (S93 : Int → Option (Bool)) (x0 : V1) (k0 : V1 → Bool → Option R) : Option R :=
brB (x0 == ([] : List UInt8)) (k0 x0 true) (if 0 ≤ (0 : Int) ∧ (0 : Int) < (x0.length : Int) then
(S93 ((x0.getD (0 : Int).toNat 0).toNat : Int)).bind fun r77 =>
k0 x0 (!r77)
else none)
theorem t82_1 (S93) (h93 : (ctr93 S93).holds cl) (x0) : exec cl N c82_1 [(0, .v .str x0)] K = (g82_1 S93 x0 (fun y0 y1 => K .normal (e14 y0 y1))) := by
  rw [← put_eq h93]
  kernel_rfl
def g82_2 (x0 : V1) (x1 : Bool) (k0 : Int → Option R) : Option R :=
k0 (0 : Int)
theorem t82_2 (x0 x1) : exec cl N c82_2 (e14 x0 x1) K = (g82_2 x0 x1 (fun y0 => K .normal [(2, .v U2 y0)])) := by
  kernel_rfl
theorem kp82_0 (x0) : keep [0, 2] [(2, .v U2 x0)] = (e15 x0) := by kernel_rfl
theorem kp82_1 (x0 x1) : keep [0, 2] (e14 x0 x1) = (e16 x0) := by kernel_rfl
theorem hb82_0 (x0 x1) : boolOf? (ent (e14 x0 x1) (.t 12)) = some x1 := by kernel_rfl
def g82_4 (x0 : V1) (k0 : V1 → Int → Option R) : Option R :=
k0 x0 (1 : Int)
theorem t82_4 (x0) : exec cl N c82_4 (e16 x0) K = (g82_4 x0 (fun y0 y1 => K .normal (e17 y0 y1))) := by
  kernel_rfl
theorem kp82_2 (x0 x1) : keep [0, 3] (e17 x0 x1) = (e17 x0 x1) := by kernel_rfl
def g82_5 (x0 : V1) (x1 : Int) (k0 : V1 → Int → Bool → Option R) : Option R :=
k0 x0 x1 (decide (x1 < (x0.length : Int)))
theorem t82_5 (x0 x1) : exec cl N c82_5 (e17 x0 x1) K = (g82_5 x0 x1 (fun y0 y1 y2 => K .normal (e18 y0 y1 y2))) := by
  kernel_rfl
theorem kp82_3 (x0 x1 x2) : keep [0, 3] (e18 x0 x1 x2) = (e17 x0 x1) := by kernel_rfl
theorem hb82_1 (x0 x1 x2) : boolOf? (ent (e18 x0 x1 x2) (.t 16)) = some x2 := by kernel_rfl
def g82_7 (x0 : V1) (x1 : Int) (k0 : V1 → Int → Int → Option R) : Option R :=
if 0 ≤ x1 ∧ x1 < (x0.length : Int) then
k0 x0 x1 ((x0.getD x1.toNat 0).toNat : Int)
else none
theorem t82_7 (x0 x1) : exec cl N c82_7 (e17 x0 x1) K = (g82_7 x0 x1 (fun y0 y1 y2 => K .normal [(0, .v .str y0), (3, .v U2 y1), (4, .v U1 y2)])) := by
  kernel_rfl
def g82_8 (S93 : Int → Option (Bool)) (S94 : Int → Option (Bool)) (x0 : V1) (x1 x2 : Int) (k0 : V1 → Int → Int → Bool → Option R) : Option R :=
(S93 x2).bind fun r80 =>
brB r80 (k0 x0 x1 x2 true) ((S94 x2).bind fun r81 =>
k0 x0 x1 x2 r81)
theorem t82_8 (S93) (S94) (h93 : (ctr93 S93).holds cl) (h94 : (ctr94 S94).holds cl) (x0 x1 x2) : exec cl N c82_8 [(0, .v .str x0), (3, .v U2 x1), (4, .v U1 x2)] K = (g82_8 S93 S94 x0 x1 x2 (fun y0 y1 y2 y3 => K .normal (e19 y0 y1 y2 y3))) := by
  rw [← put_eq h93]
  rw [← put_eq h94]
  kernel_rfl
def g82_9 (x0 : V1) (x1 x2 : Int) (x3 : Bool) (k0 : V1 → Int → Option R) : Option R :=
k0 x0 (IntKind.i64.wrap (x1 + (1 : Int)))
theorem t82_9 (x0 x1 x2 x3) : exec cl N c82_9 (e19 x0 x1 x2 x3) K = (g82_9 x0 x1 x2 x3 (fun y0 y1 => K .normal (e17 y0 y1))) := by
  kernel_rfl
theorem kp82_4 (x0 x1) : keep [0, 2, 3] (e17 x0 x1) = (e20 x0 x1) := by kernel_rfl
def g82_10 (S93 : Int → Option (Bool)) (S94 : Int → Option (Bool)) (x0 : V1) (x1 x2 : Int) (x3 : Bool) (k0 : V1 → Int → Bool → Option R) : Option R :=
brB (x2 == (45 : Int)) (brB (decide ((IntKind.i64.wrap (x1 + (1 : Int))) < (x0.length : Int))) (let v86 : Int := (IntKind.i64.wrap (x1 + (1 : Int)))
if 0 ≤ v86 ∧ v86 < (x0.length : Int) then
(S93 ((x0.getD v86.toNat 0).toNat : Int)).bind fun r88 =>
brB r88 (k0 x0 x1 true) (let v89 : Int := (IntKind.i64.wrap (x1 + (1 : Int)))
if 0 ≤ v89 ∧ v89 < (x0.length : Int) then
(S94 ((x0.getD v89.toNat 0).toNat : Int)).bind fun r91 =>
k0 x0 x1 r91
else none)
else none) (k0 x0 x1 false)) (k0 x0 x1 false)
theorem t82_10 (S93) (S94) (h93 : (ctr93 S93).holds cl) (h94 : (ctr94 S94).holds cl) (x0 x1 x2 x3) : exec cl N c82_10 (e19 x0 x1 x2 x3) K = (g82_10 S93 S94 x0 x1 x2 x3 (fun y0 y1 y2 => K .normal (e21 y0 y1 y2))) := by
  rw [← put_eq h93]
  rw [← put_eq h94]
  kernel_rfl
def g82_11 (x0 : V1) (x1 : Int) (x2 : Bool) (k0 : V1 → Int → Option R) : Option R :=
k0 x0 (IntKind.i64.wrap (x1 + (2 : Int)))
theorem t82_11 (x0 x1 x2) : exec cl N c82_11 (e21 x0 x1 x2) K = (g82_11 x0 x1 x2 (fun y0 y1 => K .normal (e17 y0 y1))) := by
  kernel_rfl
def g82_12 (x0 : V1) (x1 : Int) (x2 : Bool) (k0 : Int → Option R) : Option R :=
k0 x1
theorem t82_12 (x0 x1 x2) : exec cl N c82_12 (e21 x0 x1 x2) K = (g82_12 x0 x1 x2 (fun y0 => K .normal [(2, .v U2 y0)])) := by
  kernel_rfl
theorem kp82_5 (x0) : keep [0, 2, 3] [(2, .v U2 x0)] = (e22 x0) := by kernel_rfl
theorem hb82_2 (x0 x1 x2) : boolOf? (ent (e21 x0 x1 x2) (.t 30)) = some x2 := by kernel_rfl
theorem kp82_6 (x0 x1) : keep [0, 2, 3] (e20 x0 x1) = (e20 x0 x1) := by kernel_rfl
theorem kp82_7 (x0) : keep [0, 2, 3] (e22 x0) = (e22 x0) := by kernel_rfl
theorem hb82_3 (x0 x1 x2 x3) : boolOf? (ent (e19 x0 x1 x2 x3) (.t 21)) = some x3 := by kernel_rfl
def g82_17 (S93 : Int → Option (Bool)) (S94 : Int → Option (Bool)) (x0 : V1) (x1 : Int) (k0 : V1 → Int → Option R) (k1 : Int → Option R) (k2 : V1 → Int → Option R) : Option R :=
(g82_5 x0 x1 (fun y0 y1 y2 => brB y2 ((fun y0 y1 => (g82_7 y0 y1 (fun y0 y1 y2 => (g82_8 S93 S94 y0 y1 y2 (fun y0 y1 y2 y3 => brB y3 (g82_9 y0 y1 y2 y3 (fun y0 y1 => (k0 y0 y1))) (g82_10 S93 S94 y0 y1 y2 y3 (fun y0 y1 y2 => brB y2 (g82_11 y0 y1 y2 (fun y0 y1 => (k0 y0 y1))) (g82_12 y0 y1 y2 (fun y0 => ((fun y0 => (k1 y0)) y0)))))))))) y0 y1) (k2 y0 y1)))
theorem t82_17 (S93) (S94) (h93 : (ctr93 S93).holds cl) (h94 : (ctr94 S94).holds cl) (x0 x1) : exec cl N c82_17 (e17 x0 x1) K = (g82_17 S93 S94 x0 x1 (fun y0 y1 => K .normal (e20 y0 y1)) (fun y0 => K .ret (e22 y0)) (fun y0 y1 => K (.exit 0) (e17 y0 y1))) := by
  simp only [c82_17, exec_seq, seqK_normal, seqK_exit, seqK_ret, t82_5, c82_6, exec_out, exec_cond', hb82_1, Option.bind_some, brB_true, brB_false, exec_skip, exec_exit, kp82_3, c82_16, exec_block, t82_7, c82_15, t82_8 S93 S94 h93 h94, c82_14, hb82_3, t82_9, t82_10 S93 S94 h93 h94, c82_13, hb82_2, t82_11, t82_12, exec_ret, kp82_4, kp82_5, kp82_6, kp82_7, blockK_normal, blockK_ret, blockK_eq]
  rfl
theorem kp82_8 (x0 x1) : keep [0, 3] (e20 x0 x1) = (e17 x0 x1) := by kernel_rfl
def l82_18 {R : Type} (S93 : Int → Option (Bool)) (S94 : Int → Option (Bool)) (k0 : Int → Option R) (k1 : V1 → Int → Option R) : Nat → V1 → Int → Option R
  | 0, _, _ => none
  | m + 1, x0, x1 => (g82_17 S93 S94 x0 x1 (fun y0 y1 => l82_18 S93 S94 k0 k1 m y0 y1) k0 k1)
theorem lt82_18 (S93) (S94) (h93 : (ctr93 S93).holds cl) (h94 : (ctr94 S94).holds cl) : ∀ (m) (x0 x1), iter [0, 3] (fun env K => exec cl N c82_17 env K) K m (e17 x0 x1) = l82_18 S93 S94 (fun y0 => K .ret (e22 y0)) (fun y0 y1 => K (.exit 0) (e17 y0 y1)) m x0 x1 := by
  intro m
  induction m with
  | zero => intros; rfl
  | succ m ih =>
    intro x0 x1
    simp only [iter_succ, t82_17 S93 S94 h93 h94, loopK_normal, loopK_exit, loopK_ret, kp82_8, ih]
    rfl
theorem kp82_9 (x0) : keep [2, 3] (e22 x0) = (e23 x0) := by kernel_rfl
theorem kp82_10 (x0 x1) : keep [2, 3] (e17 x0 x1) = (e24 x1) := by kernel_rfl
def g82_18 (N : Nat) (S93 : Int → Option (Bool)) (S94 : Int → Option (Bool)) (x0 : V1) (x1 : Int) (k0 : Int → Option R) (k1 : Int → Option R) : Option R :=
l82_18 S93 S94 (fun y0 => k0 y0) (fun y0 y1 => k1 y1) N x0 x1
theorem t82_18 (S93) (S94) (h93 : (ctr93 S93).holds cl) (h94 : (ctr94 S94).holds cl) (x0 x1) : exec cl N c82_18 (e17 x0 x1) K = (g82_18 N S93 S94 x0 x1 (fun y0 => K .ret (e23 y0)) (fun y0 => K (.exit 0) (e24 y0))) := by
  simp only [c82_18, exec_out, exec_loop, kp82_2, lt82_18 S93 S94 h93 h94, kp82_10, kp82_9]
  rfl
theorem kp82_11 (x0) : keep [2, 3] (e23 x0) = (e23 x0) := by kernel_rfl
theorem kp82_12 (x0) : keep [2, 3] (e24 x0) = (e24 x0) := by kernel_rfl
def g82_20 (x0 : Int) (k0 : Int → Option R) : Option R :=
k0 x0
theorem t82_20 (x0) : exec cl N c82_20 (e24 x0) K = (g82_20 x0 (fun y0 => K .normal [(2, .v U2 y0)])) := by
  kernel_rfl
def g82_21 (N : Nat) (S93 : Int → Option (Bool)) (S94 : Int → Option (Bool)) (x0 : V1) (k0 : Int → Option R) (k1 : Int → Option R) (k2 : Int → Option R) : Option R :=
(g82_0 x0 (fun y0 => (g82_1 S93 y0 (fun y0 y1 => brB y1 (g82_2 y0 y1 (fun y0 => ((fun y0 => (k0 y0)) y0))) ((fun y0 => (g82_4 y0 (fun y0 y1 => (g82_18 N S93 S94 y0 y1 (fun y0 => (k1 y0)) (fun y0 => ((fun y0 => (g82_20 y0 (fun y0 => (k2 y0)))) y0)))))) y0)))))
theorem t82_21 (S93) (S94) (h93 : (ctr93 S93).holds cl) (h94 : (ctr94 S94).holds cl) (x0) : exec cl N c82_21 [(0, .v .str x0)] K = (g82_21 N S93 S94 x0 (fun y0 => K .ret (e15 y0)) (fun y0 => K .ret (e23 y0)) (fun y0 => K .ret [(2, .v U2 y0)])) := by
  simp only [c82_21, exec_seq, seqK_normal, seqK_exit, seqK_ret, t82_0, t82_1 S93 h93, c82_3, exec_out, exec_cond', hb82_0, Option.bind_some, brB_true, brB_false, t82_2, exec_ret, exec_skip, kp82_0, kp82_1, t82_4, c82_19, exec_block, t82_18 S93 S94 h93 h94, blockK_normal, blockK_ret, blockK_eq, kp82_11, kp82_12, t82_20]
  rfl
theorem rk82_0 (y0) : retK d82 .ret (e15 y0) = some [.v U2 y0] := by kernel_rfl
theorem rk82_1 (y0) : retK d82 .ret (e23 y0) = some [.v U2 y0] := by kernel_rfl
theorem rk82_2 (y0) : retK d82 .ret [(2, .v U2 y0)] = some [.v U2 y0] := by kernel_rfl
def g82 (N : Nat) (S93 : Int → Option (Bool)) (S94 : Int → Option (Bool)) (x0 : V1) (k : Int → Option R) : Option R :=
(g82_21 N S93 S94 x0 (fun y0 => k y0) (fun y0 => k y0) (fun y0 => k y0))
theorem gen82 {N : Nat} {cl : Cal} (S93 : Int → Option (Bool)) (S94 : Int → Option (Bool)) (h93 : (ctr93 S93).holds cl) (h94 : (ctr94 S94).holds cl) (x0 : V1) {R : Type} (k : List E → Option R) : exec cl N c82 (params 0 [.v .str x0]) (fun e env => (retK d82 e env).bind k) = g82 N S93 S94 x0 (fun (r0 : Int) => k [.v U2 r0]) := by
  have e0 : params 0 [.v .str x0] = [(0, .v .str x0)] := by kernel_rfl
  simp only [c82, e0, t82_21 S93 S94 h93 h94, rk82_0, rk82_1, rk82_2, Option.bind_some]
  rfl
def ctr82 (S : V1 → Option (Int)) : Ctr := { A := V1 × Unit, B := Int, f := 82, enc := fun a => [.v .str a.1], dec := (decC (decV .str) dec0), S := fun a => S a.1, ent := fun b => [.v U2 b], ok := (decV_cons (T := .str) (fun es b h => dec0_some h)) }
def S82 (N : Nat) (x0 : V1) : Option (Int) := g82 N (S93 N) (S94 N) x0 (fun (r0 : Int) => some (r0))
def g58_0 (x0 : V1) (k0 : V1 → Option R) : Option R :=
k0 x0
theorem t58_0 (x0) : exec cl N c58_0 [(0, .v .str x0)] K = (g58_0 x0 (fun y0 => K .normal [(0, .v .str y0)])) := by
  kernel_rfl
def g58_1 (S82 : V1 → Option (Int)) (x0 : V1) (k0 : Bool → Option R) : Option R :=
brB (x0 != ([] : List UInt8)) (brB (decide ((x0.length : Int) ≤ (20 : Int))) ((S82 x0).bind fun r97 =>
k0 (r97 == (x0.length : Int))) (k0 false)) (k0 false)
theorem t58_1 (S82) (h82 : (ctr82 S82).holds cl) (x0) : exec cl N c58_1 [(0, .v .str x0)] K = (g58_1 S82 x0 (fun y0 => K .normal [(2, .v .bool y0)])) := by
  rw [← put_eq h82]
  kernel_rfl
def g58_2 (S82 : V1 → Option (Int)) (x0 : V1) (k0 : Bool → Option R) : Option R :=
(g58_0 x0 (fun y0 => (g58_1 S82 y0 (fun y0 => (k0 y0)))))
theorem t58_2 (S82) (h82 : (ctr82 S82).holds cl) (x0) : exec cl N c58_2 [(0, .v .str x0)] K = (g58_2 S82 x0 (fun y0 => K .ret [(2, .v .bool y0)])) := by
  simp only [c58_2, exec_seq, seqK_normal, seqK_exit, seqK_ret, t58_0, t58_1 S82 h82, exec_ret]
  rfl
theorem rk58_0 (y0) : retK d58 .ret [(2, .v .bool y0)] = some [.v .bool y0] := by kernel_rfl
def g58 (S82 : V1 → Option (Int)) (x0 : V1) (k : Bool → Option R) : Option R :=
(g58_2 S82 x0 (fun y0 => k y0))
theorem gen58 {N : Nat} {cl : Cal} (S82 : V1 → Option (Int)) (h82 : (ctr82 S82).holds cl) (x0 : V1) {R : Type} (k : List E → Option R) : exec cl N c58 (params 0 [.v .str x0]) (fun e env => (retK d58 e env).bind k) = g58 S82 x0 (fun (r0 : Bool) => k [.v .bool r0]) := by
  have e0 : params 0 [.v .str x0] = [(0, .v .str x0)] := by kernel_rfl
  simp only [c58, e0, t58_2 S82 h82, rk58_0, Option.bind_some]
  rfl
def ctr58 (S : V1 → Option (Bool)) : Ctr := { A := V1 × Unit, B := Bool, f := 58, enc := fun a => [.v .str a.1], dec := (decC (decV .str) dec0), S := fun a => S a.1, ent := fun b => [.v .bool b], ok := (decV_cons (T := .str) (fun es b h => dec0_some h)) }
def S58 (N : Nat) (x0 : V1) : Option (Bool) := g58 (S82 N) x0 (fun (r0 : Bool) => some (r0))
def g114_0 (x0 : V1) (x1 : Int) (k0 : V1 → Int → Option R) : Option R :=
k0 x0 x1
theorem t114_0 (x0 x1) : exec cl N c114_0 (e25 x0 x1) K = (g114_0 x0 x1 (fun y0 y1 => K .normal (e25 y0 y1))) := by
  kernel_rfl
def g114_1 (S119 : V1 → Int → Option (Int)) (x0 : V1) (x1 : Int) (k0 : Int → Option R) : Option R :=
(S119 x0 x1).bind fun r114 =>
k0 r114
theorem t114_1 (S119) (h119 : (ctr119 S119).holds cl) (x0 x1) : exec cl N c114_1 (e25 x0 x1) K = (g114_1 S119 x0 x1 (fun y0 => K .normal [(4, .v U2 y0)])) := by
  rw [← put_eq h119]
  kernel_rfl
def g114_2 (S119 : V1 → Int → Option (Int)) (x0 : V1) (x1 : Int) (k0 : Int → Option R) : Option R :=
(g114_0 x0 x1 (fun y0 y1 => (g114_1 S119 y0 y1 (fun y0 => (k0 y0)))))
theorem t114_2 (S119) (h119 : (ctr119 S119).holds cl) (x0 x1) : exec cl N c114_2 (e25 x0 x1) K = (g114_2 S119 x0 x1 (fun y0 => K .ret [(4, .v U2 y0)])) := by
  simp only [c114_2, exec_seq, seqK_normal, seqK_exit, seqK_ret, t114_0, t114_1 S119 h119, exec_ret]
  rfl
theorem rk114_0 (y0) : retK d114 .ret [(4, .v U2 y0)] = some [.v U2 y0] := by kernel_rfl
def g114 (S119 : V1 → Int → Option (Int)) (x0 : V1) (x1 : Int) (k : Int → Option R) : Option R :=
(g114_2 S119 x0 x1 (fun y0 => k y0))
theorem gen114 {N : Nat} {cl : Cal} (S119 : V1 → Int → Option (Int)) (h119 : (ctr119 S119).holds cl) (x0 : V1) (x1 : Int) {R : Type} (k : List E → Option R) : exec cl N c114 (params 0 [.v .str x0, .v U1 x1]) (fun e env => (retK d114 e env).bind k) = g114 S119 x0 x1 (fun (r0 : Int) => k [.v U2 r0]) := by
  have e0 : params 0 [.v .str x0, .v U1 x1] = (e25 x0 x1) := by kernel_rfl
  simp only [c114, e0, t114_2 S119 h119, rk114_0, Option.bind_some]
  rfl
def ctr114 (S : V1 → Int → Option (Int)) : Ctr := { A := V1 × Int × Unit, B := Int, f := 114, enc := fun a => [.v .str a.1, .v U1 a.2.1], dec := (decC (decV .str) (decC (decV U1) dec0)), S := fun a => S a.1 a.2.1, ent := fun b => [.v U2 b], ok := (decV_cons (T := .str) (decV_cons (T := U1) (fun es b h => dec0_some h))) }
def S114 (N : Nat) (x0 : V1) (x1 : Int) : Option (Int) := g114 (S119 N) x0 x1 (fun (r0 : Int) => some (r0))
def g109_0 (x0 : Int) (k0 : Int → Option R) : Option R :=
k0 x0
theorem t109_0 (x0) : exec cl N c109_0 [(0, .v U1 x0)] K = (g109_0 x0 (fun y0 => K .normal [(0, .v U1 y0)])) := by
  kernel_rfl
def g109_1 (S114 : V1 → Int → Option (Int)) (x0 : Int) (k0 : Bool → Option R) : Option R :=
brB (decide (x0 ≥ (32 : Int))) (brB (decide (x0 ≤ (126 : Int))) ((S114 ([32, 46, 44, 59, 58, 33, 63, 34, 45, 91, 93, 60, 62, 123, 125] : List UInt8) x0).bind fun r119 =>
k0 (decide (r119 < (0 : Int)))) (k0 false)) (k0 false)
theorem t109_1 (S114) (h114 : (ctr114 S114).holds cl) (x0) : exec cl N c109_1 [(0, .v U1 x0)] K = (g109_1 S114 x0 (fun y0 => K .normal [(2, .v .bool y0)])) := by
  rw [← put_eq h114]
  kernel_rfl
def g109_2 (S114 : V1 → Int → Option (Int)) (x0 : Int) (k0 : Bool → Option R) : Option R :=
(g109_0 x0 (fun y0 => (g109_1 S114 y0 (fun y0 => (k0 y0)))))
theorem t109_2 (S114) (h114 : (ctr114 S114).holds cl) (x0) : exec cl N c109_2 [(0, .v U1 x0)] K = (g109_2 S114 x0 (fun y0 => K .ret [(2, .v .bool y0)])) := by
  simp only [c109_2, exec_seq, seqK_normal, seqK_exit, seqK_ret, t109_0, t109_1 S114 h114, exec_ret]
  rfl
theorem rk109_0 (y0) : retK d109 .ret [(2, .v .bool y0)] = some [.v .bool y0] := by kernel_rfl
def g109 (S114 : V1 → Int → Option (Int)) (x0 : Int) (k : Bool → Option R) : Option R :=
(g109_2 S114 x0 (fun y0 => k y0))
theorem gen109 {N : Nat} {cl : Cal} (S114 : V1 → Int → Option (Int)) (h114 : (ctr114 S114).holds cl) (x0 : Int) {R : Type} (k : List E → Option R) : exec cl N c109 (params 0 [.v U1 x0]) (fun e env => (retK d109 e env).bind k) = g109 S114 x0 (fun (r0 : Bool) => k [.v .bool r0]) := by
  have e0 : params 0 [.v U1 x0] = [(0, .v U1 x0)] := by kernel_rfl
  simp only [c109, e0, t109_2 S114 h114, rk109_0, Option.bind_some]
  rfl
def ctr109 (S : Int → Option (Bool)) : Ctr := { A := Int × Unit, B := Bool, f := 109, enc := fun a => [.v U1 a.1], dec := (decC (decV U1) dec0), S := fun a => S a.1, ent := fun b => [.v .bool b], ok := (decV_cons (T := U1) (fun es b h => dec0_some h)) }
def S109 (N : Nat) (x0 : Int) : Option (Bool) := g109 (S114 N) x0 (fun (r0 : Bool) => some (r0))
def g108_0 (x0 : Int) (k0 : Int → Option R) : Option R :=
k0 x0
theorem t108_0 (x0) : exec cl N c108_0 [(0, .v U1 x0)] K = (g108_0 x0 (fun y0 => K .normal [(0, .v U1 y0)])) := by
  kernel_rfl
def g108_1 (S109 : Int → Option (Bool)) (x0 : Int) (k0 : Bool → Option R) : Option R :=
(S109 x0).bind fun r122 =>
k0 (!r122)
theorem t108_1 (S109) (h109 : (ctr109 S109).holds cl) (x0) : exec cl N c108_1 [(0, .v U1 x0)] K = (g108_1 S109 x0 (fun y0 => K .normal [(2, .v .bool y0)])) := by
  rw [← put_eq h109]
  kernel_rfl
def g108_2 (S109 : Int → Option (Bool)) (x0 : Int) (k0 : Bool → Option R) : Option R :=
(g108_0 x0 (fun y0 => (g108_1 S109 y0 (fun y0 => (k0 y0)))))
theorem t108_2 (S109) (h109 : (ctr109 S109).holds cl) (x0) : exec cl N c108_2 [(0, .v U1 x0)] K = (g108_2 S109 x0 (fun y0 => K .ret [(2, .v .bool y0)])) := by
  simp only [c108_2, exec_seq, seqK_normal, seqK_exit, seqK_ret, t108_0, t108_1 S109 h109, exec_ret]
  rfl
theorem rk108_0 (y0) : retK d108 .ret [(2, .v .bool y0)] = some [.v .bool y0] := by kernel_rfl
def g108 (S109 : Int → Option (Bool)) (x0 : Int) (k : Bool → Option R) : Option R :=
(g108_2 S109 x0 (fun y0 => k y0))
theorem gen108 {N : Nat} {cl : Cal} (S109 : Int → Option (Bool)) (h109 : (ctr109 S109).holds cl) (x0 : Int) {R : Type} (k : List E → Option R) : exec cl N c108 (params 0 [.v U1 x0]) (fun e env => (retK d108 e env).bind k) = g108 S109 x0 (fun (r0 : Bool) => k [.v .bool r0]) := by
  have e0 : params 0 [.v U1 x0] = [(0, .v U1 x0)] := by kernel_rfl
  simp only [c108, e0, t108_2 S109 h109, rk108_0, Option.bind_some]
  rfl
def ctr108 (S : Int → Option (Bool)) : Ctr := { A := Int × Unit, B := Bool, f := 108, enc := fun a => [.v U1 a.1], dec := (decC (decV U1) dec0), S := fun a => S a.1, ent := fun b => [.v .bool b], ok := (decV_cons (T := U1) (fun es b h => dec0_some h)) }
def S108 (N : Nat) (x0 : Int) : Option (Bool) := g108 (S109 N) x0 (fun (r0 : Bool) => some (r0))
def g113_0 (x0 : V0) (x1 : V13) (k0 : V0 → V13 → Option R) : Option R :=
k0 x0 x1
theorem t113_0 (x0 x1) : exec cl N c113_0 (e26 x0 x1) K = (g113_0 x0 x1 (fun y0 y1 => K .normal (e26 y0 y1))) := by
  kernel_rfl
def g113_1 (x0 : V0) (x1 : V13) (k0 : V0 → V13 → Int → Int → Option R) : Option R :=
k0 x0 x1 (x0.length : Int) (0 : Int)
theorem t113_1 (x0 x1) : exec cl N c113_1 (e26 x0 x1) K = (g113_1 x0 x1 (fun y0 y1 y2 y3 => K .normal (e27 y0 y1 y2 y3))) := by
  kernel_rfl
theorem kp113_0 (x0 x1 x2 x3) : keep [0, 1, 7, 8] (e27 x0 x1 x2 x3) = (e27 x0 x1 x2 x3) := by kernel_rfl
def g113_2 (x0 : V0) (x1 : V13) (x2 x3 : Int) (k0 : V0 → V13 → Int → Int → Bool → Option R) : Option R :=
k0 x0 x1 x2 x3 (decide (x3 < x2))
theorem t113_2 (x0 x1 x2 x3) : exec cl N c113_2 (e27 x0 x1 x2 x3) K = (g113_2 x0 x1 x2 x3 (fun y0 y1 y2 y3 y4 => K .normal (e28 y0 y1 y2 y3 y4))) := by
  kernel_rfl
theorem kp113_1 (x0 x1 x2 x3 x4) : keep [0, 1, 7, 8] (e28 x0 x1 x2 x3 x4) = (e27 x0 x1 x2 x3) := by kernel_rfl
theorem hb113_0 (x0 x1 x2 x3 x4) : boolOf? (ent (e28 x0 x1 x2 x3 x4) (.t 9)) = some x4 := by kernel_rfl
def g113_4 (x0 : V0) (x1 : V13) (x2 x3 : Int) (k0 : V0 → V13 → Int → Int → Int → Option R) : Option R :=
k0 x0 x1 x3 x2 x3
theorem t113_4 (x0 x1 x2 x3) : exec cl N c113_4 (e27 x0 x1 x2 x3) K = (g113_4 x0 x1 x2 x3 (fun y0 y1 y2 y3 y4 => K .normal [(0, .v U4 y0), (1, .v U10 y1), (5, .v U2 y2), (7, .v U2 y3), (8, .v U2 y4)])) := by
  kernel_rfl
def g113_5 (x0 : V0) (x1 : V13) (x2 x3 x4 : Int) (k0 : V0 → V13 → Int → Int → Int → Bool → Option R) : Option R :=
if 0 ≤ x2 ∧ x2 < (x0.length : Int) then
(x1 ((x0.getD x2.toNat (0 : Int)), ())).bind fun r129 =>
k0 x0 x1 x2 x3 x4 r129
else none
theorem t113_5 (x0 x1 x2 x3 x4) : exec cl N c113_5 [(0, .v U4 x0), (1, .v U10 x1), (5, .v U2 x2), (7, .v U2 x3), (8, .v U2 x4)] K = (g113_5 x0 x1 x2 x3 x4 (fun y0 y1 y2 y3 y4 y5 => K .normal (e29 y0 y1 y2 y3 y4 y5))) := by
  kernel_rfl
def g113_6 (x0 : V0) (x1 : V13) (x2 x3 x4 : Int) (x5 : Bool) (k0 : Int → Option R) : Option R :=
k0 x2
theorem t113_6 (x0 x1 x2 x3 x4 x5) : exec cl N c113_6 (e29 x0 x1 x2 x3 x4 x5) K = (g113_6 x0 x1 x2 x3 x4 x5 (fun y0 => K .normal [(4, .v U2 y0)])) := by
  kernel_rfl
theorem kp113_2 (x0) : keep [0, 1, 4, 7, 8] [(4, .v U2 x0)] = (e30 x0) := by kernel_rfl
theorem kp113_3 (x0 x1 x2 x3 x4 x5) : keep [0, 1, 4, 7, 8] (e29 x0 x1 x2 x3 x4 x5) = (e31 x0 x1 x3 x4) := by kernel_rfl
theorem hb113_1 (x0 x1 x2 x3 x4 x5) : boolOf? (ent (e29 x0 x1 x2 x3 x4 x5) (.t 16)) = some x5 := by kernel_rfl
theorem kp113_4 (x0) : keep [0, 1, 4, 7, 8] (e30 x0) = (e30 x0) := by kernel_rfl
theorem kp113_5 (x0 x1 x2 x3) : keep [0, 1, 4, 7, 8] (e31 x0 x1 x2 x3) = (e31 x0 x1 x2 x3) := by kernel_rfl
def g113_9 (x0 : V0) (x1 : V13) (x2 x3 : Int) (k0 : V0 → V13 → Int → Int → Option R) : Option R :=
k0 x0 x1 x2 (IntKind.i64.wrap (x3 + (1 : Int)))
theorem t113_9 (x0 x1 x2 x3) : exec cl N c113_9 (e31 x0 x1 x2 x3) K = (g113_9 x0 x1 x2 x3 (fun y0 y1 y2 y3 => K .normal (e27 y0 y1 y2 y3))) := by
  kernel_rfl
def g113_10 (x0 : V0) (x1 : V13) (x2 x3 : Int) (k0 : Int → Option R) (k1 : V0 → V13 → Int → Int → Option R) (k2 : V0 → V13 → Int → Int → Option R) : Option R :=
(g113_2 x0 x1 x2 x3 (fun y0 y1 y2 y3 y4 => brB y4 ((fun y0 y1 y2 y3 => (g113_4 y0 y1 y2 y3 (fun y0 y1 y2 y3 y4 => (g113_5 y0 y1 y2 y3 y4 (fun y0 y1 y2 y3 y4 y5 => brB y5 (g113_6 y0 y1 y2 y3 y4 y5 (fun y0 => ((fun y0 => (k0 y0)) y0))) (g113_9 y0 y1 y3 y4 k1)))))) y0 y1 y2 y3) (k2 y0 y1 y2 y3)))
theorem t113_10 (x0 x1 x2 x3) : exec cl N c113_10 (e27 x0 x1 x2 x3) K = (g113_10 x0 x1 x2 x3 (fun y0 => K .ret (e30 y0)) (fun y0 y1 y2 y3 => K .normal (e27 y0 y1 y2 y3)) (fun y0 y1 y2 y3 => K (.exit 0) (e27 y0 y1 y2 y3))) := by
  simp only [c113_10, exec_seq, seqK_normal, seqK_exit, seqK_ret, t113_2, c113_3, exec_out, exec_cond', hb113_0, Option.bind_some, brB_true, brB_false, exec_skip, exec_exit, kp113_1, c113_8, exec_block, t113_4, t113_5, c113_7, hb113_1, t113_6, exec_ret, kp113_2, kp113_3, blockK_normal, blockK_ret, blockK_eq, kp113_4, kp113_5, t113_9]
  rfl
def l113_11 {R : Type} (k0 : Int → Option R) (k1 : V0 → V13 → Int → Int → Option R) : Nat → V0 → V13 → Int → Int → Option R
  | 0, _, _, _, _ => none
  | m + 1, x0, x1, x2, x3 => (g113_10 x0 x1 x2 x3 k0 (fun y0 y1 y2 y3 => l113_11 k0 k1 m y0 y1 y2 y3) k1)
theorem lt113_11 : ∀ (m) (x0 x1 x2 x3), iter [0, 1, 7, 8] (fun env K => exec cl N c113_10 env K) K m (e27 x0 x1 x2 x3) = l113_11 (fun y0 => K .ret (e30 y0)) (fun y0 y1 y2 y3 => K (.exit 0) (e27 y0 y1 y2 y3)) m x0 x1 x2 x3 := by
  intro m
  induction m with
  | zero => intros; rfl
  | succ m ih =>
    intro x0 x1 x2 x3
    simp only [iter_succ, t113_10, loopK_normal, loopK_exit, loopK_ret, kp113_0, ih]
    rfl
theorem kp113_6 (x0) : keep [4] (e30 x0) = [(4, .v U2 x0)] := by kernel_rfl
theorem kp113_7 (x0 x1 x2 x3) : keep [4] (e27 x0 x1 x2 x3) = [(4, .dead)] := by kernel_rfl
def g113_11 (N : Nat) (x0 : V0) (x1 : V13) (x2 x3 : Int) (k0 : Int → Option R) (k1 : Option R) : Option R :=
l113_11 (fun y0 => k0 y0) (fun y0 y1 y2 y3 => k1) N x0 x1 x2 x3
theorem t113_11 (x0 x1 x2 x3) : exec cl N c113_11 (e27 x0 x1 x2 x3) K = (g113_11 N x0 x1 x2 x3 (fun y0 => K .ret [(4, .v U2 y0)]) (K (.exit 0) [(4, .dead)])) := by
  simp only [c113_11, exec_out, exec_loop, kp113_0, lt113_11, kp113_6, kp113_7]
  rfl
theorem kp113_8 (x0) : keep [4] [(4, .v U2 x0)] = [(4, .v U2 x0)] := by kernel_rfl
theorem kp113_9 : keep [4] [(4, .dead)] = [(4, .dead)] := by kernel_rfl
def g113_13 (k0 : Int → Option R) : Option R :=
k0 (-1 : Int)
theorem t113_13 : exec cl N c113_13 [(4, .dead)] K = (g113_13 (fun y0 => K .normal [(4, .v U2 y0)])) := by
  kernel_rfl
def g113_14 (N : Nat) (x0 : V0) (x1 : V13) (k0 : Int → Option R) : Option R :=
(g113_0 x0 x1 (fun y0 y1 => (g113_1 y0 y1 (fun y0 y1 y2 y3 => (g113_11 N y0 y1 y2 y3 (fun y0 => (k0 y0)) (g113_13 (fun y0 => (k0 y0))))))))
theorem t113_14 (x0 x1) : exec cl N c113_14 (e26 x0 x1) K = (g113_14 N x0 x1 (fun y0 => K .ret [(4, .v U2 y0)])) := by
  simp only [c113_14, exec_seq, seqK_normal, seqK_exit, seqK_ret, t113_0, t113_1, c113_12, exec_out, exec_block, t113_11, blockK_normal, blockK_ret, blockK_eq, kp113_8, kp113_9, t113_13, exec_ret]
  rfl
theorem rk113_0 (y0) : retK d113 .ret [(4, .v U2 y0)] = some [.v U2 y0] := by kernel_rfl
def g113 (N : Nat) (x0 : V0) (x1 : V13) (k : Int → Option R) : Option R :=
(g113_14 N x0 x1 (fun y0 => k y0))
theorem gen113 {N : Nat} {cl : Cal} (x0 : V0) (x1 : V13) {R : Type} (k : List E → Option R) : exec cl N c113 (params 0 [.v U4 x0, .v U10 x1]) (fun e env => (retK d113 e env).bind k) = g113 N x0 x1 (fun (r0 : Int) => k [.v U2 r0]) := by
  have e0 : params 0 [.v U4 x0, .v U10 x1] = (e26 x0 x1) := by kernel_rfl
  simp only [c113, e0, t113_14, rk113_0, Option.bind_some]
  rfl
def ctr113 (S : V0 → V13 → Option (Int)) : Ctr := { A := V0 × V13 × Unit, B := Int, f := 113, enc := fun a => [.v U4 a.1, .v U10 a.2.1], dec := (decC (decV U4) (decC (decV U10) dec0)), S := fun a => S a.1 a.2.1, ent := fun b => [.v U2 b], ok := (decV_cons (T := U4) (decV_cons (T := U10) (fun es b h => dec0_some h))) }
def S113 (N : Nat) (x0 : V0) (x1 : V13) : Option (Int) := g113 N x0 x1 (fun (r0 : Int) => some (r0))
def g107_0 (x0 : V0) (x1 : V13) (k0 : V0 → V13 → Option R) : Option R :=
k0 x0 x1
theorem t107_0 (x0 x1) : exec cl N c107_0 (e26 x0 x1) K = (g107_0 x0 x1 (fun y0 y1 => K .normal (e26 y0 y1))) := by
  kernel_rfl
def g107_1 (S113 : V0 → V13 → Option (Int)) (x0 : V0) (x1 : V13) (k0 : Bool → Option R) : Option R :=
(S113 x0 x1).bind fun r133 =>
k0 (decide (r133 ≥ (0 : Int)))
theorem t107_1 (S113) (h113 : (ctr113 S113).holds cl) (x0 x1) : exec cl N c107_1 (e26 x0 x1) K = (g107_1 S113 x0 x1 (fun y0 => K .normal [(4, .v .bool y0)])) := by
  rw [← put_eq h113]
  kernel_rfl
def g107_2 (S113 : V0 → V13 → Option (Int)) (x0 : V0) (x1 : V13) (k0 : Bool → Option R) : Option R :=
(g107_0 x0 x1 (fun y0 y1 => (g107_1 S113 y0 y1 (fun y0 => (k0 y0)))))
theorem t107_2 (S113) (h113 : (ctr113 S113).holds cl) (x0 x1) : exec cl N c107_2 (e26 x0 x1) K = (g107_2 S113 x0 x1 (fun y0 => K .ret [(4, .v .bool y0)])) := by
  simp only [c107_2, exec_seq, seqK_normal, seqK_exit, seqK_ret, t107_0, t107_1 S113 h113, exec_ret]
  rfl
theorem rk107_0 (y0) : retK d107 .ret [(4, .v .bool y0)] = some [.v .bool y0] := by kernel_rfl
def g107 (S113 : V0 → V13 → Option (Int)) (x0 : V0) (x1 : V13) (k : Bool → Option R) : Option R :=
(g107_2 S113 x0 x1 (fun y0 => k y0))
theorem gen107 {N : Nat} {cl : Cal} (S113 : V0 → V13 → Option (Int)) (h113 : (ctr113 S113).holds cl) (x0 : V0) (x1 : V13) {R : Type} (k : List E → Option R) : exec cl N c107 (params 0 [.v U4 x0, .v U10 x1]) (fun e env => (retK d107 e env).bind k) = g107 S113 x0 x1 (fun (r0 : Bool) => k [.v .bool r0]) := by
  have e0 : params 0 [.v U4 x0, .v U10 x1] = (e26 x0 x1) := by kernel_rfl
  simp only [c107, e0, t107_2 S113 h113, rk107_0, Option.bind_some]
  rfl
def ctr107 (S : V0 → V13 → Option (Bool)) : Ctr := { A := V0 × V13 × Unit, B := Bool, f := 107, enc := fun a => [.v U4 a.1, .v U10 a.2.1], dec := (decC (decV U4) (decC (decV U10) dec0)), S := fun a => S a.1 a.2.1, ent := fun b => [.v .bool b], ok := (decV_cons (T := U4) (decV_cons (T := U10) (fun es b h => dec0_some h))) }
def S107 (N : Nat) (x0 : V0) (x1 : V13) : Option (Bool) := g107 (S113 N) x0 x1 (fun (r0 : Bool) => some (r0))
def g110_0 (x0 : V6) (x1 : V1) (k0 : V6 → V1 → Option R) : Option R :=
k0 x0 x1
theorem t110_0 (x0 x1) : exec cl N c110_0 (e32 x0 x1) K = (g110_0 x0 x1 (fun y0 y1 => K .normal (e32 y0 y1))) := by
  kernel_rfl
def g110_1 (x0 : V6) (x1 : V1) (k0 : V6 → V1 → Int → Option R) : Option R :=
k0 x0 x1 (x0.length : Int)
theorem t110_1 (x0 x1) : exec cl N c110_1 (e32 x0 x1) K = (g110_1 x0 x1 (fun y0 y1 y2 => K .normal [(0, .v U0 y0), (1, .v .str y1), (12, .v U2 y2)])) := by
  kernel_rfl
def g110_2 (x0 : V6) (x1 : V1) (x2 : Int) (k0 : V6 → V1 → Int → Bool → Option R) : Option R :=
k0 x0 x1 x2 (x2 == (0 : Int))
theorem t110_2 (x0 x1 x2) : exec cl N c110_2 [(0, .v U0 x0), (1, .v .str x1), (12, .v U2 x2)] K = (g110_2 x0 x1 x2 (fun y0 y1 y2 y3 => K .normal (e33 y0 y1 y2 y3))) := by
  kernel_rfl
def g110_3 (x0 : V6) (x1 : V1) (x2 : Int) (x3 : Bool) (k0 : V1 → Option R) : Option R :=
k0 ([] : List UInt8)
theorem t110_3 (x0 x1 x2 x3) : exec cl N c110_3 (e33 x0 x1 x2 x3) K = (g110_3 x0 x1 x2 x3 (fun y0 => K .normal [(4, .v .str y0)])) := by
  kernel_rfl
theorem kp110_0 (x0) : keep [0, 1, 4] [(4, .v .str x0)] = (e34 x0) := by kernel_rfl
def g110_4 (x0 : V6) (x1 : V1) (x2 : Int) (x3 : Bool) (k0 : V6 → V1 → Bool → Option R) : Option R :=
k0 x0 x1 (x2 == (1 : Int))
theorem t110_4 (x0 x1 x2 x3) : exec cl N c110_4 (e33 x0 x1 x2 x3) K = (g110_4 x0 x1 x2 x3 (fun y0 y1 y2 => K .normal (e35 y0 y1 y2))) := by
  kernel_rfl
def g110_5 (x0 : V6) (x1 : V1) (x2 : Bool) (k0 : V1 → Option R) : Option R :=
if 0 ≤ (0 : Int) ∧ (0 : Int) < (x0.length : Int) then
k0 (x0.getD (0 : Int).toNat [])
else none
theorem t110_5 (x0 x1 x2) : exec cl N c110_5 (e35 x0 x1 x2) K = (g110_5 x0 x1 x2 (fun y0 => K .normal [(4, .v .str y0)])) := by
  kernel_rfl
theorem kp110_1 (x0 x1 x2) : keep [0, 1, 4] (e35 x0 x1 x2) = (e36 x0 x1) := by kernel_rfl
theorem hb110_0 (x0 x1 x2) : boolOf? (ent (e35 x0 x1 x2) (.t 15)) = some x2 := by kernel_rfl
theorem kp110_2 (x0) : keep [0, 1, 4] (e34 x0) = (e34 x0) := by kernel_rfl
theorem kp110_3 (x0 x1) : keep [0, 1, 4] (e36 x0 x1) = (e36 x0 x1) := by kernel_rfl
theorem hb110_1 (x0 x1 x2 x3) : boolOf? (ent (e33 x0 x1 x2 x3) (.t 13)) = some x3 := by kernel_rfl
def g110_9 (x0 : V6) (x1 : V1) (k0 : V6 → V1 → Int → Option R) : Option R :=
k0 x0 x1 (0 : Int)
theorem t110_9 (x0 x1) : exec cl N c110_9 (e36 x0 x1) K = (g110_9 x0 x1 (fun y0 y1 y2 => K .normal (e37 y0 y1 y2))) := by
  kernel_rfl
def g110_10 (x0 : V6) (x1 : V1) (x2 : Int) (k0 : V6 → V1 → Int → Bool → Option R) : Option R :=
k0 x0 x1 x2 (decide ((x1.length : Int) > (0 : Int)))
theorem t110_10 (x0 x1 x2) : exec cl N c110_10 (e37 x0 x1 x2) K = (g110_10 x0 x1 x2 (fun y0 y1 y2 y3 => K .normal (e38 y0 y1 y2 y3))) := by
  kernel_rfl
def g110_11 (x0 : V6) (x1 : V1) (x2 : Int) (x3 : Bool) (k0 : V6 → V1 → Int → Bool → Option R) : Option R :=
let v154 : Int := (IntKind.i64.wrap ((x0.length : Int) - (1 : Int)))
if v154 = 0 then none else
k0 x0 x1 x2 (decide ((x1.length : Int) ≥ (IntKind.i64.wrap (Int.tdiv (9223372036854775807 : Int) v154))))
theorem t110_11 (x0 x1 x2 x3) : exec cl N c110_11 (e38 x0 x1 x2 x3) K = (g110_11 x0 x1 x2 x3 (fun y0 y1 y2 y3 => K .normal (e39 y0 y1 y2 y3))) := by
  kernel_rfl
def g110_12 (x0 : V6) (x1 : V1) (x2 : Int) (x3 : Bool) : Option R :=
none /- operation makeInterface -/
theorem t110_12 (x0 x1 x2 x3) : exec cl N c110_12 (e39 x0 x1 x2 x3) K = (g110_12 x0 x1 x2 x3) := by
  kernel_rfl
theorem kp110_4 (x0 x1 x2 x3) : keep [0, 1, 5] (e39 x0 x1 x2 x3) = (e37 x0 x1 x2) := by kernel_rfl
theorem hb110_2 (x0 x1 x2 x3) : boolOf? (ent (e39 x0 x1 x2 x3) (.t 29)) = some x3 := by kernel_rfl
def g110_14 (x0 : V6) (x1 : V1) (x2 : Int) (k0 : V6 → V1 → Int → Option R) : Option R :=
k0 x0 x1 (IntKind.i64.wrap (x2 + (IntKind.i64.wrap ((x1.length : Int) * (IntKind.i64.wrap ((x0.length : Int) - (1 : Int)))))))
theorem t110_14 (x0 x1 x2) : exec cl N c110_14 (e37 x0 x1 x2) K = (g110_14 x0 x1 x2 (fun y0 y1 y2 => K .normal (e37 y0 y1 y2))) := by
  kernel_rfl
theorem kp110_5 (x0 x1 x2) : keep [0, 1, 5] (e37 x0 x1 x2) = (e37 x0 x1 x2) := by kernel_rfl
theorem kp110_6 (x0 x1 x2 x3) : keep [0, 1, 5] (e38 x0 x1 x2 x3) = (e37 x0 x1 x2) := by kernel_rfl
theorem hb110_3 (x0 x1 x2 x3) : boolOf? (ent (e38 x0 x1 x2 x3) (.t 22)) = some x3 := by kernel_rfl
def g110_16 (x0 : V6) (x1 : V1) (x2 : Int) (k0 : V6 → V1 → Int → Option R) : Option R :=
(g110_10 x0 x1 x2 (fun y0 y1 y2 y3 => brB y3 (g110_11 y0 y1 y2 y3 (fun y0 y1 y2 y3 => brB y3 (g110_12 y0 y1 y2 y3) ((fun y0 y1 y2 => (g110_14 y0 y1 y2 (fun y0 y1 y2 => (k0 y0 y1 y2)))) y0 y1 y2))) (k0 y0 y1 y2)))
theorem t110_16 (x0 x1 x2) : exec cl N c110_16 (e37 x0 x1 x2) K = (g110_16 x0 x1 x2 (fun y0 y1 y2 => K .normal (e37 y0 y1 y2))) := by
  simp only [c110_16, exec_seq, seqK_normal, seqK_exit, seqK_ret, t110_10, c110_15, exec_out, exec_cond', hb110_3, Option.bind_some, brB_true, brB_false, t110_11, c110_13, hb110_2, t110_12, exec_skip, kp110_4, t110_14, kp110_5, kp110_6]
  rfl
def g110_17 (x0 : V6) (x1 : V1) (x2 : Int) (k0 : V6 → V1 → Int → V6 → Int → Int → Option R) : Option R :=
k0 x0 x1 x2 x0 (x0.length : Int) (0 : Int)
theorem t110_17 (x0 x1 x2) : exec cl N c110_17 (e37 x0 x1 x2) K = (g110_17 x0 x1 x2 (fun y0 y1 y2 y3 y4 y5 => K .normal (e40 y0 y1 y2 y3 y4 y5))) := by
  kernel_rfl
theorem kp110_7 (x0 x1 x2 x3 x4 x5) : keep [0, 1, 5, 39, 40, 41] (e40 x0 x1 x2 x3 x4 x5) = (e40 x0 x1 x2 x3 x4 x5) := by kernel_rfl
def g110_18 (x0 : V6) (x1 : V1) (x2 : Int) (x3 : V6) (x4 x5 : Int) (k0 : V6 → V1 → Int → V6 → Int → Int → Bool → Option R) : Option R :=
k0 x0 x1 x2 x3 x4 x5 (decide (x5 < x4))
theorem t110_18 (x0 x1 x2 x3 x4 x5) : exec cl N c110_18 (e40 x0 x1 x2 x3 x4 x5) K = (g110_18 x0 x1 x2 x3 x4 x5 (fun y0 y1 y2 y3 y4 y5 y6 => K .normal (e41 y0 y1 y2 y3 y4 y5 y6))) := by
  kernel_rfl
theorem kp110_8 (x0 x1 x2 x3 x4 x5 x6) : keep [0, 1, 5, 39, 40, 41] (e41 x0 x1 x2 x3 x4 x5 x6) = (e40 x0 x1 x2 x3 x4 x5) := by kernel_rfl
theorem hb110_4 (x0 x1 x2 x3 x4 x5 x6) : boolOf? (ent (e41 x0 x1 x2 x3 x4 x5 x6) (.t 42)) = some x6 := by kernel_rfl
def g110_20 (x0 : V6) (x1 : V1) (x2 : Int) (x3 : V6) (x4 x5 : Int) (k0 : V6 → V1 → Int → V1 → V6 → Int → Int → Option R) : Option R :=
if 0 ≤ x5 ∧ x5 < (x3.length : Int) then
k0 x0 x1 x2 (x3.getD x5.toNat []) x3 x4 x5
else none
theorem t110_20 (x0 x1 x2 x3 x4 x5) : exec cl N c110_20 (e40 x0 x1 x2 x3 x4 x5) K = (g110_20 x0 x1 x2 x3 x4 x5 (fun y0 y1 y2 y3 y4 y5 y6 => K .normal (e42 y0 y1 y2 y3 y4 y5 y6))) := by
  kernel_rfl
def g110_21 (x0 : V6) (x1 : V1) (x2 : Int) (x3 : V1) (x4 : V6) (x5 x6 : Int) (k0 : V6 → V1 → Int → V1 → V6 → Int → Int → Bool → Option R) : Option R :=
k0 x0 x1 x2 x3 x4 x5 x6 (decide ((x3.length : Int) > (IntKind.i64.wrap ((9223372036854775807 : Int) - x2))))
theorem t110_21 (x0 x1 x2 x3 x4 x5 x6) : exec cl N c110_21 (e42 x0 x1 x2 x3 x4 x5 x6) K = (g110_21 x0 x1 x2 x3 x4 x5 x6 (fun y0 y1 y2 y3 y4 y5 y6 y7 => K .normal (e43 y0 y1 y2 y3 y4 y5 y6 y7))) := by
  kernel_rfl
def g110_22 (x0 : V6) (x1 : V1) (x2 : Int) (x3 : V1) (x4 : V6) (x5 x6 : Int) (x7 : Bool) : Option R :=
none /- operation makeInterface -/
theorem t110_22 (x0 x1 x2 x3 x4 x5 x6 x7) : exec cl N c110_22 (e43 x0 x1 x2 x3 x4 x5 x6 x7) K = (g110_22 x0 x1 x2 x3 x4 x5 x6 x7) := by
  kernel_rfl
theorem kp110_9 (x0 x1 x2 x3 x4 x5 x6 x7) : keep [0, 1, 5, 7, 39, 40, 41] (e43 x0 x1 x2 x3 x4 x5 x6 x7) = (e42 x0 x1 x2 x3 x4 x5 x6) := by kernel_rfl
theorem hb110_5 (x0 x1 x2 x3 x4 x5 x6 x7) : boolOf? (ent (e43 x0 x1 x2 x3 x4 x5 x6 x7) (.t 49)) = some x7 := by kernel_rfl
def g110_24 (x0 : V6) (x1 : V1) (x2 : Int) (x3 : V1) (x4 : V6) (x5 x6 : Int) (k0 : V6 → V1 → Int → V6 → Int → Int → Option R) : Option R :=
k0 x0 x1 (IntKind.i64.wrap (x2 + (x3.length : Int))) x4 x5 x6
theorem t110_24 (x0 x1 x2 x3 x4 x5 x6) : exec cl N c110_24 (e42 x0 x1 x2 x3 x4 x5 x6) K = (g110_24 x0 x1 x2 x3 x4 x5 x6 (fun y0 y1 y2 y3 y4 y5 => K .normal (e40 y0 y1 y2 y3 y4 y5))) := by
  kernel_rfl
def g110_26 (x0 : V6) (x1 : V1) (x2 : Int) (x3 : V6) (x4 x5 : Int) (k0 : V6 → V1 → Int → V6 → Int → Int → Option R) : Option R :=
k0 x0 x1 x2 x3 x4 (IntKind.i64.wrap (x5 + (1 : Int)))
theorem t110_26 (x0 x1 x2 x3 x4 x5) : exec cl N c110_26 (e40 x0 x1 x2 x3 x4 x5) K = (g110_26 x0 x1 x2 x3 x4 x5 (fun y0 y1 y2 y3 y4 y5 => K .normal (e40 y0 y1 y2 y3 y4 y5))) := by
  kernel_rfl
def g110_27 (x0 : V6) (x1 : V1) (x2 : Int) (x3 : V6) (x4 x5 : Int) (k0 : V6 → V1 → Int → V6 → Int → Int → Option R) (k1 : V6 → V1 → Int → V6 → Int → Int → Option R) : Option R :=
(g110_18 x0 x1 x2 x3 x4 x5 (fun y0 y1 y2 y3 y4 y5 y6 => brB y6 ((fun y0 y1 y2 y3 y4 y5 => (g110_20 y0 y1 y2 y3 y4 y5 (fun y0 y1 y2 y3 y4 y5 y6 => (g110_21 y0 y1 y2 y3 y4 y5 y6 (fun y0 y1 y2 y3 y4 y5 y6 y7 => brB y7 (g110_22 y0 y1 y2 y3 y4 y5 y6 y7) ((fun y0 y1 y2 y3 y4 y5 y6 => (g110_24 y0 y1 y2 y3 y4 y5 y6 (fun y0 y1 y2 y3 y4 y5 => (g110_26 y0 y1 y2 y3 y4 y5 k0)))) y0 y1 y2 y3 y4 y5 y6)))))) y0 y1 y2 y3 y4 y5) (k1 y0 y1 y2 y3 y4 y5)))
theorem t110_27 (x0 x1 x2 x3 x4 x5) : exec cl N c110_27 (e40 x0 x1 x2 x3 x4 x5) K = (g110_27 x0 x1 x2 x3 x4 x5 (fun y0 y1 y2 y3 y4 y5 => K .normal (e40 y0 y1 y2 y3 y4 y5)) (fun y0 y1 y2 y3 y4 y5 => K (.exit 1) (e40 y0 y1 y2 y3 y4 y5))) := by
  simp only [c110_27, exec_seq, seqK_normal, seqK_exit, seqK_ret, t110_18, c110_19, exec_out, exec_cond', hb110_4, Option.bind_some, brB_true, brB_false, exec_skip, exec_exit, kp110_8, c110_25, exec_block, t110_20, t110_21, c110_23, hb110_5, t110_22, kp110_9, t110_24, blockK_normal, blockK_ret, blockK_eq, kp110_7, t110_26]
  rfl
def l110_28 {R : Type} (k0 : V6 → V1 → Int → V6 → Int → Int → Option R) : Nat → V6 → V1 → Int → V6 → Int → Int → Option R
  | 0, _, _, _, _, _, _ => none
  | m + 1, x0, x1, x2, x3, x4, x5 => (g110_27 x0 x1 x2 x3 x4 x5 (fun y0 y1 y2 y3 y4 y5 => l110_28 k0 m y0 y1 y2 y3 y4 y5) k0)
theorem lt110_28 : ∀ (m) (x0 x1 x2 x3 x4 x5), iter [0, 1, 5, 39, 40, 41] (fun env K => exec cl N c110_27 env K) K m (e40 x0 x1 x2 x3 x4 x5) = l110_28 (fun y0 y1 y2 y3 y4 y5 => K (.exit 1) (e40 y0 y1 y2 y3 y4 y5)) m x0 x1 x2 x3 x4 x5 := by
  intro m
  induction m with
  | zero => intros; rfl
  | succ m ih =>
    intro x0 x1 x2 x3 x4 x5
    simp only [iter_succ, t110_27, loopK_normal, loopK_exit, loopK_ret, kp110_7, ih]
    rfl
theorem kp110_10 (x0 x1 x2 x3 x4 x5) : keep [0, 1, 5] (e40 x0 x1 x2 x3 x4 x5) = (e37 x0 x1 x2) := by kernel_rfl
def g110_28 (N : Nat) (x0 : V6) (x1 : V1) (x2 : Int) (x3 : V6) (x4 x5 : Int) (k0 : V6 → V1 → Int → Option R) : Option R :=
l110_28 (fun y0 y1 y2 y3 y4 y5 => k0 y0 y1 y2) N x0 x1 x2 x3 x4 x5
theorem t110_28 (x0 x1 x2 x3 x4 x5) : exec cl N c110_28 (e40 x0 x1 x2 x3 x4 x5) K = (g110_28 N x0 x1 x2 x3 x4 x5 (fun y0 y1 y2 => K (.exit 1) (e37 y0 y1 y2))) := by
  simp only [c110_28, exec_out, exec_loop, kp110_7, lt110_28, kp110_10]
  rfl
def g110_30 (x0 : V6) (x1 : V1) (x2 : Int) : Option R :=
none /- type ptr -/
theorem t110_30 (x0 x1 x2) : exec cl N c110_30 (e37 x0 x1 x2) K = (g110_30 x0 x1 x2) := by
  kernel_rfl
def g110_45 (N : Nat) (x0 : V6) (x1 : V1) (k0 : V1 → Option R) : Option R :=
(g110_0 x0 x1 (fun y0 y1 => (g110_1 y0 y1 (fun y0 y1 y2 => (g110_2 y0 y1 y2 (fun y0 y1 y2 y3 => brB y3 (g110_3 y0 y1 y2 y3 (fun y0 => ((fun y0 => (k0 y0)) y0))) (g110_4 y0 y1 y2 y3 (fun y0 y1 y2 => brB y2 (g110_5 y0 y1 y2 (fun y0 => ((fun y0 => (k0 y0)) y0))) ((fun y0 y1 => ((fun y0 y1 => ((fun y0 y1 => (g110_9 y0 y1 (fun y0 y1 y2 => (g110_16 y0 y1 y2 (fun y0 y1 y2 => (g110_17 y0 y1 y2 (fun y0 y1 y2 y3 y4 y5 => (g110_28 N y0 y1 y2 y3 y4 y5 (fun y0 y1 y2 => (g110_30 y0 y1 y2)))))))))) y0 y1)) y0 y1)) y0 y1)))))))))
theorem t110_45 (x0 x1) : exec cl N c110_45 (e32 x0 x1) K = (g110_45 N x0 x1 (fun y0 => K .ret (e34 y0))) := by
  simp only [c110_45, exec_seq, seqK_normal, seqK_exit, seqK_ret, t110_0, t110_1, c110_8, exec_out, exec_block, t110_2, c110_7, exec_cond', hb110_1, Option.bind_some, brB_true, brB_false, t110_3, exec_ret, t110_4, c110_6, hb110_0, t110_5, exec_skip, kp110_0, kp110_1, kp110_2, kp110_3, blockK_normal, blockK_ret, blockK_eq, t110_9, t110_16, t110_17, c110_29, t110_28, kp110_5, t110_30]
  rfl
theorem rk110_0 (y0) : retK d110 .ret (e34 y0) = some [.v .str y0] := by kernel_rfl
def g110 (N : Nat) (x0 : V6) (x1 : V1) (k : V1 → Option R) : Option R :=
(g110_45 N x0 x1 (fun y0 => k y0))
theorem gen110 {N : Nat} {cl : Cal} (x0 : V6) (x1 : V1) {R : Type} (k : List E → Option R) : exec cl N c110 (params 0 [.v U0 x0, .v .str x1]) (fun e env => (retK d110 e env).bind k) = g110 N x0 x1 (fun (r0 : V1) => k [.v .str r0]) := by
  have e0 : params 0 [.v U0 x0, .v .str x1] = (e32 x0 x1) := by kernel_rfl
  simp only [c110, e0, t110_45, rk110_0, Option.bind_some]
  rfl
def ctr110 (S : V6 → V1 → Option V5) : Ctr := { A := V6 × V1 × Unit, B := V1, f := 110, enc := fun a => [.v U0 a.1, .v .str a.2.1], dec := (decC (decV U0) (decC (decV .str) dec0)), S := fun a => S a.1 a.2.1, ent := fun b => [.v .str b], ok := (decV_cons (T := U0) (decV_cons (T := .str) (fun es b h => dec0_some h))) }
def S110 (N : Nat) (x0 : V6) (x1 : V1) : Option V5 := g110 N x0 x1 (fun (r0 : V1) => some (r0))
def g95_0 (x0 : V6) (k0 : V6 → Option R) : Option R :=
k0 x0
theorem t95_0 (x0) : exec cl N c95_0 [(0, .v U0 x0)] K = (g95_0 x0 (fun y0 => K .normal [(0, .v U0 y0)])) := by
  kernel_rfl
def g95_1 (x0 : V6) (k0 : V6 → V6 → Int → Int → Option R) : Option R :=
k0 x0 x0 (x0.length : Int) (0 : Int)
theorem t95_1 (x0) : exec cl N c95_1 [(0, .v U0 x0)] K = (g95_1 x0 (fun y0 y1 y2 y3 => K .normal (e44 y0 y1 y2 y3))) := by
  kernel_rfl
theorem kp95_0 (x0 x1 x2 x3) : keep [0, 7, 8, 9] (e44 x0 x1 x2 x3) = (e44 x0 x1 x2 x3) := by kernel_rfl
def g95_2 (x0 x1 : V6) (x2 x3 : Int) (k0 : V6 → V6 → Int → Int → Bool → Option R) : Option R :=
k0 x0 x1 x2 x3 (decide (x3 < x2))
theorem t95_2 (x0 x1 x2 x3) : exec cl N c95_2 (e44 x0 x1 x2 x3) K = (g95_2 x0 x1 x2 x3 (fun y0 y1 y2 y3 y4 => K .normal (e45 y0 y1 y2 y3 y4))) := by
  kernel_rfl
theorem kp95_1 (x0 x1 x2 x3 x4) : keep [0, 7, 8, 9] (e45 x0 x1 x2 x3 x4) = (e44 x0 x1 x2 x3) := by kernel_rfl
theorem hb95_0 (x0 x1 x2 x3 x4) : boolOf? (ent (e45 x0 x1 x2 x3 x4) (.t 10)) = some x4 := by kernel_rfl
def g95_4 (x0 x1 : V6) (x2 x3 : Int) (k0 : V6 → V1 → V6 → Int → Int → Option R) : Option R :=
if 0 ≤ x3 ∧ x3 < (x1.length : Int) then
k0 x0 (x1.getD x3.toNat []) x1 x2 x3
else none
theorem t95_4 (x0 x1 x2 x3) : exec cl N c95_4 (e44 x0 x1 x2 x3) K = (g95_4 x0 x1 x2 x3 (fun y0 y1 y2 y3 y4 => K .normal [(0, .v U0 y0), (5, .v .str y1), (7, .v U0 y2), (8, .v U2 y3), (9, .v U2 y4)])) := by
  kernel_rfl
def g95_5 (x0 : V6) (x1 : V1) (x2 : V6) (x3 x4 : Int) (k0 : V6 → V1 → V6 → Int → Int → Bool → Option R) : Option R :=
k0 x0 x1 x2 x3 x4 (x1 == ([] : List UInt8))
theorem t95_5 (x0 x1 x2 x3 x4) : exec cl N c95_5 [(0, .v U0 x0), (5, .v .str x1), (7, .v U0 x2), (8, .v U2 x3), (9, .v U2 x4)] K = (g95_5 x0 x1 x2 x3 x4 (fun y0 y1 y2 y3 y4 y5 => K .normal (e46 y0 y1 y2 y3 y4 y5))) := by
  kernel_rfl
def g95_6 (x0 : V6) (x1 : V1) (x2 : V6) (x3 x4 : Int) (x5 : Bool) (k0 : V1 → Int → Option R) : Option R :=
k0 ([] : List UInt8) (7 : Int)
theorem t95_6 (x0 x1 x2 x3 x4 x5) : exec cl N c95_6 (e46 x0 x1 x2 x3 x4 x5) K = (g95_6 x0 x1 x2 x3 x4 x5 (fun y0 y1 => K .normal (e47 y0 y1))) := by
  kernel_rfl
theorem kp95_2 (x0 x1) : keep [0, 2, 3, 5, 7, 8, 9] (e47 x0 x1) = (e48 x0 x1) := by kernel_rfl
theorem kp95_3 (x0 x1 x2 x3 x4 x5) : keep [0, 2, 3, 5, 7, 8, 9] (e46 x0 x1 x2 x3 x4 x5) = (e49 x0 x1 x2 x3 x4) := by kernel_rfl
theorem hb95_1 (x0 x1 x2 x3 x4 x5) : boolOf? (ent (e46 x0 x1 x2 x3 x4 x5) (.t 14)) = some x5 := by kernel_rfl
def g95_8 (S107 : V0 → V13 → Option (Bool)) (S108 : Int → Option (Bool)) (x0 : V6) (x1 : V1) (x2 : V6) (x3 x4 : Int) (k0 : V6 → V6 → Int → Int → Bool → Option R) : Option R :=
(S107 (x1.map fun b => (b.toNat : Int)) (fun (x169 : V2) => ((S108 x169.1).bind fun b170 => some [.v .bool b170]).bind (unE .bool))).bind fun r171 =>
k0 x0 x2 x3 x4 r171
theorem t95_8 (S107) (S108) (h107 : (ctr107 S107).holds cl) (h108 : (ctr108 S108).holds cl) (x0 x1 x2 x3 x4) : exec cl N c95_8 (e49 x0 x1 x2 x3 x4) K = (g95_8 S107 S108 x0 x1 x2 x3 x4 (fun y0 y1 y2 y3 y4 => K .normal (e50 y0 y1 y2 y3 y4))) := by
  rw [← put_eq h107]
  rw [← put_eq h108]
  kernel_rfl
def g95_9 (x0 x1 : V6) (x2 x3 : Int) (x4 : Bool) (k0 : V1 → Int → Option R) : Option R :=
k0 ([] : List UInt8) (2 : Int)
theorem t95_9 (x0 x1 x2 x3 x4) : exec cl N c95_9 (e50 x0 x1 x2 x3 x4) K = (g95_9 x0 x1 x2 x3 x4 (fun y0 y1 => K .normal (e47 y0 y1))) := by
  kernel_rfl
theorem kp95_4 (x0 x1) : keep [0, 2, 3, 7, 8, 9] (e47 x0 x1) = (e51 x0 x1) := by kernel_rfl
theorem kp95_5 (x0 x1 x2 x3 x4) : keep [0, 2, 3, 7, 8, 9] (e50 x0 x1 x2 x3 x4) = (e52 x0 x1 x2 x3) := by kernel_rfl
theorem hb95_2 (x0 x1 x2 x3 x4) : boolOf? (ent (e50 x0 x1 x2 x3 x4) (.t 17)) = some x4 := by kernel_rfl
theorem kp95_6 (x0 x1) : keep [0, 2, 3, 7, 8, 9] (e48 x0 x1) = (e51 x0 x1) := by kernel_rfl
theorem kp95_7 (x0 x1) : keep [0, 2, 3, 7, 8, 9] (e51 x0 x1) = (e51 x0 x1) := by kernel_rfl
theorem kp95_8 (x0 x1 x2 x3) : keep [0, 2, 3, 7, 8, 9] (e52 x0 x1 x2 x3) = (e52 x0 x1 x2 x3) := by kernel_rfl
def g95_12 (x0 x1 : V6) (x2 x3 : Int) (k0 : V6 → V6 → Int → Int → Option R) : Option R :=
k0 x0 x1 x2 (IntKind.i64.wrap (x3 + (1 : Int)))
theorem t95_12 (x0 x1 x2 x3) : exec cl N c95_12 (e52 x0 x1 x2 x3) K = (g95_12 x0 x1 x2 x3 (fun y0 y1 y2 y3 => K .normal (e44 y0 y1 y2 y3))) := by
  kernel_rfl
def g95_13 (S107 : V0 → V13 → Option (Bool)) (S108 : Int → Option (Bool)) (x0 x1 : V6) (x2 x3 : Int) (k0 : V1 → Int → Option R) (k1 : V6 → V6 → Int → Int → Option R) (k2 : V6 → V6 → Int → Int → Option R) : Option R :=
(g95_2 x0 x1 x2 x3 (fun y0 y1 y2 y3 y4 => brB y4 ((fun y0 y1 y2 y3 => (g95_4 y0 y1 y2 y3 (fun y0 y1 y2 y3 y4 => (g95_5 y0 y1 y2 y3 y4 (fun y0 y1 y2 y3 y4 y5 => brB y5 (g95_6 y0 y1 y2 y3 y4 y5 (fun y0 y1 => ((fun y0 y1 => (k0 y0 y1)) y0 y1))) ((fun y0 y1 y2 y3 y4 => (g95_8 S107 S108 y0 y1 y2 y3 y4 (fun y0 y1 y2 y3 y4 => brB y4 (g95_9 y0 y1 y2 y3 y4 (fun y0 y1 => ((fun y0 y1 => (k0 y0 y1)) y0 y1))) (g95_12 y0 y1 y2 y3 k1)))) y0 y1 y2 y3 y4)))))) y0 y1 y2 y3) (k2 y0 y1 y2 y3)))
theorem t95_13 (S107) (S108) (h107 : (ctr107 S107).holds cl) (h108 : (ctr108 S108).holds cl) (x0 x1 x2 x3) : exec cl N c95_13 (e44 x0 x1 x2 x3) K = (g95_13 S107 S108 x0 x1 x2 x3 (fun y0 y1 => K .ret (e51 y0 y1)) (fun y0 y1 y2 y3 => K .normal (e44 y0 y1 y2 y3)) (fun y0 y1 y2 y3 => K (.exit 0) (e44 y0 y1 y2 y3))) := by
  simp only [c95_13, exec_seq, seqK_normal, seqK_exit, seqK_ret, t95_2, c95_3, exec_out, exec_cond', hb95_0, Option.bind_some, brB_true, brB_false, exec_skip, exec_exit, kp95_1, c95_11, exec_block, t95_4, t95_5, c95_7, hb95_1, t95_6, exec_ret, kp95_2, kp95_3, t95_8 S107 S108 h107 h108, c95_10, hb95_2, t95_9, kp95_4, kp95_5, blockK_normal, blockK_ret, blockK_eq, kp95_6, kp95_7, kp95_8, t95_12]
  rfl
def l95_14 {R : Type} (S107 : V0 → V13 → Option (Bool)) (S108 : Int → Option (Bool)) (k0 : V1 → Int → Option R) (k1 : V6 → V6 → Int → Int → Option R) : Nat → V6 → V6 → Int → Int → Option R
  | 0, _, _, _, _ => none
  | m + 1, x0, x1, x2, x3 => (g95_13 S107 S108 x0 x1 x2 x3 k0 (fun y0 y1 y2 y3 => l95_14 S107 S108 k0 k1 m y0 y1 y2 y3) k1)
theorem lt95_14 (S107) (S108) (h107 : (ctr107 S107).holds cl) (h108 : (ctr108 S108).holds cl) : ∀ (m) (x0 x1 x2 x3), iter [0, 7, 8, 9] (fun env K => exec cl N c95_13 env K) K m (e44 x0 x1 x2 x3) = l95_14 S107 S108 (fun y0 y1 => K .ret (e51 y0 y1)) (fun y0 y1 y2 y3 => K (.exit 0) (e44 y0 y1 y2 y3)) m x0 x1 x2 x3 := by
  intro m
  induction m with
  | zero => intros; rfl
  | succ m ih =>
    intro x0 x1 x2 x3
    simp only [iter_succ, t95_13 S107 S108 h107 h108, loopK_normal, loopK_exit, loopK_ret, kp95_0, ih]
    rfl
theorem kp95_9 (x0 x1) : keep [0, 2, 3] (e51 x0 x1) = (e53 x0 x1) := by kernel_rfl
theorem kp95_10 (x0 x1 x2 x3) : keep [0, 2, 3] (e44 x0 x1 x2 x3) = (e54 x0) := by kernel_rfl
def g95_14 (N : Nat) (S107 : V0 → V13 → Option (Bool)) (S108 : Int → Option (Bool)) (x0 x1 : V6) (x2 x3 : Int) (k0 : V1 → Int → Option R) (k1 : V6 → Option R) : Option R :=
l95_14 S107 S108 (fun y0 y1 => k0 y0 y1) (fun y0 y1 y2 y3 => k1 y0) N x0 x1 x2 x3
theorem t95_14 (S107) (S108) (h107 : (ctr107 S107).holds cl) (h108 : (ctr108 S108).holds cl) (x0 x1 x2 x3) : exec cl N c95_14 (e44 x0 x1 x2 x3) K = (g95_14 N S107 S108 x0 x1 x2 x3 (fun y0 y1 => K .ret (e53 y0 y1)) (fun y0 => K (.exit 0) (e54 y0))) := by
  simp only [c95_14, exec_out, exec_loop, kp95_0, lt95_14 S107 S108 h107 h108, kp95_10, kp95_9]
  rfl
theorem kp95_11 (x0 x1) : keep [0, 2, 3] (e53 x0 x1) = (e53 x0 x1) := by kernel_rfl
theorem kp95_12 (x0) : keep [0, 2, 3] (e54 x0) = (e54 x0) := by kernel_rfl
def g95_16 (S110 : V6 → V1 → Option V5) (x0 : V6) (k0 : V1 → Option R) : Option R :=
(S110 x0 ([32] : List UInt8)).bind fun r173 =>
k0 r173
theorem t95_16 (S110) (h110 : (ctr110 S110).holds cl) (x0) : exec cl N c95_16 (e54 x0) K = (g95_16 S110 x0 (fun y0 => K .normal [(6, .v .str y0)])) := by
  rw [← put_eq h110]
  kernel_rfl
def g95_17 (x0 : V1) (k0 : V1 → Bool → Option R) : Option R :=
k0 x0 (decide ((x0.length : Int) > (120 : Int)))
theorem t95_17 (x0) : exec cl N c95_17 [(6, .v .str x0)] K = (g95_17 x0 (fun y0 y1 => K .normal (e55 y0 y1))) := by
  kernel_rfl
def g95_18 (x0 : V1) (x1 : Bool) (k0 : V1 → Int → Option R) : Option R :=
k0 ([] : List UInt8) (3 : Int)
theorem t95_18 (x0 x1) : exec cl N c95_18 (e55 x0 x1) K = (g95_18 x0 x1 (fun y0 y1 => K .normal (e47 y0 y1))) := by
  kernel_rfl
theorem kp95_13 (x0 x1) : keep [2, 3, 6] (e47 x0 x1) = (e56 x0 x1) := by kernel_rfl
theorem kp95_14 (x0 x1) : keep [2, 3, 6] (e55 x0 x1) = [(2, .dead), (3, .dead), (6, .v .str x0)] := by kernel_rfl
theorem hb95_3 (x0 x1) : boolOf? (ent (e55 x0 x1) (.t 23)) = some x1 := by kernel_rfl
def g95_20 (x0 : V1) (k0 : V1 → Int → Option R) : Option R :=
k0 x0 (0 : Int)
theorem t95_20 (x0) : exec cl N c95_20 [(2, .dead), (3, .dead), (6, .v .str x0)] K = (g95_20 x0 (fun y0 y1 => K .normal (e47 y0 y1))) := by
  kernel_rfl
def g95_21 (N : Nat) (S107 : V0 → V13 → Option (Bool)) (S108 : Int → Option (Bool)) (S110 : V6 → V1 → Option V5) (x0 : V6) (k0 : V1 → Int → Option R) (k1 : V1 → Int → Option R) (k2 : V1 → Int → Option R) : Option R :=
(g95_0 x0 (fun y0 => (g95_1 y0 (fun y0 y1 y2 y3 => (g95_14 N S107 S108 y0 y1 y2 y3 (fun y0 y1 => (k0 y0 y1)) (fun y0 => ((fun y0 => (g95_16 S110 y0 (fun y0 => (g95_17 y0 (fun y0 y1 => brB y1 (g95_18 y0 y1 (fun y0 y1 => ((fun y0 y1 => (k1 y0 y1)) y0 y1))) ((fun y0 => (g95_20 y0 (fun y0 y1 => (k2 y0 y1)))) y0)))))) y0)))))))
theorem t95_21 (S107) (S108) (S110) (h107 : (ctr107 S107).holds cl) (h108 : (ctr108 S108).holds cl) (h110 : (ctr110 S110).holds cl) (x0) : exec cl N c95_21 [(0, .v U0 x0)] K = (g95_21 N S107 S108 S110 x0 (fun y0 y1 => K .ret (e53 y0 y1)) (fun y0 y1 => K .ret (e56 y0 y1)) (fun y0 y1 => K .ret (e47 y0 y1))) := by
  simp only [c95_21, exec_seq, seqK_normal, seqK_exit, seqK_ret, t95_0, t95_1, c95_15, exec_out, exec_block, t95_14 S107 S108 h107 h108, blockK_normal, blockK_ret, blockK_eq, kp95_11, kp95_12, t95_16 S110 h110, t95_17, c95_19, exec_cond', hb95_3, Option.bind_some, brB_true, brB_false, t95_18, exec_ret, exec_skip, kp95_13, kp95_14, t95_20]
  rfl
theorem rk95_0 (y0 y1) : retK d95 .ret (e53 y0 y1) = some [.v .str y0, .v U2 y1] := by kernel_rfl
theorem rk95_1 (y0 y1) : retK d95 .ret (e56 y0 y1) = some [.v .str y0, .v U2 y1] := by kernel_rfl
theorem rk95_2 (y0 y1) : retK d95 .ret (e47 y0 y1) = some [.v .str y0, .v U2 y1] := by kernel_rfl
def g95 (N : Nat) (S107 : V0 → V13 → Option (Bool)) (S108 : Int → Option (Bool)) (S110 : V6 → V1 → Option V5) (x0 : V6) (k : V1 → Int → Option R) : Option R :=
(g95_21 N S107 S108 S110 x0 (fun y0 y1 => k y0 y1) (fun y0 y1 => k y0 y1) (fun y0 y1 => k y0 y1))
theorem gen95 {N : Nat} {cl : Cal} (S107 : V0 → V13 → Option (Bool)) (S108 : Int → Option (Bool)) (S110 : V6 → V1 → Option V5) (h107 : (ctr107 S107).holds cl) (h108 : (ctr108 S108).holds cl) (h110 : (ctr110 S110).holds cl) (x0 : V6) {R : Type} (k : List E → Option R) : exec cl N c95 (params 0 [.v U0 x0]) (fun e env => (retK d95 e env).bind k) = g95 N S107 S108 S110 x0 (fun (r0 : V1) (r1 : Int) => k [.v .str r0, .v U2 r1]) := by
  have e0 : params 0 [.v U0 x0] = [(0, .v U0 x0)] := by kernel_rfl
  simp only [c95, e0, t95_21 S107 S108 S110 h107 h108 h110, rk95_0, rk95_1, rk95_2, Option.bind_some]
  rfl
def ctr95 (S : V6 → Option V8) : Ctr := { A := V6 × Unit, B := V1 × Int, f := 95, enc := fun a => [.v U0 a.1], dec := (decC (decV U0) dec0), S := fun a => S a.1, ent := fun b => [.v .str b.1, .v U2 b.2], ok := (decV_cons (T := U0) (fun es b h => dec0_some h)) }
def S95 (N : Nat) (x0 : V6) : Option V8 := g95 N (S107 N) (S108 N) (S110 N) x0 (fun (r0 : V1) (r1 : Int) => some (r0, r1))
def g62_0 (x0 : V1) (k0 : V1 → Option R) : Option R :=
k0 x0
theorem t62_0 (x0) : exec cl N c62_0 [(0, .v .str x0)] K = (g62_0 x0 (fun y0 => K .normal [(0, .v .str y0)])) := by
  kernel_rfl
def g62_1 (x0 : V1) (k0 : V0 → Option R) : Option R :=
k0 (x0.map fun b => (b.toNat : Int))
theorem t62_1 (x0) : exec cl N c62_1 [(0, .v .str x0)] K = (g62_1 x0 (fun y0 => K .normal (e57 y0))) := by
  kernel_rfl
def g62_2 (x0 : V0) (k0 : V0 → Int → Int → Option R) : Option R :=
k0 x0 (x0.length : Int) (0 : Int)
theorem t62_2 (x0) : exec cl N c62_2 (e57 x0) K = (g62_2 x0 (fun y0 y1 y2 => K .normal (e58 y0 y1 y2))) := by
  kernel_rfl
theorem kp62_0 (x0 x1 x2) : keep [3, 8, 9, 10] (e58 x0 x1 x2) = (e58 x0 x1 x2) := by kernel_rfl
def g62_3 (x0 : V0) (x1 x2 : Int) (k0 : V0 → Int → Int → Bool → Option R) : Option R :=
k0 x0 x1 x2 (decide (x2 < x1))
theorem t62_3 (x0 x1 x2) : exec cl N c62_3 (e58 x0 x1 x2) K = (g62_3 x0 x1 x2 (fun y0 y1 y2 y3 => K .normal (e59 y0 y1 y2 y3))) := by
  kernel_rfl
theorem kp62_1 (x0 x1 x2 x3) : keep [3, 8, 9, 10] (e59 x0 x1 x2 x3) = (e58 x0 x1 x2) := by kernel_rfl
theorem hb62_0 (x0 x1 x2 x3) : boolOf? (ent (e59 x0 x1 x2 x3) (.t 11)) = some x3 := by kernel_rfl
def g62_5 (x0 : V0) (x1 x2 : Int) (k0 : V0 → Int → Int → Int → Int → Option R) : Option R :=
if 0 ≤ x2 ∧ x2 < (x0.length : Int) then
if x2.toNat < x0.length then
k0 x0 x2 (x0.getD x2.toNat (0 : Int)) x1 x2
else none
else none
theorem t62_5 (x0 x1 x2) : exec cl N c62_5 (e58 x0 x1 x2) K = (g62_5 x0 x1 x2 (fun y0 y1 y2 y3 y4 => K .normal (e60 y0 y1 y2 y3 y4))) := by
  kernel_rfl
def g62_6 (x0 : V0) (x1 x2 x3 x4 : Int) (k0 : V0 → Int → Int → Int → Int → Bool → Option R) : Option R :=
brB (decide (x2 ≥ (65 : Int))) (k0 x0 x1 x2 x3 x4 (decide (x2 ≤ (90 : Int)))) (k0 x0 x1 x2 x3 x4 false)
theorem t62_6 (x0 x1 x2 x3 x4) : exec cl N c62_6 (e60 x0 x1 x2 x3 x4) K = (g62_6 x0 x1 x2 x3 x4 (fun y0 y1 y2 y3 y4 y5 => K .normal (e61 y0 y1 y2 y3 y4 y5))) := by
  kernel_rfl
def g62_7 (x0 : V0) (x1 x2 x3 x4 : Int) (x5 : Bool) (k0 : V0 → Int → Int → Option R) : Option R :=
if 0 ≤ x1 ∧ x1 < (x0.length : Int) then
if x1.toNat < x0.length then
k0 (x0.set x1.toNat (IntKind.u8.wrap ((IntKind.u8.wrap (x2 - (65 : Int))) + (97 : Int)))) x3 x4
else none
else none
theorem t62_7 (x0 x1 x2 x3 x4 x5) : exec cl N c62_7 (e61 x0 x1 x2 x3 x4 x5) K = (g62_7 x0 x1 x2 x3 x4 x5 (fun y0 y1 y2 => K .normal (e58 y0 y1 y2))) := by
  kernel_rfl
theorem kp62_2 (x0 x1 x2 x3 x4 x5) : keep [3, 8, 9, 10] (e61 x0 x1 x2 x3 x4 x5) = (e58 x0 x3 x4) := by kernel_rfl
theorem hb62_1 (x0 x1 x2 x3 x4 x5) : boolOf? (ent (e61 x0 x1 x2 x3 x4 x5) (.t 20)) = some x5 := by kernel_rfl
def g62_9 (x0 : V0) (x1 x2 : Int) (k0 : V0 → Int → Int → Option R) : Option R :=
(g62_5 x0 x1 x2 (fun y0 y1 y2 y3 y4 => (g62_6 y0 y1 y2 y3 y4 (fun y0 y1 y2 y3 y4 y5 => brB y5 (g62_7 y0 y1 y2 y3 y4 y5 (fun y0 y1 y2 => (k0 y0 y1 y2))) (k0 y0 y3 y4)))))
theorem t62_9 (x0 x1 x2) : exec cl N c62_9 (e58 x0 x1 x2) K = (g62_9 x0 x1 x2 (fun y0 y1 y2 => K .normal (e58 y0 y1 y2))) := by
  simp only [c62_9, exec_out, exec_block, exec_seq, seqK_normal, seqK_exit, seqK_ret, t62_5, t62_6, c62_8, exec_cond', hb62_1, Option.bind_some, brB_true, brB_false, t62_7, exec_skip, kp62_0, kp62_2, blockK_normal, blockK_ret, blockK_eq]
  rfl
def g62_10 (x0 : V0) (x1 x2 : Int) (k0 : V0 → Int → Int → Option R) : Option R :=
k0 x0 x1 (IntKind.i64.wrap (x2 + (1 : Int)))
theorem t62_10 (x0 x1 x2) : exec cl N c62_10 (e58 x0 x1 x2) K = (g62_10 x0 x1 x2 (fun y0 y1 y2 => K .normal (e58 y0 y1 y2))) := by
  kernel_rfl
def g62_11 (x0 : V0) (x1 x2 : Int) (k0 : V0 → Int → Int → Option R) (k1 : V0 → Int → Int → Option R) : Option R :=
(g62_3 x0 x1 x2 (fun y0 y1 y2 y3 => brB y3 ((fun y0 y1 y2 => (g62_9 y0 y1 y2 (fun y0 y1 y2 => (g62_10 y0 y1 y2 k0)))) y0 y1 y2) (k1 y0 y1 y2)))
theorem t62_11 (x0 x1 x2) : exec cl N c62_11 (e58 x0 x1 x2) K = (g62_11 x0 x1 x2 (fun y0 y1 y2 => K .normal (e58 y0 y1 y2)) (fun y0 y1 y2 => K (.exit 0) (e58 y0 y1 y2))) := by
  simp only [c62_11, exec_seq, seqK_normal, seqK_exit, seqK_ret, t62_3, c62_4, exec_out, exec_cond', hb62_0, Option.bind_some, brB_true, brB_false, exec_skip, exec_exit, kp62_1, t62_9, t62_10]
  rfl
def l62_12 {R : Type} (k0 : V0 → Int → Int → Option R) : Nat → V0 → Int → Int → Option R
  | 0, _, _, _ => none
  | m + 1, x0, x1, x2 => (g62_11 x0 x1 x2 (fun y0 y1 y2 => l62_12 k0 m y0 y1 y2) k0)
theorem lt62_12 : ∀ (m) (x0 x1 x2), iter [3, 8, 9, 10] (fun env K => exec cl N c62_11 env K) K m (e58 x0 x1 x2) = l62_12 (fun y0 y1 y2 => K (.exit 0) (e58 y0 y1 y2)) m x0 x1 x2 := by
  intro m
  induction m with
  | zero => intros; rfl
  | succ m ih =>
    intro x0 x1 x2
    simp only [iter_succ, t62_11, loopK_normal, loopK_exit, loopK_ret, kp62_0, ih]
    rfl
theorem kp62_3 (x0 x1 x2) : keep [3] (e58 x0 x1 x2) = (e57 x0) := by kernel_rfl
def g62_12 (N : Nat) (x0 : V0) (x1 x2 : Int) (k0 : V0 → Option R) : Option R :=
l62_12 (fun y0 y1 y2 => k0 y0) N x0 x1 x2
theorem t62_12 (x0 x1 x2) : exec cl N c62_12 (e58 x0 x1 x2) K = (g62_12 N x0 x1 x2 (fun y0 => K (.exit 0) (e57 y0))) := by
  simp only [c62_12, exec_out, exec_loop, kp62_0, lt62_12, kp62_3]
  rfl
theorem kp62_4 (x0) : keep [3] (e57 x0) = (e57 x0) := by kernel_rfl
def g62_14 (x0 : V0) (k0 : V1 → Option R) : Option R :=
k0 (x0.map fun n => UInt8.ofNat n.toNat)
theorem t62_14 (x0) : exec cl N c62_14 (e57 x0) K = (g62_14 x0 (fun y0 => K .normal [(2, .v .str y0)])) := by
  kernel_rfl
def g62_15 (N : Nat) (x0 : V1) (k0 : V1 → Option R) : Option R :=
(g62_0 x0 (fun y0 => (g62_1 y0 (fun y0 => (g62_2 y0 (fun y0 y1 y2 => (g62_12 N y0 y1 y2 (fun y0 => ((fun y0 => (g62_14 y0 (fun y0 => (k0 y0)))) y0)))))))))
theorem t62_15 (x0) : exec cl N c62_15 [(0, .v .str x0)] K = (g62_15 N x0 (fun y0 => K .ret [(2, .v .str y0)])) := by
  simp only [c62_15, exec_seq, seqK_normal, seqK_exit, seqK_ret, t62_0, t62_1, t62_2, c62_13, exec_out, exec_block, t62_12, blockK_normal, blockK_ret, blockK_eq, kp62_4, t62_14, exec_ret]
  rfl
theorem rk62_0 (y0) : retK d62 .ret [(2, .v .str y0)] = some [.v .str y0] := by kernel_rfl
def g62 (N : Nat) (x0 : V1) (k : V1 → Option R) : Option R :=
(g62_15 N x0 (fun y0 => k y0))
theorem gen62 {N : Nat} {cl : Cal} (x0 : V1) {R : Type} (k : List E → Option R) : exec cl N c62 (params 0 [.v .str x0]) (fun e env => (retK d62 e env).bind k) = g62 N x0 (fun (r0 : V1) => k [.v .str r0]) := by
  have e0 : params 0 [.v .str x0] = [(0, .v .str x0)] := by kernel_rfl
  simp only [c62, e0, t62_15, rk62_0, Option.bind_some]
  rfl
def ctr62 (S : V1 → Option V5) : Ctr := { A := V1 × Unit, B := V1, f := 62, enc := fun a => [.v .str a.1], dec := (decC (decV .str) dec0), S := fun a => S a.1, ent := fun b => [.v .str b], ok := (decV_cons (T := .str) (fun es b h => dec0_some h)) }
def S62 (N : Nat) (x0 : V1) : Option V5 := g62 N x0 (fun (r0 : V1) => some (r0))
def g83_0 (x0 : V1) (k0 : V1 → Option R) : Option R :=
k0 x0
theorem t83_0 (x0) : exec cl N c83_0 [(0, .v .str x0)] K = (g83_0 x0 (fun y0 => K .normal [(0, .v .str y0)])) := by
  kernel_rfl
def g83_1 (x0 : V1) (k0 : V1 → Bool → Option R) : Option R :=
k0 x0 (decide ((x0.length : Int) > (16 : Int)))
theorem t83_1 (x0) : exec cl N c83_1 [(0, .v .str x0)] K = (g83_1 x0 (fun y0 y1 => K .normal (e62 y0 y1))) := by
  kernel_rfl
def g83_2 (x0 : V1) (x1 : Bool) (k0 : Int → Option R) : Option R :=
k0 (3 : Int)
theorem t83_2 (x0 x1) : exec cl N c83_2 (e62 x0 x1) K = (g83_2 x0 x1 (fun y0 => K .normal [(2, .v U2 y0)])) := by
  kernel_rfl
theorem kp83_0 (x0) : keep [0, 2] [(2, .v U2 x0)] = (e15 x0) := by kernel_rfl
theorem kp83_1 (x0 x1) : keep [0, 2] (e62 x0 x1) = (e16 x0) := by kernel_rfl
theorem hb83_0 (x0 x1) : boolOf? (ent (e62 x0 x1) (.t 7)) = some x1 := by kernel_rfl
def g83_4 (S95 : V6 → Option V8) (x0 : V1) (k0 : V1 → Int → Option R) : Option R :=
(S95 [x0]).bind fun r195 =>
k0 x0 r195.2
theorem t83_4 (S95) (h95 : (ctr95 S95).holds cl) (x0) : exec cl N c83_4 (e16 x0) K = (g83_4 S95 x0 (fun y0 y1 => K .normal [(0, .v .str y0), (4, .v U2 y1)])) := by
  rw [← put_eq h95]
  kernel_rfl
def g83_5 (S62 : V1 → Option V5) (x0 : V1) (x1 : Int) (k0 : Bool → Option R) : Option R :=
brB (x1 != (0 : Int)) (k0 true) ((S62 x0).bind fun r197 =>
k0 (r197 != x0))
theorem t83_5 (S62) (h62 : (ctr62 S62).holds cl) (x0 x1) : exec cl N c83_5 [(0, .v .str x0), (4, .v U2 x1)] K = (g83_5 S62 x0 x1 (fun y0 => K .normal [(21, .v .bool y0)])) := by
  rw [← put_eq h62]
  kernel_rfl
def g83_6 (x0 : Bool) (k0 : Int → Option R) : Option R :=
k0 (2 : Int)
theorem t83_6 (x0) : exec cl N c83_6 [(21, .v .bool x0)] K = (g83_6 x0 (fun y0 => K .normal [(2, .v U2 y0)])) := by
  kernel_rfl
theorem kp83_2 (x0) : keep [2] [(2, .v U2 x0)] = [(2, .v U2 x0)] := by kernel_rfl
theorem kp83_3 (x0) : keep [2] [(21, .v .bool x0)] = [(2, .dead)] := by kernel_rfl
theorem hb83_1 (x0) : boolOf? (ent [(21, .v .bool x0)] (.t 21)) = some x0 := by kernel_rfl
def g83_8 (k0 : Int → Option R) : Option R :=
k0 (0 : Int)
theorem t83_8 : exec cl N c83_8 [(2, .dead)] K = (g83_8 (fun y0 => K .normal [(2, .v U2 y0)])) := by
  kernel_rfl
def g83_9 (S62 : V1 → Option V5) (S95 : V6 → Option V8) (x0 : V1) (k0 : Int → Option R) (k1 : Int → Option R) : Option R :=
(g83_0 x0 (fun y0 => (g83_1 y0 (fun y0 y1 => brB y1 (g83_2 y0 y1 (fun y0 => ((fun y0 => (k0 y0)) y0))) ((fun y0 => (g83_4 S95 y0 (fun y0 y1 => (g83_5 S62 y0 y1 (fun y0 => brB y0 (g83_6 y0 (fun y0 => ((fun y0 => (k1 y0)) y0))) (g83_8 (fun y0 => (k1 y0)))))))) y0)))))
theorem t83_9 (S62) (S95) (h62 : (ctr62 S62).holds cl) (h95 : (ctr95 S95).holds cl) (x0) : exec cl N c83_9 [(0, .v .str x0)] K = (g83_9 S62 S95 x0 (fun y0 => K .ret (e15 y0)) (fun y0 => K .ret [(2, .v U2 y0)])) := by
  simp only [c83_9, exec_seq, seqK_normal, seqK_exit, seqK_ret, t83_0, t83_1, c83_3, exec_out, exec_cond', hb83_0, Option.bind_some, brB_true, brB_false, t83_2, exec_ret, exec_skip, kp83_0, kp83_1, t83_4 S95 h95, t83_5 S62 h62, c83_7, hb83_1, t83_6, kp83_2, kp83_3, t83_8]
  rfl
theorem rk83_0 (y0) : retK d83 .ret (e15 y0) = some [.v U2 y0] := by kernel_rfl
theorem rk83_1 (y0) : retK d83 .ret [(2, .v U2 y0)] = some [.v U2 y0] := by kernel_rfl
def g83 (S62 : V1 → Option V5) (S95 : V6 → Option V8) (x0 : V1) (k : Int → Option R) : Option R :=
(g83_9 S62 S95 x0 (fun y0 => k y0) (fun y0 => k y0))
theorem gen83 {N : Nat} {cl : Cal} (S62 : V1 → Option V5) (S95 : V6 → Option V8) (h62 : (ctr62 S62).holds cl) (h95 : (ctr95 S95).holds cl) (x0 : V1) {R : Type} (k : List E → Option R) : exec cl N c83 (params 0 [.v .str x0]) (fun e env => (retK d83 e env).bind k) = g83 S62 S95 x0 (fun (r0 : Int) => k [.v U2 r0]) := by
  have e0 : params 0 [.v .str x0] = [(0, .v .str x0)] := by kernel_rfl
  simp only [c83, e0, t83_9 S62 S95 h62 h95, rk83_0, rk83_1, Option.bind_some]
  rfl
def ctr83 (S : V1 → Option (Int)) : Ctr := { A := V1 × Unit, B := Int, f := 83, enc := fun a => [.v .str a.1], dec := (decC (decV .str) dec0), S := fun a => S a.1, ent := fun b => [.v U2 b], ok := (decV_cons (T := .str) (fun es b h => dec0_some h)) }
def S83 (N : Nat) (x0 : V1) : Option (Int) := g83 (S62 N) (S95 N) x0 (fun (r0 : Int) => some (r0))
def g96_0 (x0 : V6) (x1 : V1) (k0 : V6 → V1 → Option R) : Option R :=
k0 x0 x1
theorem t96_0 (x0 x1) : exec cl N c96_0 (e32 x0 x1) K = (g96_0 x0 x1 (fun y0 y1 => K .normal (e32 y0 y1))) := by
  kernel_rfl
def g96_1 (x0 : V6) (x1 : V1) (k0 : V6 → V1 → Int → Int → Option R) : Option R :=
k0 x0 x1 (x0.length : Int) (0 : Int)
theorem t96_1 (x0 x1) : exec cl N c96_1 (e32 x0 x1) K = (g96_1 x0 x1 (fun y0 y1 y2 y3 => K .normal (e63 y0 y1 y2 y3))) := by
  kernel_rfl
theorem kp96_0 (x0 x1 x2 x3) : keep [0, 1, 7, 8] (e63 x0 x1 x2 x3) = (e63 x0 x1 x2 x3) := by kernel_rfl
def g96_2 (x0 : V6) (x1 : V1) (x2 x3 : Int) (k0 : V6 → V1 → Int → Int → Bool → Option R) : Option R :=
k0 x0 x1 x2 x3 (decide (x3 < x2))
theorem t96_2 (x0 x1 x2 x3) : exec cl N c96_2 (e63 x0 x1 x2 x3) K = (g96_2 x0 x1 x2 x3 (fun y0 y1 y2 y3 y4 => K .normal (e64 y0 y1 y2 y3 y4))) := by
  kernel_rfl
theorem kp96_1 (x0 x1 x2 x3 x4) : keep [0, 1, 7, 8] (e64 x0 x1 x2 x3 x4) = (e63 x0 x1 x2 x3) := by kernel_rfl
theorem hb96_0 (x0 x1 x2 x3 x4) : boolOf? (ent (e64 x0 x1 x2 x3 x4) (.t 9)) = some x4 := by kernel_rfl
def g96_4 (x0 : V6) (x1 : V1) (x2 x3 : Int) (k0 : V6 → V1 → Int → Int → Int → Option R) : Option R :=
k0 x0 x1 x3 x2 x3
theorem t96_4 (x0 x1 x2 x3) : exec cl N c96_4 (e63 x0 x1 x2 x3) K = (g96_4 x0 x1 x2 x3 (fun y0 y1 y2 y3 y4 => K .normal [(0, .v U0 y0), (1, .v .str y1), (5, .v U2 y2), (7, .v U2 y3), (8, .v U2 y4)])) := by
  kernel_rfl
def g96_5 (x0 : V6) (x1 : V1) (x2 x3 x4 : Int) (k0 : V6 → V1 → Int → Int → Int → Bool → Option R) : Option R :=
if 0 ≤ x2 ∧ x2 < (x0.length : Int) then
k0 x0 x1 x2 x3 x4 (x1 == (x0.getD x2.toNat []))
else none
theorem t96_5 (x0 x1 x2 x3 x4) : exec cl N c96_5 [(0, .v U0 x0), (1, .v .str x1), (5, .v U2 x2), (7, .v U2 x3), (8, .v U2 x4)] K = (g96_5 x0 x1 x2 x3 x4 (fun y0 y1 y2 y3 y4 y5 => K .normal (e65 y0 y1 y2 y3 y4 y5))) := by
  kernel_rfl
def g96_6 (x0 : V6) (x1 : V1) (x2 x3 x4 : Int) (x5 : Bool) (k0 : Int → Option R) : Option R :=
k0 x2
theorem t96_6 (x0 x1 x2 x3 x4 x5) : exec cl N c96_6 (e65 x0 x1 x2 x3 x4 x5) K = (g96_6 x0 x1 x2 x3 x4 x5 (fun y0 => K .normal [(4, .v U2 y0)])) := by
  kernel_rfl
theorem kp96_2 (x0) : keep [0, 1, 4, 7, 8] [(4, .v U2 x0)] = (e30 x0) := by kernel_rfl
theorem kp96_3 (x0 x1 x2 x3 x4 x5) : keep [0, 1, 4, 7, 8] (e65 x0 x1 x2 x3 x4 x5) = (e66 x0 x1 x3 x4) := by kernel_rfl
theorem hb96_1 (x0 x1 x2 x3 x4 x5) : boolOf? (ent (e65 x0 x1 x2 x3 x4 x5) (.t 16)) = some x5 := by kernel_rfl
theorem kp96_4 (x0) : keep [0, 1, 4, 7, 8] (e30 x0) = (e30 x0) := by kernel_rfl
theorem kp96_5 (x0 x1 x2 x3) : keep [0, 1, 4, 7, 8] (e66 x0 x1 x2 x3) = (e66 x0 x1 x2 x3) := by kernel_rfl
def g96_9 (x0 : V6) (x1 : V1) (x2 x3 : Int) (k0 : V6 → V1 → Int → Int → Option R) : Option R :=
k0 x0 x1 x2 (IntKind.i64.wrap (x3 + (1 : Int)))
theorem t96_9 (x0 x1 x2 x3) : exec cl N c96_9 (e66 x0 x1 x2 x3) K = (g96_9 x0 x1 x2 x3 (fun y0 y1 y2 y3 => K .normal (e63 y0 y1 y2 y3))) := by
  kernel_rfl
def g96_10 (x0 : V6) (x1 : V1) (x2 x3 : Int) (k0 : Int → Option R) (k1 : V6 → V1 → Int → Int → Option R) (k2 : V6 → V1 → Int → Int → Option R) : Option R :=
(g96_2 x0 x1 x2 x3 (fun y0 y1 y2 y3 y4 => brB y4 ((fun y0 y1 y2 y3 => (g96_4 y0 y1 y2 y3 (fun y0 y1 y2 y3 y4 => (g96_5 y0 y1 y2 y3 y4 (fun y0 y1 y2 y3 y4 y5 => brB y5 (g96_6 y0 y1 y2 y3 y4 y5 (fun y0 => ((fun y0 => (k0 y0)) y0))) (g96_9 y0 y1 y3 y4 k1)))))) y0 y1 y2 y3) (k2 y0 y1 y2 y3)))
theorem t96_10 (x0 x1 x2 x3) : exec cl N c96_10 (e63 x0 x1 x2 x3) K = (g96_10 x0 x1 x2 x3 (fun y0 => K .ret (e30 y0)) (fun y0 y1 y2 y3 => K .normal (e63 y0 y1 y2 y3)) (fun y0 y1 y2 y3 => K (.exit 0) (e63 y0 y1 y2 y3))) := by
  simp only [c96_10, exec_seq, seqK_normal, seqK_exit, seqK_ret, t96_2, c96_3, exec_out, exec_cond', hb96_0, Option.bind_some, brB_true, brB_false, exec_skip, exec_exit, kp96_1, c96_8, exec_block, t96_4, t96_5, c96_7, hb96_1, t96_6, exec_ret, kp96_2, kp96_3, blockK_normal, blockK_ret, blockK_eq, kp96_4, kp96_5, t96_9]
  rfl
def l96_11 {R : Type} (k0 : Int → Option R) (k1 : V6 → V1 → Int → Int → Option R) : Nat → V6 → V1 → Int → Int → Option R
  | 0, _, _, _, _ => none
  | m + 1, x0, x1, x2, x3 => (g96_10 x0 x1 x2 x3 k0 (fun y0 y1 y2 y3 => l96_11 k0 k1 m y0 y1 y2 y3) k1)
theorem lt96_11 : ∀ (m) (x0 x1 x2 x3), iter [0, 1, 7, 8] (fun env K => exec cl N c96_10 env K) K m (e63 x0 x1 x2 x3) = l96_11 (fun y0 => K .ret (e30 y0)) (fun y0 y1 y2 y3 => K (.exit 0) (e63 y0 y1 y2 y3)) m x0 x1 x2 x3 := by
  intro m
  induction m with
  | zero => intros; rfl
  | succ m ih =>
    intro x0 x1 x2 x3
    simp only [iter_succ, t96_10, loopK_normal, loopK_exit, loopK_ret, kp96_0, ih]
    rfl
theorem kp96_6 (x0) : keep [4] (e30 x0) = [(4, .v U2 x0)] := by kernel_rfl
theorem kp96_7 (x0 x1 x2 x3) : keep [4] (e63 x0 x1 x2 x3) = [(4, .dead)] := by kernel_rfl
def g96_11 (N : Nat) (x0 : V6) (x1 : V1) (x2 x3 : Int) (k0 : Int → Option R) (k1 : Option R) : Option R :=
l96_11 (fun y0 => k0 y0) (fun y0 y1 y2 y3 => k1) N x0 x1 x2 x3
theorem t96_11 (x0 x1 x2 x3) : exec cl N c96_11 (e63 x0 x1 x2 x3) K = (g96_11 N x0 x1 x2 x3 (fun y0 => K .ret [(4, .v U2 y0)]) (K (.exit 0) [(4, .dead)])) := by
  simp only [c96_11, exec_out, exec_loop, kp96_0, lt96_11, kp96_6, kp96_7]
  rfl
theorem kp96_8 (x0) : keep [4] [(4, .v U2 x0)] = [(4, .v U2 x0)] := by kernel_rfl
theorem kp96_9 : keep [4] [(4, .dead)] = [(4, .dead)] := by kernel_rfl
def g96_13 (k0 : Int → Option R) : Option R :=
k0 (-1 : Int)
theorem t96_13 : exec cl N c96_13 [(4, .dead)] K = (g96_13 (fun y0 => K .normal [(4, .v U2 y0)])) := by
  kernel_rfl
def g96_14 (N : Nat) (x0 : V6) (x1 : V1) (k0 : Int → Option R) : Option R :=
(g96_0 x0 x1 (fun y0 y1 => (g96_1 y0 y1 (fun y0 y1 y2 y3 => (g96_11 N y0 y1 y2 y3 (fun y0 => (k0 y0)) (g96_13 (fun y0 => (k0 y0))))))))
theorem t96_14 (x0 x1) : exec cl N c96_14 (e32 x0 x1) K = (g96_14 N x0 x1 (fun y0 => K .ret [(4, .v U2 y0)])) := by
  simp only [c96_14, exec_seq, seqK_normal, seqK_exit, seqK_ret, t96_0, t96_1, c96_12, exec_out, exec_block, t96_11, blockK_normal, blockK_ret, blockK_eq, kp96_8, kp96_9, t96_13, exec_ret]
  rfl
theorem rk96_0 (y0) : retK d96 .ret [(4, .v U2 y0)] = some [.v U2 y0] := by kernel_rfl
def g96 (N : Nat) (x0 : V6) (x1 : V1) (k : Int → Option R) : Option R :=
(g96_14 N x0 x1 (fun y0 => k y0))
theorem gen96 {N : Nat} {cl : Cal} (x0 : V6) (x1 : V1) {R : Type} (k : List E → Option R) : exec cl N c96 (params 0 [.v U0 x0, .v .str x1]) (fun e env => (retK d96 e env).bind k) = g96 N x0 x1 (fun (r0 : Int) => k [.v U2 r0]) := by
  have e0 : params 0 [.v U0 x0, .v .str x1] = (e32 x0 x1) := by kernel_rfl
  simp only [c96, e0, t96_14, rk96_0, Option.bind_some]
  rfl
def ctr96 (S : V6 → V1 → Option (Int)) : Ctr := { A := V6 × V1 × Unit, B := Int, f := 96, enc := fun a => [.v U0 a.1, .v .str a.2.1], dec := (decC (decV U0) (decC (decV .str) dec0)), S := fun a => S a.1 a.2.1, ent := fun b => [.v U2 b], ok := (decV_cons (T := U0) (decV_cons (T := .str) (fun es b h => dec0_some h))) }
def S96 (N : Nat) (x0 : V6) (x1 : V1) : Option (Int) := g96 N x0 x1 (fun (r0 : Int) => some (r0))
def g84_0 (x0 : V6) (x1 : V1) (k0 : V6 → V1 → Option R) : Option R :=
k0 x0 x1
theorem t84_0 (x0 x1) : exec cl N c84_0 (e32 x0 x1) K = (g84_0 x0 x1 (fun y0 y1 => K .normal (e32 y0 y1))) := by
  kernel_rfl
def g84_1 (S96 : V6 → V1 → Option (Int)) (x0 : V6) (x1 : V1) (k0 : Bool → Option R) : Option R :=
(S96 x0 x1).bind fun r209 =>
k0 (decide (r209 ≥ (0 : Int)))
theorem t84_1 (S96) (h96 : (ctr96 S96).holds cl) (x0 x1) : exec cl N c84_1 (e32 x0 x1) K = (g84_1 S96 x0 x1 (fun y0 => K .normal [(4, .v .bool y0)])) := by
  rw [← put_eq h96]
  kernel_rfl
def g84_2 (S96 : V6 → V1 → Option (Int)) (x0 : V6) (x1 : V1) (k0 : Bool → Option R) : Option R :=
(g84_0 x0 x1 (fun y0 y1 => (g84_1 S96 y0 y1 (fun y0 => (k0 y0)))))
theorem t84_2 (S96) (h96 : (ctr96 S96).holds cl) (x0 x1) : exec cl N c84_2 (e32 x0 x1) K = (g84_2 S96 x0 x1 (fun y0 => K .ret [(4, .v .bool y0)])) := by
  simp only [c84_2, exec_seq, seqK_normal, seqK_exit, seqK_ret, t84_0, t84_1 S96 h96, exec_ret]
  rfl
theorem rk84_0 (y0) : retK d84 .ret [(4, .v .bool y0)] = some [.v .bool y0] := by kernel_rfl
def g84 (S96 : V6 → V1 → Option (Int)) (x0 : V6) (x1 : V1) (k : Bool → Option R) : Option R :=
(g84_2 S96 x0 x1 (fun y0 => k y0))
theorem gen84 {N : Nat} {cl : Cal} (S96 : V6 → V1 → Option (Int)) (h96 : (ctr96 S96).holds cl) (x0 : V6) (x1 : V1) {R : Type} (k : List E → Option R) : exec cl N c84 (params 0 [.v U0 x0, .v .str x1]) (fun e env => (retK d84 e env).bind k) = g84 S96 x0 x1 (fun (r0 : Bool) => k [.v .bool r0]) := by
  have e0 : params 0 [.v U0 x0, .v .str x1] = (e32 x0 x1) := by kernel_rfl
  simp only [c84, e0, t84_2 S96 h96, rk84_0, Option.bind_some]
  rfl
def ctr84 (S : V6 → V1 → Option (Bool)) : Ctr := { A := V6 × V1 × Unit, B := Bool, f := 84, enc := fun a => [.v U0 a.1, .v .str a.2.1], dec := (decC (decV U0) (decC (decV .str) dec0)), S := fun a => S a.1 a.2.1, ent := fun b => [.v .bool b], ok := (decV_cons (T := U0) (decV_cons (T := .str) (fun es b h => dec0_some h))) }
def S84 (N : Nat) (x0 : V6) (x1 : V1) : Option (Bool) := g84 (S96 N) x0 x1 (fun (r0 : Bool) => some (r0))
def g59_0 (x0 : V21) (k0 : V21 → Option R) : Option R :=
k0 x0
theorem t59_0 (x0) : exec cl N c59_0 [(0, .v U20 x0)] K = (g59_0 x0 (fun y0 => K .normal [(1, .loc U20 .no y0)])) := by
  kernel_rfl
def g59_1 (x0 : V21) (k0 : V21 → Bool → Option R) : Option R :=
brB (decide (x0.1 < (1 : Int))) (k0 x0 true) (brB (decide (x0.1 > (12 : Int))) (k0 x0 true) (brB (decide (x0.2.1 < (0 : Int))) (k0 x0 true) (k0 x0 (decide (x0.2.1 > (999 : Int))))))
theorem t59_1 (x0) : exec cl N c59_1 [(1, .loc U20 .no x0)] K = (g59_1 x0 (fun y0 y1 => K .normal (e67 y0 y1))) := by
  kernel_rfl
def g59_2 (x0 : V21) (x1 : Bool) (k0 : Int → Option R) : Option R :=
k0 (6 : Int)
theorem t59_2 (x0 x1) : exec cl N c59_2 (e67 x0 x1) K = (g59_2 x0 x1 (fun y0 => K .normal [(2, .v U2 y0)])) := by
  kernel_rfl
theorem kp59_0 (x0) : keep [1, 2] [(2, .v U2 x0)] = (e68 x0) := by kernel_rfl
def g59_3 (x0 : V21) (x1 : Bool) (k0 : V21 → Bool → Option R) : Option R :=
k0 x0 (decide ((x0.2.2.1.length : Int) > (20 : Int)))
theorem t59_3 (x0 x1) : exec cl N c59_3 (e67 x0 x1) K = (g59_3 x0 x1 (fun y0 y1 => K .normal (e69 y0 y1))) := by
  kernel_rfl
def g59_4 (x0 : V21) (x1 : Bool) (k0 : Int → Option R) : Option R :=
k0 (3 : Int)
theorem t59_4 (x0 x1) : exec cl N c59_4 (e69 x0 x1) K = (g59_4 x0 x1 (fun y0 => K .normal [(2, .v U2 y0)])) := by
  kernel_rfl
theorem kp59_1 (x0 x1) : keep [1, 2] (e69 x0 x1) = (e70 x0) := by kernel_rfl
theorem hb59_0 (x0 x1) : boolOf? (ent (e69 x0 x1) (.t 25)) = some x1 := by kernel_rfl
theorem kp59_2 (x0) : keep [1, 2] (e68 x0) = (e68 x0) := by kernel_rfl
theorem kp59_3 (x0) : keep [1, 2] (e70 x0) = (e70 x0) := by kernel_rfl
theorem hb59_1 (x0 x1) : boolOf? (ent (e67 x0 x1) (.t 6)) = some x1 := by kernel_rfl
def g59_8 (x0 : V21) (k0 : V21 → V6 → Int → Int → Option R) : Option R :=
k0 x0 x0.2.2.1 (x0.2.2.1.length : Int) (0 : Int)
theorem t59_8 (x0) : exec cl N c59_8 (e70 x0) K = (g59_8 x0 (fun y0 y1 y2 y3 => K .normal (e71 y0 y1 y2 y3))) := by
  kernel_rfl
theorem kp59_4 (x0 x1 x2 x3) : keep [1, 31, 32, 33] (e71 x0 x1 x2 x3) = (e71 x0 x1 x2 x3) := by kernel_rfl
def g59_9 (x0 : V21) (x1 : V6) (x2 x3 : Int) (k0 : V21 → V6 → Int → Int → Bool → Option R) : Option R :=
k0 x0 x1 x2 x3 (decide (x3 < x2))
theorem t59_9 (x0 x1 x2 x3) : exec cl N c59_9 (e71 x0 x1 x2 x3) K = (g59_9 x0 x1 x2 x3 (fun y0 y1 y2 y3 y4 => K .normal (e72 y0 y1 y2 y3 y4))) := by
  kernel_rfl
theorem kp59_5 (x0 x1 x2 x3 x4) : keep [1, 31, 32, 33] (e72 x0 x1 x2 x3 x4) = (e71 x0 x1 x2 x3) := by kernel_rfl
theorem hb59_2 (x0 x1 x2 x3 x4) : boolOf? (ent (e72 x0 x1 x2 x3 x4) (.t 34)) = some x4 := by kernel_rfl
def g59_11 (x0 : V21) (x1 : V6) (x2 x3 : Int) (k0 : V21 → Int → V1 → V6 → Int → Int → Option R) : Option R :=
if 0 ≤ x3 ∧ x3 < (x1.length : Int) then
k0 x0 x3 (x1.getD x3.toNat []) x1 x2 x3
else none
theorem t59_11 (x0 x1 x2 x3) : exec cl N c59_11 (e71 x0 x1 x2 x3) K = (g59_11 x0 x1 x2 x3 (fun y0 y1 y2 y3 y4 y5 => K .normal (e73 y0 y1 y2 y3 y4 y5))) := by
  kernel_rfl
def g59_12 (S83 : V1 → Option (Int)) (x0 : V21) (x1 : Int) (x2 : V1) (x3 : V6) (x4 x5 : Int) (k0 : V21 → Int → V1 → Int → V6 → Int → Int → Option R) : Option R :=
(S83 x2).bind fun r219 =>
k0 x0 x1 x2 r219 x3 x4 x5
theorem t59_12 (S83) (h83 : (ctr83 S83).holds cl) (x0 x1 x2 x3 x4 x5) : exec cl N c59_12 (e73 x0 x1 x2 x3 x4 x5) K = (g59_12 S83 x0 x1 x2 x3 x4 x5 (fun y0 y1 y2 y3 y4 y5 y6 => K .normal (e74 y0 y1 y2 y3 y4 y5 y6))) := by
  rw [← put_eq h83]
  kernel_rfl
def g59_13 (x0 : V21) (x1 : Int) (x2 : V1) (x3 : Int) (x4 : V6) (x5 x6 : Int) (k0 : V21 → Int → V1 → Int → V6 → Int → Int → Bool → Option R) : Option R :=
k0 x0 x1 x2 x3 x4 x5 x6 (x3 != (0 : Int))
theorem t59_13 (x0 x1 x2 x3 x4 x5 x6) : exec cl N c59_13 (e74 x0 x1 x2 x3 x4 x5 x6) K = (g59_13 x0 x1 x2 x3 x4 x5 x6 (fun y0 y1 y2 y3 y4 y5 y6 y7 => K .normal (e75 y0 y1 y2 y3 y4 y5 y6 y7))) := by
  kernel_rfl
def g59_14 (x0 : V21) (x1 : Int) (x2 : V1) (x3 : Int) (x4 : V6) (x5 x6 : Int) (x7 : Bool) (k0 : Int → Option R) : Option R :=
k0 x3
theorem t59_14 (x0 x1 x2 x3 x4 x5 x6 x7) : exec cl N c59_14 (e75 x0 x1 x2 x3 x4 x5 x6 x7) K = (g59_14 x0 x1 x2 x3 x4 x5 x6 x7 (fun y0 => K .normal [(2, .v U2 y0)])) := by
  kernel_rfl
theorem kp59_6 (x0) : keep [1, 2, 3, 4, 31, 32, 33] [(2, .v U2 x0)] = (e76 x0) := by kernel_rfl
theorem kp59_7 (x0 x1 x2 x3 x4 x5 x6 x7) : keep [1, 2, 3, 4, 31, 32, 33] (e75 x0 x1 x2 x3 x4 x5 x6 x7) = (e77 x0 x1 x2 x4 x5 x6) := by kernel_rfl
theorem hb59_3 (x0 x1 x2 x3 x4 x5 x6 x7) : boolOf? (ent (e75 x0 x1 x2 x3 x4 x5 x6 x7) (.t 41)) = some x7 := by kernel_rfl
def g59_16 (S84 : V6 → V1 → Option (Bool)) (x0 : V21) (x1 : Int) (x2 : V1) (x3 : V6) (x4 x5 : Int) (k0 : V21 → V6 → Int → Int → Bool → Option R) : Option R :=
if 0 ≤ (0 : Int) ∧ (0 : Int) ≤ x1 ∧ x1 ≤ (x0.2.2.1.length : Int) ∧ (x0.2.2.1.length : Int) ≤ (x0.2.2.1.length : Int) then
(S84 ((x0.2.2.1.drop (0 : Int).toNat).take (x1.toNat - (0 : Int).toNat)) x2).bind fun r222 =>
k0 x0 x3 x4 x5 r222
else none
theorem t59_16 (S84) (h84 : (ctr84 S84).holds cl) (x0 x1 x2 x3 x4 x5) : exec cl N c59_16 (e77 x0 x1 x2 x3 x4 x5) K = (g59_16 S84 x0 x1 x2 x3 x4 x5 (fun y0 y1 y2 y3 y4 => K .normal (e78 y0 y1 y2 y3 y4))) := by
  rw [← put_eq h84]
  kernel_rfl
def g59_17 (x0 : V21) (x1 : V6) (x2 x3 : Int) (x4 : Bool) (k0 : Int → Option R) : Option R :=
k0 (5 : Int)
theorem t59_17 (x0 x1 x2 x3 x4) : exec cl N c59_17 (e78 x0 x1 x2 x3 x4) K = (g59_17 x0 x1 x2 x3 x4 (fun y0 => K .normal [(2, .v U2 y0)])) := by
  kernel_rfl
theorem kp59_8 (x0) : keep [1, 2, 31, 32, 33] [(2, .v U2 x0)] = (e79 x0) := by kernel_rfl
theorem kp59_9 (x0 x1 x2 x3 x4) : keep [1, 2, 31, 32, 33] (e78 x0 x1 x2 x3 x4) = (e80 x0 x1 x2 x3) := by kernel_rfl
theorem hb59_4 (x0 x1 x2 x3 x4) : boolOf? (ent (e78 x0 x1 x2 x3 x4) (.t 48)) = some x4 := by kernel_rfl
theorem kp59_10 (x0) : keep [1, 2, 31, 32, 33] (e76 x0) = (e79 x0) := by kernel_rfl
theorem kp59_11 (x0) : keep [1, 2, 31, 32, 33] (e79 x0) = (e79 x0) := by kernel_rfl
theorem kp59_12 (x0 x1 x2 x3) : keep [1, 2, 31, 32, 33] (e80 x0 x1 x2 x3) = (e80 x0 x1 x2 x3) := by kernel_rfl
def g59_20 (x0 : V21) (x1 : V6) (x2 x3 : Int) (k0 : V21 → V6 → Int → Int → Option R) : Option R :=
k0 x0 x1 x2 (IntKind.i64.wrap (x3 + (1 : Int)))
theorem t59_20 (x0 x1 x2 x3) : exec cl N c59_20 (e80 x0 x1 x2 x3) K = (g59_20 x0 x1 x2 x3 (fun y0 y1 y2 y3 => K .normal (e71 y0 y1 y2 y3))) := by
  kernel_rfl
def g59_21 (S83 : V1 → Option (Int)) (S84 : V6 → V1 → Option (Bool)) (x0 : V21) (x1 : V6) (x2 x3 : Int) (k0 : Int → Option R) (k1 : V21 → V6 → Int → Int → Option R) (k2 : V21 → V6 → Int → Int → Option R) : Option R :=
(g59_9 x0 x1 x2 x3 (fun y0 y1 y2 y3 y4 => brB y4 ((fun y0 y1 y2 y3 => (g59_11 y0 y1 y2 y3 (fun y0 y1 y2 y3 y4 y5 => (g59_12 S83 y0 y1 y2 y3 y4 y5 (fun y0 y1 y2 y3 y4 y5 y6 => (g59_13 y0 y1 y2 y3 y4 y5 y6 (fun y0 y1 y2 y3 y4 y5 y6 y7 => brB y7 (g59_14 y0 y1 y2 y3 y4 y5 y6 y7 (fun y0 => ((fun y0 => (k0 y0)) y0))) ((fun y0 y1 y2 y3 y4 y5 => (g59_16 S84 y0 y1 y2 y3 y4 y5 (fun y0 y1 y2 y3 y4 => brB y4 (g59_17 y0 y1 y2 y3 y4 (fun y0 => ((fun y0 => (k0 y0)) y0))) (g59_20 y0 y1 y2 y3 k1)))) y0 y1 y2 y4 y5 y6)))))))) y0 y1 y2 y3) (k2 y0 y1 y2 y3)))
theorem t59_21 (S83) (S84) (h83 : (ctr83 S83).holds cl) (h84 : (ctr84 S84).holds cl) (x0 x1 x2 x3) : exec cl N c59_21 (e71 x0 x1 x2 x3) K = (g59_21 S83 S84 x0 x1 x2 x3 (fun y0 => K .ret (e79 y0)) (fun y0 y1 y2 y3 => K .normal (e71 y0 y1 y2 y3)) (fun y0 y1 y2 y3 => K (.exit 1) (e71 y0 y1 y2 y3))) := by
  simp only [c59_21, exec_seq, seqK_normal, seqK_exit, seqK_ret, t59_9, c59_10, exec_out, exec_cond', hb59_2, Option.bind_some, brB_true, brB_false, exec_skip, exec_exit, kp59_5, c59_19, exec_block, t59_11, t59_12 S83 h83, t59_13, c59_15, hb59_3, t59_14, exec_ret, kp59_6, kp59_7, t59_16 S84 h84, c59_18, hb59_4, t59_17, kp59_8, kp59_9, blockK_normal, blockK_ret, blockK_eq, kp59_10, kp59_11, kp59_12, t59_20]
  rfl
def l59_22 {R : Type} (S83 : V1 → Option (Int)) (S84 : V6 → V1 → Option (Bool)) (k0 : Int → Option R) (k1 : V21 → V6 → Int → Int → Option R) : Nat → V21 → V6 → Int → Int → Option R
  | 0, _, _, _, _ => none
  | m + 1, x0, x1, x2, x3 => (g59_21 S83 S84 x0 x1 x2 x3 k0 (fun y0 y1 y2 y3 => l59_22 S83 S84 k0 k1 m y0 y1 y2 y3) k1)
theorem lt59_22 (S83) (S84) (h83 : (ctr83 S83).holds cl) (h84 : (ctr84 S84).holds cl) : ∀ (m) (x0 x1 x2 x3), iter [1, 31, 32, 33] (fun env K => exec cl N c59_21 env K) K m (e71 x0 x1 x2 x3) = l59_22 S83 S84 (fun y0 => K .ret (e79 y0)) (fun y0 y1 y2 y3 => K (.exit 1) (e71 y0 y1 y2 y3)) m x0 x1 x2 x3 := by
  intro m
  induction m with
  | zero => intros; rfl
  | succ m ih =>
    intro x0 x1 x2 x3
    simp only [iter_succ, t59_21 S83 S84 h83 h84, loopK_normal, loopK_exit, loopK_ret, kp59_4, ih]
    rfl
theorem kp59_13 (x0) : keep [2] (e79 x0) = [(2, .v U2 x0)] := by kernel_rfl
theorem kp59_14 (x0 x1 x2 x3) : keep [2] (e71 x0 x1 x2 x3) = [(2, .dead)] := by kernel_rfl
def g59_22 (N : Nat) (S83 : V1 → Option (Int)) (S84 : V6 → V1 → Option (Bool)) (x0 : V21) (x1 : V6) (x2 x3 : Int) (k0 : Int → Option R) (k1 : Option R) : Option R :=
l59_22 S83 S84 (fun y0 => k0 y0) (fun y0 y1 y2 y3 => k1) N x0 x1 x2 x3
theorem t59_22 (S83) (S84) (h83 : (ctr83 S83).holds cl) (h84 : (ctr84 S84).holds cl) (x0 x1 x2 x3) : exec cl N c59_22 (e71 x0 x1 x2 x3) K = (g59_22 N S83 S84 x0 x1 x2 x3 (fun y0 => K .ret [(2, .v U2 y0)]) (K (.exit 1) [(2, .dead)])) := by
  simp only [c59_22, exec_out, exec_loop, kp59_4, lt59_22 S83 S84 h83 h84, kp59_13, kp59_14]
  rfl
theorem kp59_15 (x0) : keep [2] [(2, .v U2 x0)] = [(2, .v U2 x0)] := by kernel_rfl
theorem kp59_16 : keep [2] [(2, .dead)] = [(2, .dead)] := by kernel_rfl
def g59_24 (k0 : Int → Option R) : Option R :=
k0 (0 : Int)
theorem t59_24 : exec cl N c59_24 [(2, .dead)] K = (g59_24 (fun y0 => K .normal [(2, .v U2 y0)])) := by
  kernel_rfl
def g59_25 (N : Nat) (S83 : V1 → Option (Int)) (S84 : V6 → V1 → Option (Bool)) (x0 : V21) (k0 : Int → Option R) (k1 : Int → Option R) : Option R :=
(g59_0 x0 (fun y0 => (g59_1 y0 (fun y0 y1 => brB y1 (g59_2 y0 y1 (fun y0 => ((fun y0 => (k0 y0)) y0))) (g59_3 y0 y1 (fun y0 y1 => brB y1 (g59_4 y0 y1 (fun y0 => ((fun y0 => (k0 y0)) y0))) ((fun y0 => ((fun y0 => ((fun y0 => (g59_8 y0 (fun y0 y1 y2 y3 => (g59_22 N S83 S84 y0 y1 y2 y3 (fun y0 => (k1 y0)) (g59_24 (fun y0 => (k1 y0))))))) y0)) y0)) y0)))))))
theorem t59_25 (S83) (S84) (h83 : (ctr83 S83).holds cl) (h84 : (ctr84 S84).holds cl) (x0) : exec cl N c59_25 [(0, .v U20 x0)] K = (g59_25 N S83 S84 x0 (fun y0 => K .ret (e68 y0)) (fun y0 => K .ret [(2, .v U2 y0)])) := by
  simp only [c59_25, exec_seq, seqK_normal, seqK_exit, seqK_ret, t59_0, c59_7, exec_out, exec_block, t59_1, c59_6, exec_cond', hb59_1, Option.bind_some, brB_true, brB_false, t59_2, exec_ret, t59_3, c59_5, hb59_0, t59_4, exec_skip, kp59_0, kp59_1, kp59_2, kp59_3, blockK_normal, blockK_ret, blockK_eq, t59_8, c59_23, t59_22 S83 S84 h83 h84, kp59_15, kp59_16, t59_24]
  rfl
theorem rk59_0 (y0) : retK d59 .ret (e68 y0) = some [.v U2 y0] := by kernel_rfl
theorem rk59_1 (y0) : retK d59 .ret [(2, .v U2 y0)] = some [.v U2 y0] := by kernel_rfl
def g59 (N : Nat) (S83 : V1 → Option (Int)) (S84 : V6 → V1 → Option (Bool)) (x0 : V21) (k : Int → Option R) : Option R :=
(g59_25 N S83 S84 x0 (fun y0 => k y0) (fun y0 => k y0))
theorem gen59 {N : Nat} {cl : Cal} (S83 : V1 → Option (Int)) (S84 : V6 → V1 → Option (Bool)) (h83 : (ctr83 S83).holds cl) (h84 : (ctr84 S84).holds cl) (x0 : V21) {R : Type} (k : List E → Option R) : exec cl N c59 (params 0 [.v U20 x0]) (fun e env => (retK d59 e env).bind k) = g59 N S83 S84 x0 (fun (r0 : Int) => k [.v U2 r0]) := by
  have e0 : params 0 [.v U20 x0] = [(0, .v U20 x0)] := by kernel_rfl
  simp only [c59, e0, t59_25 S83 S84 h83 h84, rk59_0, rk59_1, Option.bind_some]
  rfl
def ctr59 (S : V21 → Option (Int)) : Ctr := { A := V21 × Unit, B := Int, f := 59, enc := fun a => [.v U20 a.1], dec := (decC (decV U20) dec0), S := fun a => S a.1, ent := fun b => [.v U2 b], ok := (decV_cons (T := U20) (fun es b h => dec0_some h)) }
def S59 (N : Nat) (x0 : V21) : Option (Int) := g59 N (S83 N) (S84 N) x0 (fun (r0 : Int) => some (r0))
def g32_0 (x0 : V28) (k0 : V28 → Option R) : Option R :=
k0 x0
theorem t32_0 (x0) : exec cl N c32_0 [(0, .v U27 x0)] K = (g32_0 x0 (fun y0 => K .normal [(1, .loc U27 .no y0)])) := by
  kernel_rfl
def g32_1 (S58 : V1 → Option (Bool)) (x0 : V28) (k0 : V28 → Bool → Option R) : Option R :=
(S58 x0.1).bind fun r227 =>
k0 x0 (!r227)
theorem t32_1 (S58) (h58 : (ctr58 S58).holds cl) (x0) : exec cl N c32_1 [(1, .loc U27 .no x0)] K = (g32_1 S58 x0 (fun y0 y1 => K .normal (e81 y0 y1))) := by
  rw [← put_eq h58]
  kernel_rfl
def g32_2 (x0 : V28) (x1 : Bool) (k0 : Int → Option R) : Option R :=
k0 (2 : Int)
theorem t32_2 (x0 x1) : exec cl N c32_2 (e81 x0 x1) K = (g32_2 x0 x1 (fun y0 => K .normal [(2, .v U2 y0)])) := by
  kernel_rfl
theorem kp32_0 (x0) : keep [1, 2] [(2, .v U2 x0)] = (e68 x0) := by kernel_rfl
def g32_3 (x0 : V28) (x1 : Bool) (k0 : V28 → Bool → Option R) : Option R :=
k0 x0 (decide ((x0.2.1.length : Int) > (30 : Int)))
theorem t32_3 (x0 x1) : exec cl N c32_3 (e81 x0 x1) K = (g32_3 x0 x1 (fun y0 y1 => K .normal (e82 y0 y1))) := by
  kernel_rfl
def g32_4 (x0 : V28) (x1 : Bool) (k0 : Int → Option R) : Option R :=
k0 (3 : Int)
theorem t32_4 (x0 x1) : exec cl N c32_4 (e82 x0 x1) K = (g32_4 x0 x1 (fun y0 => K .normal [(2, .v U2 y0)])) := by
  kernel_rfl
theorem kp32_1 (x0 x1) : keep [1, 2] (e82 x0 x1) = (e83 x0) := by kernel_rfl
theorem hb32_0 (x0 x1) : boolOf? (ent (e82 x0 x1) (.t 11)) = some x1 := by kernel_rfl
theorem kp32_2 (x0) : keep [1, 2] (e68 x0) = (e68 x0) := by kernel_rfl
theorem kp32_3 (x0) : keep [1, 2] (e83 x0) = (e83 x0) := by kernel_rfl
theorem hb32_1 (x0 x1) : boolOf? (ent (e81 x0 x1) (.t 6)) = some x1 := by kernel_rfl
def g32_8 (x0 : V28) (k0 : V23 → Int → Int → Option R) : Option R :=
k0 x0.2.1 (x0.2.1.length : Int) (0 : Int)
theorem t32_8 (x0) : exec cl N c32_8 (e83 x0) K = (g32_8 x0 (fun y0 y1 y2 => K .normal (e84 y0 y1 y2))) := by
  kernel_rfl
theorem kp32_4 (x0 x1 x2) : keep [17, 18, 19] (e84 x0 x1 x2) = (e84 x0 x1 x2) := by kernel_rfl
def g32_9 (x0 : V23) (x1 x2 : Int) (k0 : V23 → Int → Int → Bool → Option R) : Option R :=
k0 x0 x1 x2 (decide (x2 < x1))
theorem t32_9 (x0 x1 x2) : exec cl N c32_9 (e84 x0 x1 x2) K = (g32_9 x0 x1 x2 (fun y0 y1 y2 y3 => K .normal (e85 y0 y1 y2 y3))) := by
  kernel_rfl
theorem kp32_5 (x0 x1 x2 x3) : keep [17, 18, 19] (e85 x0 x1 x2 x3) = (e84 x0 x1 x2) := by kernel_rfl
theorem hb32_2 (x0 x1 x2 x3) : boolOf? (ent (e85 x0 x1 x2 x3) (.t 20)) = some x3 := by kernel_rfl
def g32_11 (x0 : V23) (x1 x2 : Int) (k0 : V21 → V23 → Int → Int → Option R) : Option R :=
if 0 ≤ x2 ∧ x2 < (x0.length : Int) then
k0 (x0.getD x2.toNat ((0 : Int), ((0 : Int), ([], ())))) x0 x1 x2
else none
theorem t32_11 (x0 x1 x2) : exec cl N c32_11 (e84 x0 x1 x2) K = (g32_11 x0 x1 x2 (fun y0 y1 y2 y3 => K .normal [(4, .loc U20 .no y0), (17, .v U22 y1), (18, .v U2 y2), (19, .v U2 y3)])) := by
  kernel_rfl
def g32_12 (S59 : V21 → Option (Int)) (x0 : V21) (x1 : V23) (x2 x3 : Int) (k0 : Int → V23 → Int → Int → Option R) : Option R :=
(S59 x0).bind fun r230 =>
k0 r230 x1 x2 x3
theorem t32_12 (S59) (h59 : (ctr59 S59).holds cl) (x0 x1 x2 x3) : exec cl N c32_12 [(4, .loc U20 .no x0), (17, .v U22 x1), (18, .v U2 x2), (19, .v U2 x3)] K = (g32_12 S59 x0 x1 x2 x3 (fun y0 y1 y2 y3 => K .normal [(5, .v U2 y0), (17, .v U22 y1), (18, .v U2 y2), (19, .v U2 y3)])) := by
  rw [← put_eq h59]
  kernel_rfl
def g32_13 (x0 : Int) (x1 : V23) (x2 x3 : Int) (k0 : Int → V23 → Int → Int → Bool → Option R) : Option R :=
k0 x0 x1 x2 x3 (x0 != (0 : Int))
theorem t32_13 (x0 x1 x2 x3) : exec cl N c32_13 [(5, .v U2 x0), (17, .v U22 x1), (18, .v U2 x2), (19, .v U2 x3)] K = (g32_13 x0 x1 x2 x3 (fun y0 y1 y2 y3 y4 => K .normal (e86 y0 y1 y2 y3 y4))) := by
  kernel_rfl
def g32_14 (x0 : Int) (x1 : V23) (x2 x3 : Int) (x4 : Bool) (k0 : Int → Option R) : Option R :=
k0 x0
theorem t32_14 (x0 x1 x2 x3 x4) : exec cl N c32_14 (e86 x0 x1 x2 x3 x4) K = (g32_14 x0 x1 x2 x3 x4 (fun y0 => K .normal [(2, .v U2 y0)])) := by
  kernel_rfl
theorem kp32_6 (x0) : keep [2, 17, 18, 19] [(2, .v U2 x0)] = (e87 x0) := by kernel_rfl
theorem kp32_7 (x0 x1 x2 x3 x4) : keep [2, 17, 18, 19] (e86 x0 x1 x2 x3 x4) = (e88 x1 x2 x3) := by kernel_rfl
theorem hb32_3 (x0 x1 x2 x3 x4) : boolOf? (ent (e86 x0 x1 x2 x3 x4) (.t 26)) = some x4 := by kernel_rfl
theorem kp32_8 (x0) : keep [2, 17, 18, 19] (e87 x0) = (e87 x0) := by kernel_rfl
theorem kp32_9 (x0 x1 x2) : keep [2, 17, 18, 19] (e88 x0 x1 x2) = (e88 x0 x1 x2) := by kernel_rfl
def g32_17 (x0 : V23) (x1 x2 : Int) (k0 : V23 → Int → Int → Option R) : Option R :=
k0 x0 x1 (IntKind.i64.wrap (x2 + (1 : Int)))
theorem t32_17 (x0 x1 x2) : exec cl N c32_17 (e88 x0 x1 x2) K = (g32_17 x0 x1 x2 (fun y0 y1 y2 => K .normal (e84 y0 y1 y2))) := by
  kernel_rfl
def g32_18 (S59 : V21 → Option (Int)) (x0 : V23) (x1 x2 : Int) (k0 : Int → Option R) (k1 : V23 → Int → Int → Option R) (k2 : V23 → Int → Int → Option R) : Option R :=
(g32_9 x0 x1 x2 (fun y0 y1 y2 y3 => brB y3 ((fun y0 y1 y2 => (g32_11 y0 y1 y2 (fun y0 y1 y2 y3 => (g32_12 S59 y0 y1 y2 y3 (fun y0 y1 y2 y3 => (g32_13 y0 y1 y2 y3 (fun y0 y1 y2 y3 y4 => brB y4 (g32_14 y0 y1 y2 y3 y4 (fun y0 => ((fun y0 => (k0 y0)) y0))) (g32_17 y1 y2 y3 k1)))))))) y0 y1 y2) (k2 y0 y1 y2)))
theorem t32_18 (S59) (h59 : (ctr59 S59).holds cl) (x0 x1 x2) : exec cl N c32_18 (e84 x0 x1 x2) K = (g32_18 S59 x0 x1 x2 (fun y0 => K .ret (e87 y0)) (fun y0 y1 y2 => K .normal (e84 y0 y1 y2)) (fun y0 y1 y2 => K (.exit 1) (e84 y0 y1 y2))) := by
  simp only [c32_18, exec_seq, seqK_normal, seqK_exit, seqK_ret, t32_9, c32_10, exec_out, exec_cond', hb32_2, Option.bind_some, brB_true, brB_false, exec_skip, exec_exit, kp32_5, c32_16, exec_block, t32_11, t32_12 S59 h59, t32_13, c32_15, hb32_3, t32_14, exec_ret, kp32_6, kp32_7, blockK_normal, blockK_ret, blockK_eq, kp32_8, kp32_9, t32_17]
  rfl
def l32_19 {R : Type} (S59 : V21 → Option (Int)) (k0 : Int → Option R) (k1 : V23 → Int → Int → Option R) : Nat → V23 → Int → Int → Option R
  | 0, _, _, _ => none
  | m + 1, x0, x1, x2 => (g32_18 S59 x0 x1 x2 k0 (fun y0 y1 y2 => l32_19 S59 k0 k1 m y0 y1 y2) k1)
theorem lt32_19 (S59) (h59 : (ctr59 S59).holds cl) : ∀ (m) (x0 x1 x2), iter [17, 18, 19] (fun env K => exec cl N c32_18 env K) K m (e84 x0 x1 x2) = l32_19 S59 (fun y0 => K .ret (e87 y0)) (fun y0 y1 y2 => K (.exit 1) (e84 y0 y1 y2)) m x0 x1 x2 := by
  intro m
  induction m with
  | zero => intros; rfl
  | succ m ih =>
    intro x0 x1 x2
    simp only [iter_succ, t32_18 S59 h59, loopK_normal, loopK_exit, loopK_ret, kp32_4, ih]
    rfl
theorem kp32_10 (x0) : keep [2] (e87 x0) = [(2, .v U2 x0)] := by kernel_rfl
theorem kp32_11 (x0 x1 x2) : keep [2] (e84 x0 x1 x2) = [(2, .dead)] := by kernel_rfl
def g32_19 (N : Nat) (S59 : V21 → Option (Int)) (x0 : V23) (x1 x2 : Int) (k0 : Int → Option R) (k1 : Option R) : Option R :=
l32_19 S59 (fun y0 => k0 y0) (fun y0 y1 y2 => k1) N x0 x1 x2
theorem t32_19 (S59) (h59 : (ctr59 S59).holds cl) (x0 x1 x2) : exec cl N c32_19 (e84 x0 x1 x2) K = (g32_19 N S59 x0 x1 x2 (fun y0 => K .ret [(2, .v U2 y0)]) (K (.exit 1) [(2, .dead)])) := by
  simp only [c32_19, exec_out, exec_loop, kp32_4, lt32_19 S59 h59, kp32_10, kp32_11]
  rfl
theorem kp32_12 (x0) : keep [2] [(2, .v U2 x0)] = [(2, .v U2 x0)] := by kernel_rfl
theorem kp32_13 : keep [2] [(2, .dead)] = [(2, .dead)] := by kernel_rfl
def g32_21 (k0 : Int → Option R) : Option R :=
k0 (0 : Int)
theorem t32_21 : exec cl N c32_21 [(2, .dead)] K = (g32_21 (fun y0 => K .normal [(2, .v U2 y0)])) := by
  kernel_rfl
def g32_22 (N : Nat) (S58 : V1 → Option (Bool)) (S59 : V21 → Option (Int)) (x0 : V28) (k0 : Int → Option R) (k1 : Int → Option R) : Option R :=
(g32_0 x0 (fun y0 => (g32_1 S58 y0 (fun y0 y1 => brB y1 (g32_2 y0 y1 (fun y0 => ((fun y0 => (k0 y0)) y0))) (g32_3 y0 y1 (fun y0 y1 => brB y1 (g32_4 y0 y1 (fun y0 => ((fun y0 => (k0 y0)) y0))) ((fun y0 => ((fun y0 => ((fun y0 => (g32_8 y0 (fun y0 y1 y2 => (g32_19 N S59 y0 y1 y2 (fun y0 => (k1 y0)) (g32_21 (fun y0 => (k1 y0))))))) y0)) y0)) y0)))))))
theorem t32_22 (S58) (S59) (h58 : (ctr58 S58).holds cl) (h59 : (ctr59 S59).holds cl) (x0) : exec cl N c32_22 [(0, .v U27 x0)] K = (g32_22 N S58 S59 x0 (fun y0 => K .ret (e68 y0)) (fun y0 => K .ret [(2, .v U2 y0)])) := by
  simp only [c32_22, exec_seq, seqK_normal, seqK_exit, seqK_ret, t32_0, c32_7, exec_out, exec_block, t32_1 S58 h58, c32_6, exec_cond', hb32_1, Option.bind_some, brB_true, brB_false, t32_2, exec_ret, t32_3, c32_5, hb32_0, t32_4, exec_skip, kp32_0, kp32_1, kp32_2, kp32_3, blockK_normal, blockK_ret, blockK_eq, t32_8, c32_20, t32_19 S59 h59, kp32_12, kp32_13, t32_21]
  rfl
theorem rk32_0 (y0) : retK d32 .ret (e68 y0) = some [.v U2 y0] := by kernel_rfl
theorem rk32_1 (y0) : retK d32 .ret [(2, .v U2 y0)] = some [.v U2 y0] := by kernel_rfl
def g32 (N : Nat) (S58 : V1 → Option (Bool)) (S59 : V21 → Option (Int)) (x0 : V28) (k : Int → Option R) : Option R :=
(g32_22 N S58 S59 x0 (fun y0 => k y0) (fun y0 => k y0))
theorem gen32 {N : Nat} {cl : Cal} (S58 : V1 → Option (Bool)) (S59 : V21 → Option (Int)) (h58 : (ctr58 S58).holds cl) (h59 : (ctr59 S59).holds cl) (x0 : V28) {R : Type} (k : List E → Option R) : exec cl N c32 (params 0 [.v U27 x0]) (fun e env => (retK d32 e env).bind k) = g32 N S58 S59 x0 (fun (r0 : Int) => k [.v U2 r0]) := by
  have e0 : params 0 [.v U27 x0] = [(0, .v U27 x0)] := by kernel_rfl
  simp only [c32, e0, t32_22 S58 S59 h58 h59, rk32_0, rk32_1, Option.bind_some]
  rfl
def ctr32 (S : V28 → Option (Int)) : Ctr := { A := V28 × Unit, B := Int, f := 32, enc := fun a => [.v U27 a.1], dec := (decC (decV U27) dec0), S := fun a => S a.1, ent := fun b => [.v U2 b], ok := (decV_cons (T := U27) (fun es b h => dec0_some h)) }
def S32 (N : Nat) (x0 : V28) : Option (Int) := g32 N (S58 N) (S59 N) x0 (fun (r0 : Int) => some (r0))
def g97_0 (x0 : V19) (k0 : V19 → Option R) : Option R :=
k0 x0
theorem t97_0 (x0) : exec cl N c97_0 [(0, .v U17 x0)] K = (g97_0 x0 (fun y0 => K .normal [(1, .loc U17 .no y0)])) := by
  kernel_rfl
def g97_1 (x0 : V19) (k0 : V19 → Int → Option R) : Option R :=
k0 x0 x0.1
theorem t97_1 (x0) : exec cl N c97_1 [(1, .loc U17 .no x0)] K = (g97_1 x0 (fun y0 y1 => K .normal (e89 y0 y1))) := by
  kernel_rfl
def g97_2 (x0 : V19) (x1 : Int) (k0 : V19 → Int → Bool → Option R) : Option R :=
k0 x0 x1 (x1 == (1 : Int))
theorem t97_2 (x0 x1) : exec cl N c97_2 (e89 x0 x1) K = (g97_2 x0 x1 (fun y0 y1 y2 => K .normal (e90 y0 y1 y2))) := by
  kernel_rfl
def g97_3 (x0 : V19) (x1 : Int) (x2 : Bool) (k0 : Bool → Option R) : Option R :=
brB (decide (x0.2.1 ≥ (1 : Int))) (k0 (decide (x0.2.1 ≤ (3 : Int)))) (k0 false)
theorem t97_3 (x0 x1 x2) : exec cl N c97_3 (e90 x0 x1 x2) K = (g97_3 x0 x1 x2 (fun y0 => K .normal [(2, .v .bool y0)])) := by
  kernel_rfl
theorem kp97_0 (x0) : keep [1, 2] [(2, .v .bool x0)] = (e91 x0) := by kernel_rfl
def g97_4 (x0 : V19) (x1 : Int) (x2 : Bool) (k0 : V19 → Bool → Option R) : Option R :=
k0 x0 (x1 == (2 : Int))
theorem t97_4 (x0 x1 x2) : exec cl N c97_4 (e90 x0 x1 x2) K = (g97_4 x0 x1 x2 (fun y0 y1 => K .normal (e92 y0 y1))) := by
  kernel_rfl
def g97_5 (x0 : V19) (x1 : Bool) (k0 : Bool → Option R) : Option R :=
k0 (x0.2.1 == (2 : Int))
theorem t97_5 (x0 x1) : exec cl N c97_5 (e92 x0 x1) K = (g97_5 x0 x1 (fun y0 => K .normal [(2, .v .bool y0)])) := by
  kernel_rfl
theorem kp97_1 (x0 x1) : keep [1, 2] (e92 x0 x1) = (e93 x0) := by kernel_rfl
theorem hb97_0 (x0 x1) : boolOf? (ent (e92 x0 x1) (.t 15)) = some x1 := by kernel_rfl
theorem kp97_2 (x0) : keep [1, 2] (e91 x0) = (e91 x0) := by kernel_rfl
theorem kp97_3 (x0) : keep [1, 2] (e93 x0) = (e93 x0) := by kernel_rfl
theorem hb97_1 (x0 x1 x2) : boolOf? (ent (e90 x0 x1 x2) (.t 5)) = some x2 := by kernel_rfl
def g97_9 (x0 : V19) (k0 : Bool → Option R) : Option R :=
k0 (x0.2.1 == (0 : Int))
theorem t97_9 (x0) : exec cl N c97_9 (e93 x0) K = (g97_9 x0 (fun y0 => K .normal [(2, .v .bool y0)])) := by
  kernel_rfl
def g97_10 (x0 : V19) (k0 : Bool → Option R) (k1 : Bool → Option R) : Option R :=
(g97_0 x0 (fun y0 => (g97_1 y0 (fun y0 y1 => (g97_2 y0 y1 (fun y0 y1 y2 => brB y2 (g97_3 y0 y1 y2 (fun y0 => ((fun y0 => (k0 y0)) y0))) (g97_4 y0 y1 y2 (fun y0 y1 => brB y1 (g97_5 y0 y1 (fun y0 => ((fun y0 => (k0 y0)) y0))) ((fun y0 => ((fun y0 => ((fun y0 => (g97_9 y0 (fun y0 => (k1 y0)))) y0)) y0)) y0)))))))))
theorem t97_10 (x0) : exec cl N c97_10 [(0, .v U17 x0)] K = (g97_10 x0 (fun y0 => K .ret (e91 y0)) (fun y0 => K .ret [(2, .v .bool y0)])) := by
  simp only [c97_10, exec_seq, seqK_normal, seqK_exit, seqK_ret, t97_0, t97_1, c97_8, exec_out, exec_block, t97_2, c97_7, exec_cond', hb97_1, Option.bind_some, brB_true, brB_false, t97_3, exec_ret, t97_4, c97_6, hb97_0, t97_5, exec_skip, kp97_0, kp97_1, kp97_2, kp97_3, blockK_normal, blockK_ret, blockK_eq, t97_9]
  rfl
theorem rk97_0 (y0) : retK d97 .ret (e91 y0) = some [.v .bool y0] := by kernel_rfl
theorem rk97_1 (y0) : retK d97 .ret [(2, .v .bool y0)] = some [.v .bool y0] := by kernel_rfl
def g97 (x0 : V19) (k : Bool → Option R) : Option R :=
(g97_10 x0 (fun y0 => k y0) (fun y0 => k y0))
theorem gen97 {N : Nat} {cl : Cal} (x0 : V19) {R : Type} (k : List E → Option R) : exec cl N c97 (params 0 [.v U17 x0]) (fun e env => (retK d97 e env).bind k) = g97 x0 (fun (r0 : Bool) => k [.v .bool r0]) := by
  have e0 : params 0 [.v U17 x0] = [(0, .v U17 x0)] := by kernel_rfl
  simp only [c97, e0, t97_10, rk97_0, rk97_1, Option.bind_some]
  rfl
def ctr97 (S : V19 → Option (Bool)) : Ctr := { A := V19 × Unit, B := Bool, f := 97, enc := fun a => [.v U17 a.1], dec := (decC (decV U17) dec0), S := fun a => S a.1, ent := fun b => [.v .bool b], ok := (decV_cons (T := U17) (fun es b h => dec0_some h)) }
def S97 (N : Nat) (x0 : V19) : Option (Bool) := g97 x0 (fun (r0 : Bool) => some (r0))
def g100_0 (x0 : Int) (k0 : Int → Option R) : Option R :=
k0 x0
theorem t100_0 (x0) : exec cl N c100_0 [(0, .v U3 x0)] K = (g100_0 x0 (fun y0 => K .normal [(0, .v U3 y0)])) := by
  kernel_rfl
def g100_1 (x0 : Int) (k0 : Bool → Option R) : Option R :=
brB (decide (x0 ≥ (97 : Int))) (brB (decide (x0 ≤ (122 : Int))) (k0 true) (brB (decide (x0 ≥ (48 : Int))) (brB (decide (x0 ≤ (57 : Int))) (k0 true) (brB (x0 == (95 : Int)) (k0 true) (brB (x0 == (94 : Int)) (k0 true) (k0 (x0 == (39 : Int)))))) (brB (x0 == (95 : Int)) (k0 true) (brB (x0 == (94 : Int)) (k0 true) (k0 (x0 == (39 : Int))))))) (brB (decide (x0 ≥ (48 : Int))) (brB (decide (x0 ≤ (57 : Int))) (k0 true) (brB (x0 == (95 : Int)) (k0 true) (brB (x0 == (94 : Int)) (k0 true) (k0 (x0 == (39 : Int)))))) (brB (x0 == (95 : Int)) (k0 true) (brB (x0 == (94 : Int)) (k0 true) (k0 (x0 == (39 : Int))))))
theorem t100_1 (x0) : exec cl N c100_1 [(0, .v U3 x0)] K = (g100_1 x0 (fun y0 => K .normal [(2, .v .bool y0)])) := by
  kernel_rfl
def g100_2 (x0 : Int) (k0 : Bool → Option R) : Option R :=
(g100_0 x0 (fun y0 => (g100_1 y0 (fun y0 => (k0 y0)))))
theorem t100_2 (x0) : exec cl N c100_2 [(0, .v U3 x0)] K = (g100_2 x0 (fun y0 => K .ret [(2, .v .bool y0)])) := by
  simp only [c100_2, exec_seq, seqK_normal, seqK_exit, seqK_ret, t100_0, t100_1, exec_ret]
  rfl
theorem rk100_0 (y0) : retK d100 .ret [(2, .v .bool y0)] = some [.v .bool y0] := by kernel_rfl
def g100 (x0 : Int) (k : Bool → Option R) : Option R :=
(g100_2 x0 (fun y0 => k y0))
theorem gen100 {N : Nat} {cl : Cal} (x0 : Int) {R : Type} (k : List E → Option R) : exec cl N c100 (params 0 [.v U3 x0]) (fun e env => (retK d100 e env).bind k) = g100 x0 (fun (r0 : Bool) => k [.v .bool r0]) := by
  have e0 : params 0 [.v U3 x0] = [(0, .v U3 x0)] := by kernel_rfl
  simp only [c100, e0, t100_2, rk100_0, Option.bind_some]
  rfl
def ctr100 (S : Int → Option (Bool)) : Ctr := { A := Int × Unit, B := Bool, f := 100, enc := fun a => [.v U3 a.1], dec := (decC (decV U3) dec0), S := fun a => S a.1, ent := fun b => [.v .bool b], ok := (decV_cons (T := U3) (fun es b h => dec0_some h)) }
def S100 (N : Nat) (x0 : Int) : Option (Bool) := g100 x0 (fun (r0 : Bool) => some (r0))
def g99_0 (x0 : Int) (k0 : Int → Option R) : Option R :=
k0 x0
theorem t99_0 (x0) : exec cl N c99_0 [(0, .v U3 x0)] K = (g99_0 x0 (fun y0 => K .normal [(0, .v U3 y0)])) := by
  kernel_rfl
def g99_1 (S100 : Int → Option (Bool)) (x0 : Int) (k0 : Bool → Option R) : Option R :=
(S100 x0).bind fun r291 =>
k0 (!r291)
theorem t99_1 (S100) (h100 : (ctr100 S100).holds cl) (x0) : exec cl N c99_1 [(0, .v U3 x0)] K = (g99_1 S100 x0 (fun y0 => K .normal [(2, .v .bool y0)])) := by
  rw [← put_eq h100]
  kernel_rfl
def g99_2 (S100 : Int → Option (Bool)) (x0 : Int) (k0 : Bool → Option R) : Option R :=
(g99_0 x0 (fun y0 => (g99_1 S100 y0 (fun y0 => (k0 y0)))))
theorem t99_2 (S100) (h100 : (ctr100 S100).holds cl) (x0) : exec cl N c99_2 [(0, .v U3 x0)] K = (g99_2 S100 x0 (fun y0 => K .ret [(2, .v .bool y0)])) := by
  simp only [c99_2, exec_seq, seqK_normal, seqK_exit, seqK_ret, t99_0, t99_1 S100 h100, exec_ret]
  rfl
theorem rk99_0 (y0) : retK d99 .ret [(2, .v .bool y0)] = some [.v .bool y0] := by kernel_rfl
def g99 (S100 : Int → Option (Bool)) (x0 : Int) (k : Bool → Option R) : Option R :=
(g99_2 S100 x0 (fun y0 => k y0))
theorem gen99 {N : Nat} {cl : Cal} (S100 : Int → Option (Bool)) (h100 : (ctr100 S100).holds cl) (x0 : Int) {R : Type} (k : List E → Option R) : exec cl N c99 (params 0 [.v U3 x0]) (fun e env => (retK d99 e env).bind k) = g99 S100 x0 (fun (r0 : Bool) => k [.v .bool r0]) := by
  have e0 : params 0 [.v U3 x0] = [(0, .v U3 x0)] := by kernel_rfl
  simp only [c99, e0, t99_2 S100 h100, rk99_0, Option.bind_some]
  rfl
def ctr99 (S : Int → Option (Bool)) : Ctr := { A := Int × Unit, B := Bool, f := 99, enc := fun a => [.v U3 a.1], dec := (decC (decV U3) dec0), S := fun a => S a.1, ent := fun b => [.v .bool b], ok := (decV_cons (T := U3) (fun es b h => dec0_some h)) }
def S99 (N : Nat) (x0 : Int) : Option (Bool) := g99 (S100 N) x0 (fun (r0 : Bool) => some (r0))
def g118_0 (x0 : V1) (x1 : V13) (x2 : Bool) (k0 : V1 → V13 → Bool → Option R) : Option R :=
k0 x0 x1 x2
theorem t118_0 (x0 x1 x2) : exec cl N c118_0 (e94 x0 x1 x2) K = (g118_0 x0 x1 x2 (fun y0 y1 y2 => K .normal (e94 y0 y1 y2))) := by
  kernel_rfl
def g118_1 (x0 : V1) (x1 : V13) (x2 : Bool) (k0 : V13 → Bool → V1 → Nat → Option R) : Option R :=
k0 x1 x2 x0 (0 : Nat)
theorem t118_1 (x0 x1 x2) : exec cl N c118_1 (e94 x0 x1 x2) K = (g118_1 x0 x1 x2 (fun y0 y1 y2 y3 => K .normal (e95 y0 y1 y2 y3))) := by
  kernel_rfl
theorem kp118_0 (x0 x1 x2 x3) : keep [1, 2, 10] (e95 x0 x1 x2 x3) = (e95 x0 x1 x2 x3) := by kernel_rfl
def g118_2 (x0 : V13) (x1 : Bool) (x2 : V1) (x3 : Nat) (k0 : V13 → Bool → V1 → Nat → Bool → Int → Int → Bool → Option R) (k1 : V13 → Bool → V1 → Nat → Bool → Bool → Option R) : Option R :=
brB (decide (x3 < x2.length)) (k0 x0 x1 x2 (x3 + (Utf8.decode ⟨⟨x2⟩⟩ x3).2) true ((x3 : Nat) : Int) (((Utf8.decode ⟨⟨x2⟩⟩ x3).1 : Nat) : Int) true) (k1 x0 x1 x2 x3 false false)
theorem t118_2 (x0 x1 x2 x3) : exec cl N c118_2 (e95 x0 x1 x2 x3) K = (g118_2 x0 x1 x2 x3 (fun y0 y1 y2 y3 y4 y5 y6 y7 => K .normal (e96 y0 y1 y2 y3 y4 y5 y6 y7)) (fun y0 y1 y2 y3 y4 y5 => K .normal (e97 y0 y1 y2 y3 y4 y5))) := by
  kernel_rfl
theorem kp118_1 (x0 x1 x2 x3 x4 x5 x6 x7) : keep [1, 2, 10, 11] (e96 x0 x1 x2 x3 x4 x5 x6 x7) = (e98 x0 x1 x2 x3 x4 x5 x6) := by kernel_rfl
theorem hb118_0 (x0 x1 x2 x3 x4 x5 x6 x7) : boolOf? (ent (e96 x0 x1 x2 x3 x4 x5 x6 x7) (.t 12)) = some x7 := by kernel_rfl
def g118_4 (x0 : V13) (x1 : Bool) (x2 : V1) (x3 : Nat) (x4 : Bool) (x5 x6 : Int) (k0 : V13 → Bool → Int → Int → V1 → Nat → Option R) : Option R :=
k0 x0 x1 x5 x6 x2 x3
theorem t118_4 (x0 x1 x2 x3 x4 x5 x6) : exec cl N c118_4 (e98 x0 x1 x2 x3 x4 x5 x6) K = (g118_4 x0 x1 x2 x3 x4 x5 x6 (fun y0 y1 y2 y3 y4 y5 => K .normal [(1, .v U11 y0), (2, .v .bool y1), (7, .v U2 y2), (8, .v U3 y3), (10, .it y4 y5)])) := by
  kernel_rfl
def g118_5 (x0 : V13) (x1 : Bool) (x2 x3 : Int) (x4 : V1) (x5 : Nat) (k0 : V13 → Bool → Int → V1 → Nat → Bool → Option R) : Option R :=
(x0 (x3, ())).bind fun r297 =>
k0 x0 x1 x2 x4 x5 (r297 == x1)
theorem t118_5 (x0 x1 x2 x3 x4 x5) : exec cl N c118_5 [(1, .v U11 x0), (2, .v .bool x1), (7, .v U2 x2), (8, .v U3 x3), (10, .it x4 x5)] K = (g118_5 x0 x1 x2 x3 x4 x5 (fun y0 y1 y2 y3 y4 y5 => K .normal (e99 y0 y1 y2 y3 y4 y5))) := by
  kernel_rfl
def g118_6 (x0 : V13) (x1 : Bool) (x2 : Int) (x3 : V1) (x4 : Nat) (x5 : Bool) (k0 : Int → Option R) : Option R :=
k0 x2
theorem t118_6 (x0 x1 x2 x3 x4 x5) : exec cl N c118_6 (e99 x0 x1 x2 x3 x4 x5) K = (g118_6 x0 x1 x2 x3 x4 x5 (fun y0 => K .normal [(6, .v U2 y0)])) := by
  kernel_rfl
theorem kp118_2 (x0) : keep [1, 2, 6, 10] [(6, .v U2 x0)] = (e100 x0) := by kernel_rfl
theorem kp118_3 (x0 x1 x2 x3 x4 x5) : keep [1, 2, 6, 10] (e99 x0 x1 x2 x3 x4 x5) = (e101 x0 x1 x3 x4) := by kernel_rfl
theorem hb118_1 (x0 x1 x2 x3 x4 x5) : boolOf? (ent (e99 x0 x1 x2 x3 x4 x5) (.t 19)) = some x5 := by kernel_rfl
theorem kp118_4 (x0) : keep [1, 2, 6, 10] (e100 x0) = (e100 x0) := by kernel_rfl
theorem kp118_5 (x0 x1 x2 x3) : keep [1, 2, 6, 10] (e101 x0 x1 x2 x3) = (e101 x0 x1 x2 x3) := by kernel_rfl
theorem kp118_6 (x0 x1 x2 x3 x4 x5) : keep [1, 2, 10, 11] (e97 x0 x1 x2 x3 x4 x5) = (e102 x0 x1 x2 x3 x4) := by kernel_rfl
theorem hb118_2 (x0 x1 x2 x3 x4 x5) : boolOf? (ent (e97 x0 x1 x2 x3 x4 x5) (.t 12)) = some x5 := by kernel_rfl
def g118_4b (x0 : V13) (x1 : Bool) (x2 : V1) (x3 : Nat) (x4 : Bool) : Option R :=
none /- extract 1 of 1 -/
theorem t118_4b (x0 x1 x2 x3 x4) : exec cl N c118_4 (e102 x0 x1 x2 x3 x4) K = (g118_4b x0 x1 x2 x3 x4) := by
  kernel_rfl
def g118_9 (x0 : V13) (x1 : Bool) (x2 : V1) (x3 : Nat) (k0 : Int → Option R) (k1 : V13 → Bool → V1 → Nat → Option R) (k2 : V13 → Bool → V1 → Nat → Bool → Int → Int → Option R) (k3 : V13 → Bool → V1 → Nat → Bool → Option R) : Option R :=
(g118_2 x0 x1 x2 x3 (fun y0 y1 y2 y3 y4 y5 y6 y7 => brB y7 ((fun y0 y1 y2 y3 y4 y5 y6 => (g118_4 y0 y1 y2 y3 y4 y5 y6 (fun y0 y1 y2 y3 y4 y5 => (g118_5 y0 y1 y2 y3 y4 y5 (fun y0 y1 y2 y3 y4 y5 => brB y5 (g118_6 y0 y1 y2 y3 y4 y5 (fun y0 => ((fun y0 => (k0 y0)) y0))) (k1 y0 y1 y3 y4)))))) y0 y1 y2 y3 y4 y5 y6) (k2 y0 y1 y2 y3 y4 y5 y6)) (fun y0 y1 y2 y3 y4 y5 => brB y5 (g118_4b y0 y1 y2 y3 y4) (k3 y0 y1 y2 y3 y4)))
theorem t118_9 (x0 x1 x2 x3) : exec cl N c118_9 (e95 x0 x1 x2 x3) K = (g118_9 x0 x1 x2 x3 (fun y0 => K .ret (e100 y0)) (fun y0 y1 y2 y3 => K .normal (e101 y0 y1 y2 y3)) (fun y0 y1 y2 y3 y4 y5 y6 => K (.exit 0) (e98 y0 y1 y2 y3 y4 y5 y6)) (fun y0 y1 y2 y3 y4 => K (.exit 0) (e102 y0 y1 y2 y3 y4))) := by
  simp only [c118_9, exec_seq, seqK_normal, seqK_exit, seqK_ret, t118_2, c118_3, exec_out, exec_cond', hb118_0, Option.bind_some, brB_true, brB_false, exec_skip, exec_exit, kp118_1, c118_8, exec_block, t118_4, t118_5, c118_7, hb118_1, t118_6, exec_ret, kp118_2, kp118_3, blockK_normal, blockK_ret, blockK_eq, kp118_4, kp118_5, hb118_2, kp118_6, t118_4b]
  rfl
theorem kp118_7 (x0 x1 x2 x3) : keep [1, 2, 10] (e101 x0 x1 x2 x3) = (e95 x0 x1 x2 x3) := by kernel_rfl
def l118_10 {R : Type} (k0 : Int → Option R) (k1 : V13 → Bool → V1 → Nat → Bool → Int → Int → Option R) (k2 : V13 → Bool → V1 → Nat → Bool → Option R) : Nat → V13 → Bool → V1 → Nat → Option R
  | 0, _, _, _, _ => none
  | m + 1, x0, x1, x2, x3 => (g118_9 x0 x1 x2 x3 k0 (fun y0 y1 y2 y3 => l118_10 k0 k1 k2 m y0 y1 y2 y3) k1 k2)
theorem lt118_10 : ∀ (m) (x0 x1 x2 x3), iter [1, 2, 10] (fun env K => exec cl N c118_9 env K) K m (e95 x0 x1 x2 x3) = l118_10 (fun y0 => K .ret (e100 y0)) (fun y0 y1 y2 y3 y4 y5 y6 => K (.exit 0) (e98 y0 y1 y2 y3 y4 y5 y6)) (fun y0 y1 y2 y3 y4 => K (.exit 0) (e102 y0 y1 y2 y3 y4)) m x0 x1 x2 x3 := by
  intro m
  induction m with
  | zero => intros; rfl
  | succ m ih =>
    intro x0 x1 x2 x3
    simp only [iter_succ, t118_9, loopK_normal, loopK_exit, loopK_ret, kp118_7, ih]
    rfl
theorem kp118_8 (x0) : keep [6] (e100 x0) = [(6, .v U2 x0)] := by kernel_rfl
theorem kp118_9 (x0 x1 x2 x3 x4 x5 x6) : keep [6] (e98 x0 x1 x2 x3 x4 x5 x6) = [(6, .dead)] := by kernel_rfl
theorem kp118_10 (x0 x1 x2 x3 x4) : keep [6] (e102 x0 x1 x2 x3 x4) = [(6, .dead)] := by kernel_rfl
def g118_10 (N : Nat) (x0 : V13) (x1 : Bool) (x2 : V1) (x3 : Nat) (k0 : Int → Option R) (k1 : Option R) : Option R :=
l118_10 (fun y0 => k0 y0) (fun y0 y1 y2 y3 y4 y5 y6 => k1) (fun y0 y1 y2 y3 y4 => k1) N x0 x1 x2 x3
theorem t118_10 (x0 x1 x2 x3) : exec cl N c118_10 (e95 x0 x1 x2 x3) K = (g118_10 N x0 x1 x2 x3 (fun y0 => K .ret [(6, .v U2 y0)]) (K (.exit 0) [(6, .dead)])) := by
  simp only [c118_10, exec_out, exec_loop, kp118_0, lt118_10, kp118_10, kp118_8, kp118_9]
  rfl
theorem kp118_11 (x0) : keep [6] [(6, .v U2 x0)] = [(6, .v U2 x0)] := by kernel_rfl
theorem kp118_12 : keep [6] [(6, .dead)] = [(6, .dead)] := by kernel_rfl
def g118_12 (k0 : Int → Option R) : Option R :=
k0 (-1 : Int)
theorem t118_12 : exec cl N c118_12 [(6, .dead)] K = (g118_12 (fun y0 => K .normal [(6, .v U2 y0)])) := by
  kernel_rfl
def g118_13 (N : Nat) (x0 : V1) (x1 : V13) (x2 : Bool) (k0 : Int → Option R) : Option R :=
(g118_0 x0 x1 x2 (fun y0 y1 y2 => (g118_1 y0 y1 y2 (fun y0 y1 y2 y3 => (g118_10 N y0 y1 y2 y3 (fun y0 => (k0 y0)) (g118_12 (fun y0 => (k0 y0))))))))
theorem t118_13 (x0 x1 x2) : exec cl N c118_13 (e94 x0 x1 x2) K = (g118_13 N x0 x1 x2 (fun y0 => K .ret [(6, .v U2 y0)])) := by
  simp only [c118_13, exec_seq, seqK_normal, seqK_exit, seqK_ret, t118_0, t118_1, c118_11, exec_out, exec_block, t118_10, blockK_normal, blockK_ret, blockK_eq, kp118_11, kp118_12, t118_12, exec_ret]
  rfl
theorem rk118_0 (y0) : retK d118 .ret [(6, .v U2 y0)] = some [.v U2 y0] := by kernel_rfl
def g118 (N : Nat) (x0 : V1) (x1 : V13) (x2 : Bool) (k : Int → Option R) : Option R :=
(g118_13 N x0 x1 x2 (fun y0 => k y0))
theorem gen118 {N : Nat} {cl : Cal} (x0 : V1) (x1 : V13) (x2 : Bool) {R : Type} (k : List E → Option R) : exec cl N c118 (params 0 [.v .str x0, .v U11 x1, .v .bool x2]) (fun e env => (retK d118 e env).bind k) = g118 N x0 x1 x2 (fun (r0 : Int) => k [.v U2 r0]) := by
  have e0 : params 0 [.v .str x0, .v U11 x1, .v .bool x2] = (e94 x0 x1 x2) := by kernel_rfl
  simp only [c118, e0, t118_13, rk118_0, Option.bind_some]
  rfl
def ctr118 (S : V1 → V13 → Bool → Option (Int)) : Ctr := { A := V1 × V13 × Bool × Unit, B := Int, f := 118, enc := fun a => [.v .str a.1, .v U11 a.2.1, .v .bool a.2.2.1], dec := (decC (decV .str) (decC (decV U11) (decC (decV .bool) dec0))), S := fun a => S a.1 a.2.1 a.2.2.1, ent := fun b => [.v U2 b], ok := (decV_cons (T := .str) (decV_cons (T := U11) (decV_cons (T := .bool) (fun es b h => dec0_some h)))) }
def S118 (N : Nat) (x0 : V1) (x1 : V13) (x2 : Bool) : Option (Int) := g118 N x0 x1 x2 (fun (r0 : Int) => some (r0))
def g111_0 (x0 : V1) (x1 : V13) (k0 : V1 → V13 → Option R) : Option R :=
k0 x0 x1
theorem t111_0 (x0 x1) : exec cl N c111_0 (e103 x0 x1) K = (g111_0 x0 x1 (fun y0 y1 => K .normal (e103 y0 y1))) := by
  kernel_rfl
def g111_1 (S118 : V1 → V13 → Bool → Option (Int)) (x0 : V1) (x1 : V13) (k0 : Int → Option R) : Option R :=
(S118 x0 x1 true).bind fun r299 =>
k0 r299
theorem t111_1 (S118) (h118 : (ctr118 S118).holds cl) (x0 x1) : exec cl N c111_1 (e103 x0 x1) K = (g111_1 S118 x0 x1 (fun y0 => K .normal [(4, .v U2 y0)])) := by
  rw [← put_eq h118]
  kernel_rfl
def g111_2 (S118 : V1 → V13 → Bool → Option (Int)) (x0 : V1) (x1 : V13) (k0 : Int → Option R) : Option R :=
(g111_0 x0 x1 (fun y0 y1 => (g111_1 S118 y0 y1 (fun y0 => (k0 y0)))))
theorem t111_2 (S118) (h118 : (ctr118 S118).holds cl) (x0 x1) : exec cl N c111_2 (e103 x0 x1) K = (g111_2 S118 x0 x1 (fun y0 => K .ret [(4, .v U2 y0)])) := by
  simp only [c111_2, exec_seq, seqK_normal, seqK_exit, seqK_ret, t111_0, t111_1 S118 h118, exec_ret]
  rfl
theorem rk111_0 (y0) : retK d111 .ret [(4, .v U2 y0)] = some [.v U2 y0] := by kernel_rfl
def g111 (S118 : V1 → V13 → Bool → Option (Int)) (x0 : V1) (x1 : V13) (k : Int → Option R) : Option R :=
(g111_2 S118 x0 x1 (fun y0 => k y0))
theorem gen111 {N : Nat} {cl : Cal} (S118 : V1 → V13 → Bool → Option (Int)) (h118 : (ctr118 S118).holds cl) (x0 : V1) (x1 : V13) {R : Type} (k : List E → Option R) : exec cl N c111 (params 0 [.v .str x0, .v U11 x1]) (fun e env => (retK d111 e env).bind k) = g111 S118 x0 x1 (fun (r0 : Int) => k [.v U2 r0]) := by
  have e0 : params 0 [.v .str x0, .v U11 x1] = (e103 x0 x1) := by kernel_rfl
  simp only [c111, e0, t111_2 S118 h118, rk111_0, Option.bind_some]
  rfl
def ctr111 (S : V1 → V13 → Option (Int)) : Ctr := { A := V1 × V13 × Unit, B := Int, f := 111, enc := fun a => [.v .str a.1, .v U11 a.2.1], dec := (decC (decV .str) (decC (decV U11) dec0)), S := fun a => S a.1 a.2.1, ent := fun b => [.v U2 b], ok := (decV_cons (T := .str) (decV_cons (T := U11) (fun es b h => dec0_some h))) }
def S111 (N : Nat) (x0 : V1) (x1 : V13) : Option (Int) := g111 (S118 N) x0 x1 (fun (r0 : Int) => some (r0))
def g98_0 (x0 : V1) (x1 : V13) (k0 : V1 → V13 → Option R) : Option R :=
k0 x0 x1
theorem t98_0 (x0 x1) : exec cl N c98_0 (e103 x0 x1) K = (g98_0 x0 x1 (fun y0 y1 => K .normal (e103 y0 y1))) := by
  kernel_rfl
def g98_1 (S111 : V1 → V13 → Option (Int)) (x0 : V1) (x1 : V13) (k0 : Bool → Option R) : Option R :=
(S111 x0 x1).bind fun r302 =>
k0 (decide (r302 ≥ (0 : Int)))
theorem t98_1 (S111) (h111 : (ctr111 S111).holds cl) (x0 x1) : exec cl N c98_1 (e103 x0 x1) K = (g98_1 S111 x0 x1 (fun y0 => K .normal [(4, .v .bool y0)])) := by
  rw [← put_eq h111]
  kernel_rfl
def g98_2 (S111 : V1 → V13 → Option (Int)) (x0 : V1) (x1 : V13) (k0 : Bool → Option R) : Option R :=
(g98_0 x0 x1 (fun y0 y1 => (g98_1 S111 y0 y1 (fun y0 => (k0 y0)))))
theorem t98_2 (S111) (h111 : (ctr111 S111).holds cl) (x0 x1) : exec cl N c98_2 (e103 x0 x1) K = (g98_2 S111 x0 x1 (fun y0 => K .ret [(4, .v .bool y0)])) := by
  simp only [c98_2, exec_seq, seqK_normal, seqK_exit, seqK_ret, t98_0, t98_1 S111 h111, exec_ret]
  rfl
theorem rk98_0 (y0) : retK d98 .ret [(4, .v .bool y0)] = some [.v .bool y0] := by kernel_rfl
def g98 (S111 : V1 → V13 → Option (Int)) (x0 : V1) (x1 : V13) (k : Bool → Option R) : Option R :=
(g98_2 S111 x0 x1 (fun y0 => k y0))
theorem gen98 {N : Nat} {cl : Cal} (S111 : V1 → V13 → Option (Int)) (h111 : (ctr111 S111).holds cl) (x0 : V1) (x1 : V13) {R : Type} (k : List E → Option R) : exec cl N c98 (params 0 [.v .str x0, .v U11 x1]) (fun e env => (retK d98 e env).bind k) = g98 S111 x0 x1 (fun (r0 : Bool) => k [.v .bool r0]) := by
  have e0 : params 0 [.v .str x0, .v U11 x1] = (e103 x0 x1) := by kernel_rfl
  simp only [c98, e0, t98_2 S111 h111, rk98_0, Option.bind_some]
  rfl
def ctr98 (S : V1 → V13 → Option (Bool)) : Ctr := { A := V1 × V13 × Unit, B := Bool, f := 98, enc := fun a => [.v .str a.1, .v U11 a.2.1], dec := (decC (decV .str) (decC (decV U11) dec0)), S := fun a => S a.1 a.2.1, ent := fun b => [.v .bool b], ok := (decV_cons (T := .str) (decV_cons (T := U11) (fun es b h => dec0_some h))) }
def S98 (N : Nat) (x0 : V1) (x1 : V13) : Option (Bool) := g98 (S111 N) x0 x1 (fun (r0 : Bool) => some (r0))
def g85_0 (x0 : V19) (k0 : V19 → Option R) : Option R :=
k0 x0
theorem t85_0 (x0) : exec cl N c85_0 [(0, .v U17 x0)] K = (g85_0 x0 (fun y0 => K .normal [(1, .loc U17 .no y0)])) := by
  kernel_rfl
def g85_1 (x0 : V19) (k0 : V19 → Bool → Option R) : Option R :=
brB (decide (x0.1 < (1 : Int))) (k0 x0 true) (k0 x0 (decide (x0.1 > (9 : Int))))
theorem t85_1 (x0) : exec cl N c85_1 [(1, .loc U17 .no x0)] K = (g85_1 x0 (fun y0 y1 => K .normal (e104 y0 y1))) := by
  kernel_rfl
def g85_2 (x0 : V19) (x1 : Bool) (k0 : Int → Option R) : Option R :=
k0 (1 : Int)
theorem t85_2 (x0 x1) : exec cl N c85_2 (e104 x0 x1) K = (g85_2 x0 x1 (fun y0 => K .normal [(2, .v U2 y0)])) := by
  kernel_rfl
theorem kp85_0 (x0) : keep [2] [(2, .v U2 x0)] = [(2, .v U2 x0)] := by kernel_rfl
def g85_3 (S97 : V19 → Option (Bool)) (x0 : V19) (x1 : Bool) (k0 : V19 → Bool → Option R) : Option R :=
(S97 x0).bind fun r307 =>
k0 x0 (!r307)
theorem t85_3 (S97) (h97 : (ctr97 S97).holds cl) (x0 x1) : exec cl N c85_3 (e104 x0 x1) K = (g85_3 S97 x0 x1 (fun y0 y1 => K .normal (e105 y0 y1))) := by
  rw [← put_eq h97]
  kernel_rfl
def g85_4 (x0 : V19) (x1 : Bool) (k0 : Int → Option R) : Option R :=
k0 (6 : Int)
theorem t85_4 (x0 x1) : exec cl N c85_4 (e105 x0 x1) K = (g85_4 x0 x1 (fun y0 => K .normal [(2, .v U2 y0)])) := by
  kernel_rfl
def g85_5 (x0 : V19) (x1 : Bool) (k0 : V19 → Bool → Option R) : Option R :=
k0 x0 (x0.2.2.1 == ([] : List UInt8))
theorem t85_5 (x0 x1) : exec cl N c85_5 (e105 x0 x1) K = (g85_5 x0 x1 (fun y0 y1 => K .normal (e106 y0 y1))) := by
  kernel_rfl
def g85_6 (x0 : V19) (x1 : Bool) (k0 : Int → Option R) : Option R :=
k0 (7 : Int)
theorem t85_6 (x0 x1) : exec cl N c85_6 (e106 x0 x1) K = (g85_6 x0 x1 (fun y0 => K .normal [(2, .v U2 y0)])) := by
  kernel_rfl
def g85_7 (x0 : V19) (x1 : Bool) (k0 : V19 → Bool → Option R) : Option R :=
k0 x0 (decide ((x0.2.2.1.length : Int) > (8 : Int)))
theorem t85_7 (x0 x1) : exec cl N c85_7 (e106 x0 x1) K = (g85_7 x0 x1 (fun y0 y1 => K .normal (e107 y0 y1))) := by
  kernel_rfl
def g85_8 (x0 : V19) (x1 : Bool) (k0 : Int → Option R) : Option R :=
k0 (3 : Int)
theorem t85_8 (x0 x1) : exec cl N c85_8 (e107 x0 x1) K = (g85_8 x0 x1 (fun y0 => K .normal [(2, .v U2 y0)])) := by
  kernel_rfl
def g85_9 (S98 : V1 → V13 → Option (Bool)) (S99 : Int → Option (Bool)) (x0 : V19) (x1 : Bool) (k0 : Bool → Option R) : Option R :=
(S98 x0.2.2.1 (fun (x310 : V2) => ((S99 x310.1).bind fun b311 => some [.v .bool b311]).bind (unE .bool))).bind fun r312 =>
k0 r312
theorem t85_9 (S98) (S99) (h98 : (ctr98 S98).holds cl) (h99 : (ctr99 S99).holds cl) (x0 x1) : exec cl N c85_9 (e107 x0 x1) K = (g85_9 S98 S99 x0 x1 (fun y0 => K .normal [(25, .v .bool y0)])) := by
  rw [← put_eq h98]
  rw [← put_eq h99]
  kernel_rfl
def g85_10 (x0 : Bool) (k0 : Int → Option R) : Option R :=
k0 (2 : Int)
theorem t85_10 (x0) : exec cl N c85_10 [(25, .v .bool x0)] K = (g85_10 x0 (fun y0 => K .normal [(2, .v U2 y0)])) := by
  kernel_rfl
theorem kp85_1 (x0) : keep [2] [(25, .v .bool x0)] = [(2, .dead)] := by kernel_rfl
theorem hb85_0 (x0) : boolOf? (ent [(25, .v .bool x0)] (.t 25)) = some x0 := by kernel_rfl
theorem kp85_2 : keep [2] [(2, .dead)] = [(2, .dead)] := by kernel_rfl
theorem hb85_1 (x0 x1) : boolOf? (ent (e107 x0 x1) (.t 20)) = some x1 := by kernel_rfl
theorem hb85_2 (x0 x1) : boolOf? (ent (e106 x0 x1) (.t 16)) = some x1 := by kernel_rfl
theorem hb85_3 (x0 x1) : boolOf? (ent (e105 x0 x1) (.t 12)) = some x1 := by kernel_rfl
theorem hb85_4 (x0 x1) : boolOf? (ent (e104 x0 x1) (.t 3)) = some x1 := by kernel_rfl
def g85_17 (k0 : Int → Option R) : Option R :=
k0 (0 : Int)
theorem t85_17 : exec cl N c85_17 [(2, .dead)] K = (g85_17 (fun y0 => K .normal [(2, .v U2 y0)])) := by
  kernel_rfl
def g85_18 (S97 : V19 → Option (Bool)) (S98 : V1 → V13 → Option (Bool)) (S99 : Int → Option (Bool)) (x0 : V19) (k0 : Int → Option R) : Option R :=
(g85_0 x0 (fun y0 => (g85_1 y0 (fun y0 y1 => brB y1 (g85_2 y0 y1 (fun y0 => ((fun y0 => (k0 y0)) y0))) (g85_3 S97 y0 y1 (fun y0 y1 => brB y1 (g85_4 y0 y1 (fun y0 => ((fun y0 => (k0 y0)) y0))) (g85_5 y0 y1 (fun y0 y1 => brB y1 (g85_6 y0 y1 (fun y0 => ((fun y0 => (k0 y0)) y0))) (g85_7 y0 y1 (fun y0 y1 => brB y1 (g85_8 y0 y1 (fun y0 => ((fun y0 => (k0 y0)) y0))) (g85_9 S98 S99 y0 y1 (fun y0 => brB y0 (g85_10 y0 (fun y0 => ((fun y0 => (k0 y0)) y0))) (g85_17 (fun y0 => (k0 y0)))))))))))))))
theorem t85_18 (S97) (S98) (S99) (h97 : (ctr97 S97).holds cl) (h98 : (ctr98 S98).holds cl) (h99 : (ctr99 S99).holds cl) (x0) : exec cl N c85_18 [(0, .v U17 x0)] K = (g85_18 S97 S98 S99 x0 (fun y0 => K .ret [(2, .v U2 y0)])) := by
  simp only [c85_18, exec_seq, seqK_normal, seqK_exit, seqK_ret, t85_0, c85_16, exec_out, exec_block, t85_1, c85_15, exec_cond', hb85_4, Option.bind_some, brB_true, brB_false, t85_2, exec_ret, t85_3 S97 h97, c85_14, hb85_3, t85_4, t85_5, c85_13, hb85_2, t85_6, t85_7, c85_12, hb85_1, t85_8, t85_9 S98 S99 h98 h99, c85_11, hb85_0, t85_10, exec_skip, kp85_0, kp85_1, kp85_2, blockK_normal, blockK_ret, blockK_eq, t85_17]
  rfl
theorem rk85_0 (y0) : retK d85 .ret [(2, .v U2 y0)] = some [.v U2 y0] := by kernel_rfl
def g85 (S97 : V19 → Option (Bool)) (S98 : V1 → V13 → Option (Bool)) (S99 : Int → Option (Bool)) (x0 : V19) (k : Int → Option R) : Option R :=
(g85_18 S97 S98 S99 x0 (fun y0 => k y0))
theorem gen85 {N : Nat} {cl : Cal} (S97 : V19 → Option (Bool)) (S98 : V1 → V13 → Option (Bool)) (S99 : Int → Option (Bool)) (h97 : (ctr97 S97).holds cl) (h98 : (ctr98 S98).holds cl) (h99 : (ctr99 S99).holds cl) (x0 : V19) {R : Type} (k : List E → Option R) : exec cl N c85 (params 0 [.v U17 x0]) (fun e env => (retK d85 e env).bind k) = g85 S97 S98 S99 x0 (fun (r0 : Int) => k [.v U2 r0]) := by
  have e0 : params 0 [.v U17 x0] = [(0, .v U17 x0)] := by kernel_rfl
  simp only [c85, e0, t85_18 S97 S98 S99 h97 h98 h99, rk85_0, Option.bind_some]
  rfl
def ctr85 (S : V19 → Option (Int)) : Ctr := { A := V19 × Unit, B := Int, f := 85, enc := fun a => [.v U17 a.1], dec := (decC (decV U17) dec0), S := fun a => S a.1, ent := fun b => [.v U2 b], ok := (decV_cons (T := U17) (fun es b h => dec0_some h)) }
def S85 (N : Nat) (x0 : V19) : Option (Int) := g85 (S97 N) (S98 N) (S99 N) x0 (fun (r0 : Int) => some (r0))
def g60_0 (x0 : V20) (k0 : V20 → Option R) : Option R :=
k0 x0
theorem t60_0 (x0) : exec cl N c60_0 [(0, .v U21 x0)] K = (g60_0 x0 (fun y0 => K .normal [(0, .v U21 y0)])) := by
  kernel_rfl
def g60_1 (x0 : V20) (k0 : V20 → Bool → Option R) : Option R :=
k0 x0 (decide ((x0.length : Int) > (200 : Int)))
theorem t60_1 (x0) : exec cl N c60_1 [(0, .v U21 x0)] K = (g60_1 x0 (fun y0 y1 => K .normal (e108 y0 y1))) := by
  kernel_rfl
def g60_2 (x0 : V20) (x1 : Bool) (k0 : Int → Option R) : Option R :=
k0 (3 : Int)
theorem t60_2 (x0 x1) : exec cl N c60_2 (e108 x0 x1) K = (g60_2 x0 x1 (fun y0 => K .normal [(2, .v U2 y0)])) := by
  kernel_rfl
theorem kp60_0 (x0) : keep [0, 2] [(2, .v U2 x0)] = (e15 x0) := by kernel_rfl
theorem kp60_1 (x0 x1) : keep [0, 2] (e108 x0 x1) = (e109 x0) := by kernel_rfl
theorem hb60_0 (x0 x1) : boolOf? (ent (e108 x0 x1) (.t 8)) = some x1 := by kernel_rfl
def g60_4 (x0 : V20) (k0 : V20 → Int → Int → Option R) : Option R :=
k0 x0 (x0.length : Int) (0 : Int)
theorem t60_4 (x0) : exec cl N c60_4 (e109 x0) K = (g60_4 x0 (fun y0 y1 y2 => K .normal (e110 y0 y1 y2))) := by
  kernel_rfl
theorem kp60_2 (x0 x1 x2) : keep [9, 10, 11] (e110 x0 x1 x2) = (e110 x0 x1 x2) := by kernel_rfl
def g60_5 (x0 : V20) (x1 x2 : Int) (k0 : V20 → Int → Int → Bool → Option R) : Option R :=
k0 x0 x1 x2 (decide (x2 < x1))
theorem t60_5 (x0 x1 x2) : exec cl N c60_5 (e110 x0 x1 x2) K = (g60_5 x0 x1 x2 (fun y0 y1 y2 y3 => K .normal (e111 y0 y1 y2 y3))) := by
  kernel_rfl
theorem kp60_3 (x0 x1 x2 x3) : keep [9, 10, 11] (e111 x0 x1 x2 x3) = (e110 x0 x1 x2) := by kernel_rfl
theorem hb60_1 (x0 x1 x2 x3) : boolOf? (ent (e111 x0 x1 x2 x3) (.t 12)) = some x3 := by kernel_rfl
def g60_7 (x0 : V20) (x1 x2 : Int) (k0 : V19 → V20 → Int → Int → Option R) : Option R :=
if 0 ≤ x2 ∧ x2 < (x0.length : Int) then
k0 (x0.getD x2.toNat ((0 : Int), ((0 : Int), ([], ())))) x0 x1 x2
else none
theorem t60_7 (x0 x1 x2) : exec cl N c60_7 (e110 x0 x1 x2) K = (g60_7 x0 x1 x2 (fun y0 y1 y2 y3 => K .normal [(4, .loc U17 .no y0), (9, .v U21 y1), (10, .v U2 y2), (11, .v U2 y3)])) := by
  kernel_rfl
def g60_8 (S85 : V19 → Option (Int)) (x0 : V19) (x1 : V20) (x2 x3 : Int) (k0 : Int → V20 → Int → Int → Option R) : Option R :=
(S85 x0).bind fun r318 =>
k0 r318 x1 x2 x3
theorem t60_8 (S85) (h85 : (ctr85 S85).holds cl) (x0 x1 x2 x3) : exec cl N c60_8 [(4, .loc U17 .no x0), (9, .v U21 x1), (10, .v U2 x2), (11, .v U2 x3)] K = (g60_8 S85 x0 x1 x2 x3 (fun y0 y1 y2 y3 => K .normal [(5, .v U2 y0), (9, .v U21 y1), (10, .v U2 y2), (11, .v U2 y3)])) := by
  rw [← put_eq h85]
  kernel_rfl
def g60_9 (x0 : Int) (x1 : V20) (x2 x3 : Int) (k0 : Int → V20 → Int → Int → Bool → Option R) : Option R :=
k0 x0 x1 x2 x3 (x0 != (0 : Int))
theorem t60_9 (x0 x1 x2 x3) : exec cl N c60_9 [(5, .v U2 x0), (9, .v U21 x1), (10, .v U2 x2), (11, .v U2 x3)] K = (g60_9 x0 x1 x2 x3 (fun y0 y1 y2 y3 y4 => K .normal (e112 y0 y1 y2 y3 y4))) := by
  kernel_rfl
def g60_10 (x0 : Int) (x1 : V20) (x2 x3 : Int) (x4 : Bool) (k0 : Int → Option R) : Option R :=
k0 x0
theorem t60_10 (x0 x1 x2 x3 x4) : exec cl N c60_10 (e112 x0 x1 x2 x3 x4) K = (g60_10 x0 x1 x2 x3 x4 (fun y0 => K .normal [(2, .v U2 y0)])) := by
  kernel_rfl
theorem kp60_4 (x0) : keep [2, 9, 10, 11] [(2, .v U2 x0)] = (e113 x0) := by kernel_rfl
theorem kp60_5 (x0 x1 x2 x3 x4) : keep [2, 9, 10, 11] (e112 x0 x1 x2 x3 x4) = (e114 x1 x2 x3) := by kernel_rfl
theorem hb60_2 (x0 x1 x2 x3 x4) : boolOf? (ent (e112 x0 x1 x2 x3 x4) (.t 18)) = some x4 := by kernel_rfl
theorem kp60_6 (x0) : keep [2, 9, 10, 11] (e113 x0) = (e113 x0) := by kernel_rfl
theorem kp60_7 (x0 x1 x2) : keep [2, 9, 10, 11] (e114 x0 x1 x2) = (e114 x0 x1 x2) := by kernel_rfl
def g60_13 (x0 : V20) (x1 x2 : Int) (k0 : V20 → Int → Int → Option R) : Option R :=
k0 x0 x1 (IntKind.i64.wrap (x2 + (1 : Int)))
theorem t60_13 (x0 x1 x2) : exec cl N c60_13 (e114 x0 x1 x2) K = (g60_13 x0 x1 x2 (fun y0 y1 y2 => K .normal (e110 y0 y1 y2))) := by
  kernel_rfl
def g60_14 (S85 : V19 → Option (Int)) (x0 : V20) (x1 x2 : Int) (k0 : Int → Option R) (k1 : V20 → Int → Int → Option R) (k2 : V20 → Int → Int → Option R) : Option R :=
(g60_5 x0 x1 x2 (fun y0 y1 y2 y3 => brB y3 ((fun y0 y1 y2 => (g60_7 y0 y1 y2 (fun y0 y1 y2 y3 => (g60_8 S85 y0 y1 y2 y3 (fun y0 y1 y2 y3 => (g60_9 y0 y1 y2 y3 (fun y0 y1 y2 y3 y4 => brB y4 (g60_10 y0 y1 y2 y3 y4 (fun y0 => ((fun y0 => (k0 y0)) y0))) (g60_13 y1 y2 y3 k1)))))))) y0 y1 y2) (k2 y0 y1 y2)))
theorem t60_14 (S85) (h85 : (ctr85 S85).holds cl) (x0 x1 x2) : exec cl N c60_14 (e110 x0 x1 x2) K = (g60_14 S85 x0 x1 x2 (fun y0 => K .ret (e113 y0)) (fun y0 y1 y2 => K .normal (e110 y0 y1 y2)) (fun y0 y1 y2 => K (.exit 0) (e110 y0 y1 y2))) := by
  simp only [c60_14, exec_seq, seqK_normal, seqK_exit, seqK_ret, t60_5, c60_6, exec_out, exec_cond', hb60_1, Option.bind_some, brB_true, brB_false, exec_skip, exec_exit, kp60_3, c60_12, exec_block, t60_7, t60_8 S85 h85, t60_9, c60_11, hb60_2, t60_10, exec_ret, kp60_4, kp60_5, blockK_normal, blockK_ret, blockK_eq, kp60_6, kp60_7, t60_13]
  rfl
def l60_15 {R : Type} (S85 : V19 → Option (Int)) (k0 : Int → Option R) (k1 : V20 → Int → Int → Option R) : Nat → V20 → Int → Int → Option R
  | 0, _, _, _ => none
  | m + 1, x0, x1, x2 => (g60_14 S85 x0 x1 x2 k0 (fun y0 y1 y2 => l60_15 S85 k0 k1 m y0 y1 y2) k1)
theorem lt60_15 (S85) (h85 : (ctr85 S85).holds cl) : ∀ (m) (x0 x1 x2), iter [9, 10, 11] (fun env K => exec cl N c60_14 env K) K m (e110 x0 x1 x2) = l60_15 S85 (fun y0 => K .ret (e113 y0)) (fun y0 y1 y2 => K (.exit 0) (e110 y0 y1 y2)) m x0 x1 x2 := by
  intro m
  induction m with
  | zero => intros; rfl
  | succ m ih =>
    intro x0 x1 x2
    simp only [iter_succ, t60_14 S85 h85, loopK_normal, loopK_exit, loopK_ret, kp60_2, ih]
    rfl
theorem kp60_8 (x0) : keep [2] (e113 x0) = [(2, .v U2 x0)] := by kernel_rfl
theorem kp60_9 (x0 x1 x2) : keep [2] (e110 x0 x1 x2) = [(2, .dead)] := by kernel_rfl
def g60_15 (N : Nat) (S85 : V19 → Option (Int)) (x0 : V20) (x1 x2 : Int) (k0 : Int → Option R) (k1 : Option R) : Option R :=
l60_15 S85 (fun y0 => k0 y0) (fun y0 y1 y2 => k1) N x0 x1 x2
theorem t60_15 (S85) (h85 : (ctr85 S85).holds cl) (x0 x1 x2) : exec cl N c60_15 (e110 x0 x1 x2) K = (g60_15 N S85 x0 x1 x2 (fun y0 => K .ret [(2, .v U2 y0)]) (K (.exit 0) [(2, .dead)])) := by
  simp only [c60_15, exec_out, exec_loop, kp60_2, lt60_15 S85 h85, kp60_8, kp60_9]
  rfl
theorem kp60_10 (x0) : keep [2] [(2, .v U2 x0)] = [(2, .v U2 x0)] := by kernel_rfl
theorem kp60_11 : keep [2] [(2, .dead)] = [(2, .dead)] := by kernel_rfl
def g60_17 (k0 : Int → Option R) : Option R :=
k0 (0 : Int)
theorem t60_17 : exec cl N c60_17 [(2, .dead)] K = (g60_17 (fun y0 => K .normal [(2, .v U2 y0)])) := by
  kernel_rfl
def g60_18 (N : Nat) (S85 : V19 → Option (Int)) (x0 : V20) (k0 : Int → Option R) (k1 : Int → Option R) : Option R :=
(g60_0 x0 (fun y0 => (g60_1 y0 (fun y0 y1 => brB y1 (g60_2 y0 y1 (fun y0 => ((fun y0 => (k0 y0)) y0))) ((fun y0 => (g60_4 y0 (fun y0 y1 y2 => (g60_15 N S85 y0 y1 y2 (fun y0 => (k1 y0)) (g60_17 (fun y0 => (k1 y0))))))) y0)))))
theorem t60_18 (S85) (h85 : (ctr85 S85).holds cl) (x0) : exec cl N c60_18 [(0, .v U21 x0)] K = (g60_18 N S85 x0 (fun y0 => K .ret (e15 y0)) (fun y0 => K .ret [(2, .v U2 y0)])) := by
  simp only [c60_18, exec_seq, seqK_normal, seqK_exit, seqK_ret, t60_0, t60_1, c60_3, exec_out, exec_cond', hb60_0, Option.bind_some, brB_true, brB_false, t60_2, exec_ret, exec_skip, kp60_0, kp60_1, t60_4, c60_16, exec_block, t60_15 S85 h85, blockK_normal, blockK_ret, blockK_eq, kp60_10, kp60_11, t60_17]
  rfl
theorem rk60_0 (y0) : retK d60 .ret (e15 y0) = some [.v U2 y0] := by kernel_rfl
theorem rk60_1 (y0) : retK d60 .ret [(2, .v U2 y0)] = some [.v U2 y0] := by kernel_rfl
def g60 (N : Nat) (S85 : V19 → Option (Int)) (x0 : V20) (k : Int → Option R) : Option R :=
(g60_18 N S85 x0 (fun y0 => k y0) (fun y0 => k y0))
theorem gen60 {N : Nat} {cl : Cal} (S85 : V19 → Option (Int)) (h85 : (ctr85 S85).holds cl) (x0 : V20) {R : Type} (k : List E → Option R) : exec cl N c60 (params 0 [.v U21 x0]) (fun e env => (retK d60 e env).bind k) = g60 N S85 x0 (fun (r0 : Int) => k [.v U2 r0]) := by
  have e0 : params 0 [.v U21 x0] = [(0, .v U21 x0)] := by kernel_rfl
  simp only [c60, e0, t60_18 S85 h85, rk60_0, rk60_1, Option.bind_some]
  rfl
def ctr60 (S : V20 → Option (Int)) : Ctr := { A := V20 × Unit, B := Int, f := 60, enc := fun a => [.v U21 a.1], dec := (decC (decV U21) dec0), S := fun a => S a.1, ent := fun b => [.v U2 b], ok := (decV_cons (T := U21) (fun es b h => dec0_some h)) }
def S60 (N : Nat) (x0 : V20) : Option (Int) := g60 N (S85 N) x0 (fun (r0 : Int) => some (r0))
def g33_0 (x0 x1 : V20) (k0 : V20 → V20 → Option R) : Option R :=
k0 x0 x1
theorem t33_0 (x0 x1) : exec cl N c33_0 (e115 x0 x1) K = (g33_0 x0 x1 (fun y0 y1 => K .normal (e115 y0 y1))) := by
  kernel_rfl
def g33_1 (S60 : V20 → Option (Int)) (x0 x1 : V20) (k0 : V20 → Int → Option R) : Option R :=
(S60 x0).bind fun r324 =>
k0 x1 r324
theorem t33_1 (S60) (h60 : (ctr60 S60).holds cl) (x0 x1) : exec cl N c33_1 (e115 x0 x1) K = (g33_1 S60 x0 x1 (fun y0 y1 => K .normal (e116 y0 y1))) := by
  rw [← put_eq h60]
  kernel_rfl
def g33_2 (x0 : V20) (x1 : Int) (k0 : V20 → Int → Bool → Option R) : Option R :=
k0 x0 x1 (x1 != (0 : Int))
theorem t33_2 (x0 x1) : exec cl N c33_2 (e116 x0 x1) K = (g33_2 x0 x1 (fun y0 y1 y2 => K .normal (e117 y0 y1 y2))) := by
  kernel_rfl
def g33_3 (x0 : V20) (x1 : Int) (x2 : Bool) (k0 : Int → Option R) : Option R :=
k0 x1
theorem t33_3 (x0 x1 x2) : exec cl N c33_3 (e117 x0 x1 x2) K = (g33_3 x0 x1 x2 (fun y0 => K .normal [(4, .v U2 y0)])) := by
  kernel_rfl
theorem kp33_0 (x0) : keep [1, 4] [(4, .v U2 x0)] = (e118 x0) := by kernel_rfl
theorem kp33_1 (x0 x1 x2) : keep [1, 4] (e117 x0 x1 x2) = (e119 x0) := by kernel_rfl
theorem hb33_0 (x0 x1 x2) : boolOf? (ent (e117 x0 x1 x2) (.t 9)) = some x2 := by kernel_rfl
def g33_5 (S60 : V20 → Option (Int)) (x0 : V20) (k0 : Int → Option R) : Option R :=
(S60 x0).bind fun r326 =>
k0 r326
theorem t33_5 (S60) (h60 : (ctr60 S60).holds cl) (x0) : exec cl N c33_5 (e119 x0) K = (g33_5 S60 x0 (fun y0 => K .normal [(4, .v U2 y0)])) := by
  rw [← put_eq h60]
  kernel_rfl
def g33_6 (S60 : V20 → Option (Int)) (x0 x1 : V20) (k0 : Int → Option R) (k1 : Int → Option R) : Option R :=
(g33_0 x0 x1 (fun y0 y1 => (g33_1 S60 y0 y1 (fun y0 y1 => (g33_2 y0 y1 (fun y0 y1 y2 => brB y2 (g33_3 y0 y1 y2 (fun y0 => ((fun y0 => (k0 y0)) y0))) ((fun y0 => (g33_5 S60 y0 (fun y0 => (k1 y0)))) y0)))))))
theorem t33_6 (S60) (h60 : (ctr60 S60).holds cl) (x0 x1) : exec cl N c33_6 (e115 x0 x1) K = (g33_6 S60 x0 x1 (fun y0 => K .ret (e118 y0)) (fun y0 => K .ret [(4, .v U2 y0)])) := by
  simp only [c33_6, exec_seq, seqK_normal, seqK_exit, seqK_ret, t33_0, t33_1 S60 h60, t33_2, c33_4, exec_out, exec_cond', hb33_0, Option.bind_some, brB_true, brB_false, t33_3, exec_ret, exec_skip, kp33_0, kp33_1, t33_5 S60 h60]
  rfl
theorem rk33_0 (y0) : retK d33 .ret (e118 y0) = some [.v U2 y0] := by kernel_rfl
theorem rk33_1 (y0) : retK d33 .ret [(4, .v U2 y0)] = some [.v U2 y0] := by kernel_rfl
def g33 (S60 : V20 → Option (Int)) (x0 x1 : V20) (k : Int → Option R) : Option R :=
(g33_6 S60 x0 x1 (fun y0 => k y0) (fun y0 => k y0))
theorem gen33 {N : Nat} {cl : Cal} (S60 : V20 → Option (Int)) (h60 : (ctr60 S60).holds cl) (x0 : V20) (x1 : V20) {R : Type} (k : List E → Option R) : exec cl N c33 (params 0 [.v U21 x0, .v U21 x1]) (fun e env => (retK d33 e env).bind k) = g33 S60 x0 x1 (fun (r0 : Int) => k [.v U2 r0]) := by
  have e0 : params 0 [.v U21 x0, .v U21 x1] = (e115 x0 x1) := by kernel_rfl
  simp only [c33, e0, t33_6 S60 h60, rk33_0, rk33_1, Option.bind_some]
  rfl
def ctr33 (S : V20 → V20 → Option (Int)) : Ctr := { A := V20 × V20 × Unit, B := Int, f := 33, enc := fun a => [.v U21 a.1, .v U21 a.2.1], dec := (decC (decV U21) (decC (decV U21) dec0)), S := fun a => S a.1 a.2.1, ent := fun b => [.v U2 b], ok := (decV_cons (T := U21) (decV_cons (T := U21) (fun es b h => dec0_some h))) }
def S33 (N : Nat) (x0 : V20) (x1 : V20) : Option (Int) := g33 (S60 N) x0 x1 (fun (r0 : Int) => some (r0))
def g64_0 (x0 : V19) (k0 : V19 → Option R) : Option R :=
k0 x0
theorem t64_0 (x0) : exec cl N c64_0 [(0, .v U17 x0)] K = (g64_0 x0 (fun y0 => K .normal [(1, .loc U17 .no y0)])) := by
  kernel_rfl
def g64_1 (x0 : V19) (k0 : Bool → Option R) : Option R :=
brB (x0.1 == (1 : Int)) (k0 true) (k0 (x0.1 == (2 : Int)))
theorem t64_1 (x0) : exec cl N c64_1 [(1, .loc U17 .no x0)] K = (g64_1 x0 (fun y0 => K .normal [(2, .v .bool y0)])) := by
  kernel_rfl
def g64_2 (x0 : V19) (k0 : Bool → Option R) : Option R :=
(g64_0 x0 (fun y0 => (g64_1 y0 (fun y0 => (k0 y0)))))
theorem t64_2 (x0) : exec cl N c64_2 [(0, .v U17 x0)] K = (g64_2 x0 (fun y0 => K .ret [(2, .v .bool y0)])) := by
  simp only [c64_2, exec_seq, seqK_normal, seqK_exit, seqK_ret, t64_0, t64_1, exec_ret]
  rfl
theorem rk64_0 (y0) : retK d64 .ret [(2, .v .bool y0)] = some [.v .bool y0] := by kernel_rfl
def g64 (x0 : V19) (k : Bool → Option R) : Option R :=
(g64_2 x0 (fun y0 => k y0))
theorem gen64 {N : Nat} {cl : Cal} (x0 : V19) {R : Type} (k : List E → Option R) : exec cl N c64 (params 0 [.v U17 x0]) (fun e env => (retK d64 e env).bind k) = g64 x0 (fun (r0 : Bool) => k [.v .bool r0]) := by
  have e0 : params 0 [.v U17 x0] = [(0, .v U17 x0)] := by kernel_rfl
  simp only [c64, e0, t64_2, rk64_0, Option.bind_some]
  rfl
def ctr64 (S : V19 → Option (Bool)) : Ctr := { A := V19 × Unit, B := Bool, f := 64, enc := fun a => [.v U17 a.1], dec := (decC (decV U17) dec0), S := fun a => S a.1, ent := fun b => [.v .bool b], ok := (decV_cons (T := U17) (fun es b h => dec0_some h)) }
def S64 (N : Nat) (x0 : V19) : Option (Bool) := g64 x0 (fun (r0 : Bool) => some (r0))
def g37_0 (x0 : V20) (k0 : V20 → Option R) : Option R :=
k0 x0
theorem t37_0 (x0) : exec cl N c37_0 [(0, .v U21 x0)] K = (g37_0 x0 (fun y0 => K .normal [(0, .v U21 y0)])) := by
  kernel_rfl
def g37_1 (x0 : V20) (k0 : V20 → Int → Option R) : Option R :=
k0 x0 (x0.length : Int)
theorem t37_1 (x0) : exec cl N c37_1 [(0, .v U21 x0)] K = (g37_1 x0 (fun y0 y1 => K .normal (e120 y0 y1))) := by
  kernel_rfl
def g37_2 (S64 : V19 → Option (Bool)) (x0 : V20) (x1 : Int) (k0 : V20 → Int → Bool → Option R) : Option R :=
brB (decide (x1 > (0 : Int))) (let v344 : Int := (IntKind.i64.wrap (x1 - (1 : Int)))
if 0 ≤ v344 ∧ v344 < (x0.length : Int) then
(S64 (x0.getD v344.toNat ((0 : Int), ((0 : Int), ([], ()))))).bind fun r345 =>
k0 x0 x1 r345
else none) (k0 x0 x1 false)
theorem t37_2 (S64) (h64 : (ctr64 S64).holds cl) (x0 x1) : exec cl N c37_2 (e120 x0 x1) K = (g37_2 S64 x0 x1 (fun y0 y1 y2 => K .normal (e121 y0 y1 y2))) := by
  rw [← put_eq h64]
  kernel_rfl
def g37_3 (x0 : V20) (x1 : Int) (x2 : Bool) (k0 : Int → Option R) : Option R :=
k0 (1 : Int)
theorem t37_3 (x0 x1 x2) : exec cl N c37_3 (e121 x0 x1 x2) K = (g37_3 x0 x1 x2 (fun y0 => K .normal [(2, .v U2 y0)])) := by
  kernel_rfl
theorem kp37_0 (x0) : keep [2] [(2, .v U2 x0)] = [(2, .v U2 x0)] := by kernel_rfl
def g37_4 (S64 : V19 → Option (Bool)) (x0 : V20) (x1 : Int) (x2 : Bool) (k0 : Bool → Option R) : Option R :=
brB (decide (x1 > (1 : Int))) (let v347 : Int := (IntKind.i64.wrap (x1 - (2 : Int)))
if 0 ≤ v347 ∧ v347 < (x0.length : Int) then
(S64 (x0.getD v347.toNat ((0 : Int), ((0 : Int), ([], ()))))).bind fun r348 =>
brB r348 (let v349 : Int := (IntKind.i64.wrap (x1 - (1 : Int)))
if 0 ≤ v349 ∧ v349 < (x0.length : Int) then
brB ((x0.getD v349.toNat ((0 : Int), ((0 : Int), ([], ())))).1 == (5 : Int)) (let v351 : Int := (IntKind.i64.wrap (x1 - (1 : Int)))
if 0 ≤ v351 ∧ v351 < (x0.length : Int) then
k0 ((x0.getD v351.toNat ((0 : Int), ((0 : Int), ([], ())))).2.2.1 == ([109] : List UInt8))
else none) (k0 false)
else none) (k0 false)
else none) (k0 false)
theorem t37_4 (S64) (h64 : (ctr64 S64).holds cl) (x0 x1 x2) : exec cl N c37_4 (e121 x0 x1 x2) K = (g37_4 S64 x0 x1 x2 (fun y0 => K .normal [(17, .v .bool y0)])) := by
  rw [← put_eq h64]
  kernel_rfl
def g37_5 (x0 : Bool) (k0 : Int → Option R) : Option R :=
k0 (2 : Int)
theorem t37_5 (x0) : exec cl N c37_5 [(17, .v .bool x0)] K = (g37_5 x0 (fun y0 => K .normal [(2, .v U2 y0)])) := by
  kernel_rfl
theorem kp37_1 (x0) : keep [2] [(17, .v .bool x0)] = [(2, .dead)] := by kernel_rfl
theorem hb37_0 (x0) : boolOf? (ent [(17, .v .bool x0)] (.t 17)) = some x0 := by kernel_rfl
theorem kp37_2 : keep [2] [(2, .dead)] = [(2, .dead)] := by kernel_rfl
theorem hb37_1 (x0 x1 x2) : boolOf? (ent (e121 x0 x1 x2) (.t 6)) = some x2 := by kernel_rfl
def g37_9 (k0 : Int → Option R) : Option R :=
k0 (0 : Int)
theorem t37_9 : exec cl N c37_9 [(2, .dead)] K = (g37_9 (fun y0 => K .normal [(2, .v U2 y0)])) := by
  kernel_rfl
def g37_10 (S64 : V19 → Option (Bool)) (x0 : V20) (k0 : Int → Option R) : Option R :=
(g37_0 x0 (fun y0 => (g37_1 y0 (fun y0 y1 => (g37_2 S64 y0 y1 (fun y0 y1 y2 => brB y2 (g37_3 y0 y1 y2 (fun y0 => ((fun y0 => (k0 y0)) y0))) (g37_4 S64 y0 y1 y2 (fun y0 => brB y0 (g37_5 y0 (fun y0 => ((fun y0 => (k0 y0)) y0))) (g37_9 (fun y0 => (k0 y0)))))))))))
theorem t37_10 (S64) (h64 : (ctr64 S64).holds cl) (x0) : exec cl N c37_10 [(0, .v U21 x0)] K = (g37_10 S64 x0 (fun y0 => K .ret [(2, .v U2 y0)])) := by
  simp only [c37_10, exec_seq, seqK_normal, seqK_exit, seqK_ret, t37_0, t37_1, c37_8, exec_out, exec_block, t37_2 S64 h64, c37_7, exec_cond', hb37_1, Option.bind_some, brB_true, brB_false, t37_3, exec_ret, t37_4 S64 h64, c37_6, hb37_0, t37_5, exec_skip, kp37_0, kp37_1, kp37_2, blockK_normal, blockK_ret, blockK_eq, t37_9]
  rfl
theorem rk37_0 (y0) : retK d37 .ret [(2, .v U2 y0)] = some [.v U2 y0] := by kernel_rfl
def g37 (S64 : V19 → Option (Bool)) (x0 : V20) (k : Int → Option R) : Option R :=
(g37_10 S64 x0 (fun y0 => k y0))
theorem gen37 {N : Nat} {cl : Cal} (S64 : V19 → Option (Bool)) (h64 : (ctr64 S64).holds cl) (x0 : V20) {R : Type} (k : List E → Option R) : exec cl N c37 (params 0 [.v U21 x0]) (fun e env => (retK d37 e env).bind k) = g37 S64 x0 (fun (r0 : Int) => k [.v U2 r0]) := by
  have e0 : params 0 [.v U21 x0] = [(0, .v U21 x0)] := by kernel_rfl
  simp only [c37, e0, t37_10 S64 h64, rk37_0, Option.bind_some]
  rfl
def ctr37 (S : V20 → Option (Int)) : Ctr := { A := V20 × Unit, B := Int, f := 37, enc := fun a => [.v U21 a.1], dec := (decC (decV U21) dec0), S := fun a => S a.1, ent := fun b => [.v U2 b], ok := (decV_cons (T := U21) (fun es b h => dec0_some h)) }
def S37 (N : Nat) (x0 : V20) : Option (Int) := g37 (S64 N) x0 (fun (r0 : Int) => some (r0))
def g81_0 (x0 : V19) (k0 : V19 → Option R) : Option R :=
k0 x0
theorem t81_0 (x0) : exec cl N c81_0 [(0, .v U17 x0)] K = (g81_0 x0 (fun y0 => K .normal [(1, .loc U17 .no y0)])) := by
  kernel_rfl
def g81_1 (x0 : V19) (k0 : Bool → Option R) : Option R :=
k0 (x0.1 != (9 : Int))
theorem t81_1 (x0) : exec cl N c81_1 [(1, .loc U17 .no x0)] K = (g81_1 x0 (fun y0 => K .normal [(2, .v .bool y0)])) := by
  kernel_rfl
def g81_2 (x0 : V19) (k0 : Bool → Option R) : Option R :=
(g81_0 x0 (fun y0 => (g81_1 y0 (fun y0 => (k0 y0)))))
theorem t81_2 (x0) : exec cl N c81_2 [(0, .v U17 x0)] K = (g81_2 x0 (fun y0 => K .ret [(2, .v .bool y0)])) := by
  simp only [c81_2, exec_seq, seqK_normal, seqK_exit, seqK_ret, t81_0, t81_1, exec_ret]
  rfl
theorem rk81_0 (y0) : retK d81 .ret [(2, .v .bool y0)] = some [.v .bool y0] := by kernel_rfl
def g81 (x0 : V19) (k : Bool → Option R) : Option R :=
(g81_2 x0 (fun y0 => k y0))
theorem gen81 {N : Nat} {cl : Cal} (x0 : V19) {R : Type} (k : List E → Option R) : exec cl N c81 (params 0 [.v U17 x0]) (fun e env => (retK d81 e env).bind k) = g81 x0 (fun (r0 : Bool) => k [.v .bool r0]) := by
  have e0 : params 0 [.v U17 x0] = [(0, .v U17 x0)] := by kernel_rfl
  simp only [c81, e0, t81_2, rk81_0, Option.bind_some]
  rfl
def ctr81 (S : V19 → Option (Bool)) : Ctr := { A := V19 × Unit, B := Bool, f := 81, enc := fun a => [.v U17 a.1], dec := (decC (decV U17) dec0), S := fun a => S a.1, ent := fun b => [.v .bool b], ok := (decV_cons (T := U17) (fun es b h => dec0_some h)) }
def S81 (N : Nat) (x0 : V19) : Option (Bool) := g81 x0 (fun (r0 : Bool) => some (r0))
def g80_0 (x0 : V20) (x1 : V26) (k0 : V20 → V26 → Option R) : Option R :=
k0 x0 x1
theorem t80_0 (x0 x1) : exec cl N c80_0 (e122 x0 x1) K = (g80_0 x0 x1 (fun y0 y1 => K .normal (e122 y0 y1))) := by
  kernel_rfl
def g80_1 (x0 : V20) (x1 : V26) (k0 : V20 → V26 → Int → Int → Option R) : Option R :=
k0 x0 x1 (x0.length : Int) (0 : Int)
theorem t80_1 (x0 x1) : exec cl N c80_1 (e122 x0 x1) K = (g80_1 x0 x1 (fun y0 y1 y2 y3 => K .normal (e123 y0 y1 y2 y3))) := by
  kernel_rfl
theorem kp80_0 (x0 x1 x2 x3) : keep [0, 1, 7, 8] (e123 x0 x1 x2 x3) = (e123 x0 x1 x2 x3) := by kernel_rfl
def g80_2 (x0 : V20) (x1 : V26) (x2 x3 : Int) (k0 : V20 → V26 → Int → Int → Bool → Option R) : Option R :=
k0 x0 x1 x2 x3 (decide (x3 < x2))
theorem t80_2 (x0 x1 x2 x3) : exec cl N c80_2 (e123 x0 x1 x2 x3) K = (g80_2 x0 x1 x2 x3 (fun y0 y1 y2 y3 y4 => K .normal (e124 y0 y1 y2 y3 y4))) := by
  kernel_rfl
theorem kp80_1 (x0 x1 x2 x3 x4) : keep [0, 1, 7, 8] (e124 x0 x1 x2 x3 x4) = (e123 x0 x1 x2 x3) := by kernel_rfl
theorem hb80_0 (x0 x1 x2 x3 x4) : boolOf? (ent (e124 x0 x1 x2 x3 x4) (.t 9)) = some x4 := by kernel_rfl
def g80_4 (x0 : V20) (x1 : V26) (x2 x3 : Int) (k0 : V20 → V26 → Int → Int → Int → Option R) : Option R :=
k0 x0 x1 x3 x2 x3
theorem t80_4 (x0 x1 x2 x3) : exec cl N c80_4 (e123 x0 x1 x2 x3) K = (g80_4 x0 x1 x2 x3 (fun y0 y1 y2 y3 y4 => K .normal [(0, .v U21 y0), (1, .v U26 y1), (5, .v U2 y2), (7, .v U2 y3), (8, .v U2 y4)])) := by
  kernel_rfl
def g80_5 (x0 : V20) (x1 : V26) (x2 x3 x4 : Int) (k0 : V20 → V26 → Int → Int → Int → Bool → Option R) : Option R :=
if 0 ≤ x2 ∧ x2 < (x0.length : Int) then
(x1 ((x0.getD x2.toNat ((0 : Int), ((0 : Int), ([], ())))), ())).bind fun r363 =>
k0 x0 x1 x2 x3 x4 r363
else none
theorem t80_5 (x0 x1 x2 x3 x4) : exec cl N c80_5 [(0, .v U21 x0), (1, .v U26 x1), (5, .v U2 x2), (7, .v U2 x3), (8, .v U2 x4)] K = (g80_5 x0 x1 x2 x3 x4 (fun y0 y1 y2 y3 y4 y5 => K .normal (e125 y0 y1 y2 y3 y4 y5))) := by
  kernel_rfl
def g80_6 (x0 : V20) (x1 : V26) (x2 x3 x4 : Int) (x5 : Bool) (k0 : Int → Option R) : Option R :=
k0 x2
theorem t80_6 (x0 x1 x2 x3 x4 x5) : exec cl N c80_6 (e125 x0 x1 x2 x3 x4 x5) K = (g80_6 x0 x1 x2 x3 x4 x5 (fun y0 => K .normal [(4, .v U2 y0)])) := by
  kernel_rfl
theorem kp80_2 (x0) : keep [0, 1, 4, 7, 8] [(4, .v U2 x0)] = (e30 x0) := by kernel_rfl
theorem kp80_3 (x0 x1 x2 x3 x4 x5) : keep [0, 1, 4, 7, 8] (e125 x0 x1 x2 x3 x4 x5) = (e126 x0 x1 x3 x4) := by kernel_rfl
theorem hb80_1 (x0 x1 x2 x3 x4 x5) : boolOf? (ent (e125 x0 x1 x2 x3 x4 x5) (.t 16)) = some x5 := by kernel_rfl
theorem kp80_4 (x0) : keep [0, 1, 4, 7, 8] (e30 x0) = (e30 x0) := by kernel_rfl
theorem kp80_5 (x0 x1 x2 x3) : keep [0, 1, 4, 7, 8] (e126 x0 x1 x2 x3) = (e126 x0 x1 x2 x3) := by kernel_rfl
def g80_9 (x0 : V20) (x1 : V26) (x2 x3 : Int) (k0 : V20 → V26 → Int → Int → Option R) : Option R :=
k0 x0 x1 x2 (IntKind.i64.wrap (x3 + (1 : Int)))
theorem t80_9 (x0 x1 x2 x3) : exec cl N c80_9 (e126 x0 x1 x2 x3) K = (g80_9 x0 x1 x2 x3 (fun y0 y1 y2 y3 => K .normal (e123 y0 y1 y2 y3))) := by
  kernel_rfl
def g80_10 (x0 : V20) (x1 : V26) (x2 x3 : Int) (k0 : Int → Option R) (k1 : V20 → V26 → Int → Int → Option R) (k2 : V20 → V26 → Int → Int → Option R) : Option R :=
(g80_2 x0 x1 x2 x3 (fun y0 y1 y2 y3 y4 => brB y4 ((fun y0 y1 y2 y3 => (g80_4 y0 y1 y2 y3 (fun y0 y1 y2 y3 y4 => (g80_5 y0 y1 y2 y3 y4 (fun y0 y1 y2 y3 y4 y5 => brB y5 (g80_6 y0 y1 y2 y3 y4 y5 (fun y0 => ((fun y0 => (k0 y0)) y0))) (g80_9 y0 y1 y3 y4 k1)))))) y0 y1 y2 y3) (k2 y0 y1 y2 y3)))
theorem t80_10 (x0 x1 x2 x3) : exec cl N c80_10 (e123 x0 x1 x2 x3) K = (g80_10 x0 x1 x2 x3 (fun y0 => K .ret (e30 y0)) (fun y0 y1 y2 y3 => K .normal (e123 y0 y1 y2 y3)) (fun y0 y1 y2 y3 => K (.exit 0) (e123 y0 y1 y2 y3))) := by
  simp only [c80_10, exec_seq, seqK_normal, seqK_exit, seqK_ret, t80_2, c80_3, exec_out, exec_cond', hb80_0, Option.bind_some, brB_true, brB_false, exec_skip, exec_exit, kp80_1, c80_8, exec_block, t80_4, t80_5, c80_7, hb80_1, t80_6, exec_ret, kp80_2, kp80_3, blockK_normal, blockK_ret, blockK_eq, kp80_4, kp80_5, t80_9]
  rfl
def l80_11 {R : Type} (k0 : Int → Option R) (k1 : V20 → V26 → Int → Int → Option R) : Nat → V20 → V26 → Int → Int → Option R
  | 0, _, _, _, _ => none
  | m + 1, x0, x1, x2, x3 => (g80_10 x0 x1 x2 x3 k0 (fun y0 y1 y2 y3 => l80_11 k0 k1 m y0 y1 y2 y3) k1)
theorem lt80_11 : ∀ (m) (x0 x1 x2 x3), iter [0, 1, 7, 8] (fun env K => exec cl N c80_10 env K) K m (e123 x0 x1 x2 x3) = l80_11 (fun y0 => K .ret (e30 y0)) (fun y0 y1 y2 y3 => K (.exit 0) (e123 y0 y1 y2 y3)) m x0 x1 x2 x3 := by
  intro m
  induction m with
  | zero => intros; rfl
  | succ m ih =>
    intro x0 x1 x2 x3
    simp only [iter_succ, t80_10, loopK_normal, loopK_exit, loopK_ret, kp80_0, ih]
    rfl
theorem kp80_6 (x0) : keep [4] (e30 x0) = [(4, .v U2 x0)] := by kernel_rfl
theorem kp80_7 (x0 x1 x2 x3) : keep [4] (e123 x0 x1 x2 x3) = [(4, .dead)] := by kernel_rfl
def g80_11 (N : Nat) (x0 : V20) (x1 : V26) (x2 x3 : Int) (k0 : Int → Option R) (k1 : Option R) : Option R :=
l80_11 (fun y0 => k0 y0) (fun y0 y1 y2 y3 => k1) N x0 x1 x2 x3
theorem t80_11 (x0 x1 x2 x3) : exec cl N c80_11 (e123 x0 x1 x2 x3) K = (g80_11 N x0 x1 x2 x3 (fun y0 => K .ret [(4, .v U2 y0)]) (K (.exit 0) [(4, .dead)])) := by
  simp only [c80_11, exec_out, exec_loop, kp80_0, lt80_11, kp80_6, kp80_7]
  rfl
theorem kp80_8 (x0) : keep [4] [(4, .v U2 x0)] = [(4, .v U2 x0)] := by kernel_rfl
theorem kp80_9 : keep [4] [(4, .dead)] = [(4, .dead)] := by kernel_rfl
def g80_13 (k0 : Int → Option R) : Option R :=
k0 (-1 : Int)
theorem t80_13 : exec cl N c80_13 [(4, .dead)] K = (g80_13 (fun y0 => K .normal [(4, .v U2 y0)])) := by
  kernel_rfl
def g80_14 (N : Nat) (x0 : V20) (x1 : V26) (k0 : Int → Option R) : Option R :=
(g80_0 x0 x1 (fun y0 y1 => (g80_1 y0 y1 (fun y0 y1 y2 y3 => (g80_11 N y0 y1 y2 y3 (fun y0 => (k0 y0)) (g80_13 (fun y0 => (k0 y0))))))))
theorem t80_14 (x0 x1) : exec cl N c80_14 (e122 x0 x1) K = (g80_14 N x0 x1 (fun y0 => K .ret [(4, .v U2 y0)])) := by
  simp only [c80_14, exec_seq, seqK_normal, seqK_exit, seqK_ret, t80_0, t80_1, c80_12, exec_out, exec_block, t80_11, blockK_normal, blockK_ret, blockK_eq, kp80_8, kp80_9, t80_13, exec_ret]
  rfl
theorem rk80_0 (y0) : retK d80 .ret [(4, .v U2 y0)] = some [.v U2 y0] := by kernel_rfl
def g80 (N : Nat) (x0 : V20) (x1 : V26) (k : Int → Option R) : Option R :=
(g80_14 N x0 x1 (fun y0 => k y0))
theorem gen80 {N : Nat} {cl : Cal} (x0 : V20) (x1 : V26) {R : Type} (k : List E → Option R) : exec cl N c80 (params 0 [.v U21 x0, .v U26 x1]) (fun e env => (retK d80 e env).bind k) = g80 N x0 x1 (fun (r0 : Int) => k [.v U2 r0]) := by
  have e0 : params 0 [.v U21 x0, .v U26 x1] = (e122 x0 x1) := by kernel_rfl
  simp only [c80, e0, t80_14, rk80_0, Option.bind_some]
  rfl
def ctr80 (S : V20 → V26 → Option (Int)) : Ctr := { A := V20 × V26 × Unit, B := Int, f := 80, enc := fun a => [.v U21 a.1, .v U26 a.2.1], dec := (decC (decV U21) (decC (decV U26) dec0)), S := fun a => S a.1 a.2.1, ent := fun b => [.v U2 b], ok := (decV_cons (T := U21) (decV_cons (T := U26) (fun es b h => dec0_some h))) }
def S80 (N : Nat) (x0 : V20) (x1 : V26) : Option (Int) := g80 N x0 x1 (fun (r0 : Int) => some (r0))
def g53_0 (x0 : V20) (k0 : V20 → Option R) : Option R :=
k0 x0
theorem t53_0 (x0) : exec cl N c53_0 [(0, .v U21 x0)] K = (g53_0 x0 (fun y0 => K .normal [(0, .v U21 y0)])) := by
  kernel_rfl
def g53_1 (S80 : V20 → V26 → Option (Int)) (S81 : V19 → Option (Bool)) (x0 : V20) (k0 : V20 → Int → Option R) : Option R :=
(S80 x0 (fun (x367 : (V19 × Unit)) => ((S81 x367.1).bind fun b368 => some [.v .bool b368]).bind (unE .bool))).bind fun r369 =>
k0 x0 r369
theorem t53_1 (S80) (S81) (h80 : (ctr80 S80).holds cl) (h81 : (ctr81 S81).holds cl) (x0) : exec cl N c53_1 [(0, .v U21 x0)] K = (g53_1 S80 S81 x0 (fun y0 y1 => K .normal (e120 y0 y1))) := by
  rw [← put_eq h80]
  rw [← put_eq h81]
  kernel_rfl
def g53_2 (x0 : V20) (x1 : Int) (k0 : V20 → Int → Bool → Option R) : Option R :=
k0 x0 x1 (decide (x1 < (0 : Int)))
theorem t53_2 (x0 x1) : exec cl N c53_2 (e120 x0 x1) K = (g53_2 x0 x1 (fun y0 y1 y2 => K .normal (e127 y0 y1 y2))) := by
  kernel_rfl
def g53_3 (x0 : V20) (x1 : Int) (x2 : Bool) (k0 : Int → Option R) : Option R :=
k0 (x0.length : Int)
theorem t53_3 (x0 x1 x2) : exec cl N c53_3 (e127 x0 x1 x2) K = (g53_3 x0 x1 x2 (fun y0 => K .normal [(2, .v U2 y0)])) := by
  kernel_rfl
theorem kp53_0 (x0) : keep [2, 3] [(2, .v U2 x0)] = (e23 x0) := by kernel_rfl
theorem kp53_1 (x0 x1 x2) : keep [2, 3] (e127 x0 x1 x2) = (e24 x1) := by kernel_rfl
theorem hb53_0 (x0 x1 x2) : boolOf? (ent (e127 x0 x1 x2) (.t 7)) = some x2 := by kernel_rfl
def g53_5 (x0 : Int) (k0 : Int → Option R) : Option R :=
k0 x0
theorem t53_5 (x0) : exec cl N c53_5 (e24 x0) K = (g53_5 x0 (fun y0 => K .normal [(2, .v U2 y0)])) := by
  kernel_rfl
def g53_6 (S80 : V20 → V26 → Option (Int)) (S81 : V19 → Option (Bool)) (x0 : V20) (k0 : Int → Option R) (k1 : Int → Option R) : Option R :=
(g53_0 x0 (fun y0 => (g53_1 S80 S81 y0 (fun y0 y1 => (g53_2 y0 y1 (fun y0 y1 y2 => brB y2 (g53_3 y0 y1 y2 (fun y0 => ((fun y0 => (k0 y0)) y0))) ((fun y0 => (g53_5 y0 (fun y0 => (k1 y0)))) y1)))))))
theorem t53_6 (S80) (S81) (h80 : (ctr80 S80).holds cl) (h81 : (ctr81 S81).holds cl) (x0) : exec cl N c53_6 [(0, .v U21 x0)] K = (g53_6 S80 S81 x0 (fun y0 => K .ret (e23 y0)) (fun y0 => K .ret [(2, .v U2 y0)])) := by
  simp only [c53_6, exec_seq, seqK_normal, seqK_exit, seqK_ret, t53_0, t53_1 S80 S81 h80 h81, t53_2, c53_4, exec_out, exec_cond', hb53_0, Option.bind_some, brB_true, brB_false, t53_3, exec_ret, exec_skip, kp53_0, kp53_1, t53_5]
  rfl
theorem rk53_0 (y0) : retK d53 .ret (e23 y0) = some [.v U2 y0] := by kernel_rfl
theorem rk53_1 (y0) : retK d53 .ret [(2, .v U2 y0)] = some [.v U2 y0] := by kernel_rfl
def g53 (S80 : V20 → V26 → Option (Int)) (S81 : V19 → Option (Bool)) (x0 : V20) (k : Int → Option R) : Option R :=
(g53_6 S80 S81 x0 (fun y0 => k y0) (fun y0 => k y0))
theorem gen53 {N : Nat} {cl : Cal} (S80 : V20 → V26 → Option (Int)) (S81 : V19 → Option (Bool)) (h80 : (ctr80 S80).holds cl) (h81 : (ctr81 S81).holds cl) (x0 : V20) {R : Type} (k : List E → Option R) : exec cl N c53 (params 0 [.v U21 x0]) (fun e env => (retK d53 e env).bind k) = g53 S80 S81 x0 (fun (r0 : Int) => k [.v U2 r0]) := by
  have e0 : params 0 [.v U21 x0] = [(0, .v U21 x0)] := by kernel_rfl
  simp only [c53, e0, t53_6 S80 S81 h80 h81, rk53_0, rk53_1, Option.bind_some]
  rfl
def ctr53 (S : V20 → Option (Int)) : Ctr := { A := V20 × Unit, B := Int, f := 53, enc := fun a => [.v U21 a.1], dec := (decC (decV U21) dec0), S := fun a => S a.1, ent := fun b => [.v U2 b], ok := (decV_cons (T := U21) (fun es b h => dec0_some h)) }
def S53 (N : Nat) (x0 : V20) : Option (Int) := g53 (S80 N) (S81 N) x0 (fun (r0 : Int) => some (r0))
def g61_0 (x0 : V20) (k0 : V20 → Option R) : Option R :=
k0 x0
theorem t61_0 (x0) : exec cl N c61_0 [(0, .v U21 x0)] K = (g61_0 x0 (fun y0 => K .normal [(0, .v U21 y0)])) := by
  kernel_rfl
def g61_1 (S53 : V20 → Option (Int)) (x0 : V20) (k0 : V20 → Int → Option R) : Option R :=
(S53 x0).bind fun r374 =>
k0 x0 r374
theorem t61_1 (S53) (h53 : (ctr53 S53).holds cl) (x0) : exec cl N c61_1 [(0, .v U21 x0)] K = (g61_1 S53 x0 (fun y0 y1 => K .normal (e120 y0 y1))) := by
  rw [← put_eq h53]
  kernel_rfl
def g61_2 (S64 : V19 → Option (Bool)) (x0 : V20) (x1 : Int) (k0 : Bool → Option R) : Option R :=
brB (decide (x1 < (x0.length : Int))) (if 0 ≤ x1 ∧ x1 < (x0.length : Int) then
(S64 (x0.getD x1.toNat ((0 : Int), ((0 : Int), ([], ()))))).bind fun r376 =>
k0 r376
else none) (k0 false)
theorem t61_2 (S64) (h64 : (ctr64 S64).holds cl) (x0 x1) : exec cl N c61_2 (e120 x0 x1) K = (g61_2 S64 x0 x1 (fun y0 => K .normal [(2, .v .bool y0)])) := by
  rw [← put_eq h64]
  kernel_rfl
def g61_3 (S53 : V20 → Option (Int)) (S64 : V19 → Option (Bool)) (x0 : V20) (k0 : Bool → Option R) : Option R :=
(g61_0 x0 (fun y0 => (g61_1 S53 y0 (fun y0 y1 => (g61_2 S64 y0 y1 (fun y0 => (k0 y0)))))))
theorem t61_3 (S53) (S64) (h53 : (ctr53 S53).holds cl) (h64 : (ctr64 S64).holds cl) (x0) : exec cl N c61_3 [(0, .v U21 x0)] K = (g61_3 S53 S64 x0 (fun y0 => K .ret [(2, .v .bool y0)])) := by
  simp only [c61_3, exec_seq, seqK_normal, seqK_exit, seqK_ret, t61_0, t61_1 S53 h53, t61_2 S64 h64, exec_ret]
  rfl
theorem rk61_0 (y0) : retK d61 .ret [(2, .v .bool y0)] = some [.v .bool y0] := by kernel_rfl
def g61 (S53 : V20 → Option (Int)) (S64 : V19 → Option (Bool)) (x0 : V20) (k : Bool → Option R) : Option R :=
(g61_3 S53 S64 x0 (fun y0 => k y0))
theorem gen61 {N : Nat} {cl : Cal} (S53 : V20 → Option (Int)) (S64 : V19 → Option (Bool)) (h53 : (ctr53 S53).holds cl) (h64 : (ctr64 S64).holds cl) (x0 : V20) {R : Type} (k : List E → Option R) : exec cl N c61 (params 0 [.v U21 x0]) (fun e env => (retK d61 e env).bind k) = g61 S53 S64 x0 (fun (r0 : Bool) => k [.v .bool r0]) := by
  have e0 : params 0 [.v U21 x0] = [(0, .v U21 x0)] := by kernel_rfl
  simp only [c61, e0, t61_3 S53 S64 h53 h64, rk61_0, Option.bind_some]
  rfl
def ctr61 (S : V20 → Option (Bool)) : Ctr := { A := V20 × Unit, B := Bool, f := 61, enc := fun a => [.v U21 a.1], dec := (decC (decV U21) dec0), S := fun a => S a.1, ent := fun b => [.v .bool b], ok := (decV_cons (T := U21) (fun es b h => dec0_some h)) }
def S61 (N : Nat) (x0 : V20) : Option (Bool) := g61 (S53 N) (S64 N) x0 (fun (r0 : Bool) => some (r0))
def g34_0 (x0 x1 : V20) (k0 : V20 → V20 → Option R) : Option R :=
k0 x0 x1
theorem t34_0 (x0 x1) : exec cl N c34_0 (e115 x0 x1) K = (g34_0 x0 x1 (fun y0 y1 => K .normal (e115 y0 y1))) := by
  kernel_rfl
def g34_1 (S37 : V20 → Option (Int)) (x0 x1 : V20) (k0 : V20 → V20 → Int → Option R) : Option R :=
(S37 x0).bind fun r381 =>
k0 x0 x1 r381
theorem t34_1 (S37) (h37 : (ctr37 S37).holds cl) (x0 x1) : exec cl N c34_1 (e115 x0 x1) K = (g34_1 S37 x0 x1 (fun y0 y1 y2 => K .normal (e128 y0 y1 y2))) := by
  rw [← put_eq h37]
  kernel_rfl
def g34_2 (S61 : V20 → Option (Bool)) (x0 x1 : V20) (x2 : Int) (k0 : V20 → Int → Bool → Option R) : Option R :=
brB (x2 == (0 : Int)) (k0 x0 x2 true) ((S61 x1).bind fun r383 =>
k0 x0 x2 (!r383))
theorem t34_2 (S61) (h61 : (ctr61 S61).holds cl) (x0 x1 x2) : exec cl N c34_2 (e128 x0 x1 x2) K = (g34_2 S61 x0 x1 x2 (fun y0 y1 y2 => K .normal (e129 y0 y1 y2))) := by
  rw [← put_eq h61]
  kernel_rfl
def g34_3 (x0 : V20) (x1 : Int) (x2 : Bool) (k0 : V0 → Option R) : Option R :=
k0 [(0 : Int)]
theorem t34_3 (x0 x1 x2) : exec cl N c34_3 (e129 x0 x1 x2) K = (g34_3 x0 x1 x2 (fun y0 => K .normal (e130 y0))) := by
  kernel_rfl
theorem kp34_0 (x0) : keep [4] (e130 x0) = (e130 x0) := by kernel_rfl
def g34_4 (x0 : V20) (x1 : Int) (x2 : Bool) (k0 : V20 → Bool → Option R) : Option R :=
k0 x0 (x1 == (2 : Int))
theorem t34_4 (x0 x1 x2) : exec cl N c34_4 (e129 x0 x1 x2) K = (g34_4 x0 x1 x2 (fun y0 y1 => K .normal (e131 y0 y1))) := by
  kernel_rfl
def g34_5 (x0 : V20) (x1 : Bool) (k0 : V0 → Option R) : Option R :=
k0 [(1 : Int), (3 : Int)]
theorem t34_5 (x0 x1) : exec cl N c34_5 (e131 x0 x1) K = (g34_5 x0 x1 (fun y0 => K .normal (e130 y0))) := by
  kernel_rfl
def g34_6 (x0 : V20) (x1 : Bool) (k0 : Bool → Option R) : Option R :=
let v385 : Int := (IntKind.i64.wrap ((x0.length : Int) - (1 : Int)))
if 0 ≤ v385 ∧ v385 < (x0.length : Int) then
k0 ((x0.getD v385.toNat ((0 : Int), ((0 : Int), ([], ())))).2.1 == (1 : Int))
else none
theorem t34_6 (x0 x1) : exec cl N c34_6 (e131 x0 x1) K = (g34_6 x0 x1 (fun y0 => K .normal [(21, .v .bool y0)])) := by
  kernel_rfl
def g34_7 (x0 : Bool) (k0 : V0 → Option R) : Option R :=
k0 [(1 : Int), (2 : Int), (3 : Int)]
theorem t34_7 (x0) : exec cl N c34_7 [(21, .v .bool x0)] K = (g34_7 x0 (fun y0 => K .normal (e130 y0))) := by
  kernel_rfl
theorem kp34_1 (x0) : keep [4] [(21, .v .bool x0)] = [(4, .dead)] := by kernel_rfl
theorem hb34_0 (x0) : boolOf? (ent [(21, .v .bool x0)] (.t 21)) = some x0 := by kernel_rfl
theorem kp34_2 : keep [4] [(4, .dead)] = [(4, .dead)] := by kernel_rfl
theorem hb34_1 (x0 x1) : boolOf? (ent (e131 x0 x1) (.t 17)) = some x1 := by kernel_rfl
theorem hb34_2 (x0 x1 x2) : boolOf? (ent (e129 x0 x1 x2) (.t 8)) = some x2 := by kernel_rfl
def g34_12 (k0 : V0 → Option R) : Option R :=
k0 [(1 : Int), (2 : Int), (3 : Int), (4 : Int)]
theorem t34_12 : exec cl N c34_12 [(4, .dead)] K = (g34_12 (fun y0 => K .normal (e130 y0))) := by
  kernel_rfl
def g34_13 (S37 : V20 → Option (Int)) (S61 : V20 → Option (Bool)) (x0 x1 : V20) (k0 : V0 → Option R) : Option R :=
(g34_0 x0 x1 (fun y0 y1 => (g34_1 S37 y0 y1 (fun y0 y1 y2 => (g34_2 S61 y0 y1 y2 (fun y0 y1 y2 => brB y2 (g34_3 y0 y1 y2 (fun y0 => ((fun y0 => (k0 y0)) y0))) (g34_4 y0 y1 y2 (fun y0 y1 => brB y1 (g34_5 y0 y1 (fun y0 => ((fun y0 => (k0 y0)) y0))) (g34_6 y0 y1 (fun y0 => brB y0 (g34_7 y0 (fun y0 => ((fun y0 => (k0 y0)) y0))) (g34_12 (fun y0 => (k0 y0)))))))))))))
theorem t34_13 (S37) (S61) (h37 : (ctr37 S37).holds cl) (h61 : (ctr61 S61).holds cl) (x0 x1) : exec cl N c34_13 (e115 x0 x1) K = (g34_13 S37 S61 x0 x1 (fun y0 => K .ret (e130 y0))) := by
  simp only [c34_13, exec_seq, seqK_normal, seqK_exit, seqK_ret, t34_0, t34_1 S37 h37, c34_11, exec_out, exec_block, t34_2 S61 h61, c34_10, exec_cond', hb34_2, Option.bind_some, brB_true, brB_false, t34_3, exec_ret, t34_4, c34_9, hb34_1, t34_5, t34_6, c34_8, hb34_0, t34_7, exec_skip, kp34_0, kp34_1, kp34_2, blockK_normal, blockK_ret, blockK_eq, t34_12]
  rfl
theorem rk34_0 (y0) : retK d34 .ret (e130 y0) = some [.own true 3 U2 .no y0] := by kernel_rfl
def g34 (S37 : V20 → Option (Int)) (S61 : V20 → Option (Bool)) (x0 x1 : V20) (k : V0 → Option R) : Option R :=
(g34_13 S37 S61 x0 x1 (fun y0 => k y0))
theorem gen34 {N : Nat} {cl : Cal} (S37 : V20 → Option (Int)) (S61 : V20 → Option (Bool)) (h37 : (ctr37 S37).holds cl) (h61 : (ctr61 S61).holds cl) (x0 : V20) (x1 : V20) {R : Type} (k : List E → Option R) : exec cl N c34 (params 0 [.v U21 x0, .v U21 x1]) (fun e env => (retK d34 e env).bind k) = g34 S37 S61 x0 x1 (fun (r0 : V0) => k [.own true 3 U2 .no r0]) := by
  have e0 : params 0 [.v U21 x0, .v U21 x1] = (e115 x0 x1) := by kernel_rfl
  simp only [c34, e0, t34_13 S37 S61 h37 h61, rk34_0, Option.bind_some]
  rfl
def ctr34 (S : V20 → V20 → Option V3) : Ctr := { A := V20 × V20 × Unit, B := V0, f := 34, enc := fun a => [.v U21 a.1, .v U21 a.2.1], dec := (decC (decV U21) (decC (decV U21) dec0)), S := fun a => S a.1 a.2.1, ent := fun b => [.own true 3 U2 .no b], ok := (decV_cons (T := U21) (decV_cons (T := U21) (fun es b h => dec0_some h))) }
def S34 (N : Nat) (x0 : V20) (x1 : V20) : Option V3 := g34 (S37 N) (S61 N) x0 x1 (fun (r0 : V0) => some (r0))
def g36_0 (x0 x1 : Int) (k0 : Int → Int → Option R) : Option R :=
k0 x0 x1
theorem t36_0 (x0 x1) : exec cl N c36_0 (e132 x0 x1) K = (g36_0 x0 x1 (fun y0 y1 => K .normal (e132 y0 y1))) := by
  kernel_rfl
def g36_1 (x0 x1 : Int) (k0 : Int → Int → Option R) : Option R :=
k0 x1 x0
theorem t36_1 (x0 x1) : exec cl N c36_1 (e132 x0 x1) K = (g36_1 x0 x1 (fun y0 y1 => K .normal [(1, .v U2 y0), (5, .v U2 y1)])) := by
  kernel_rfl
def g36_2 (x0 x1 : Int) (k0 : Int → Int → Bool → Option R) : Option R :=
k0 x0 x1 (x1 == (2 : Int))
theorem t36_2 (x0 x1) : exec cl N c36_2 [(1, .v U2 x0), (5, .v U2 x1)] K = (g36_2 x0 x1 (fun y0 y1 y2 => K .normal (e133 y0 y1 y2))) := by
  kernel_rfl
def g36_3 (x0 x1 : Int) (x2 : Bool) (k0 : Int → Option R) : Option R :=
k0 (10 : Int)
theorem t36_3 (x0 x1 x2) : exec cl N c36_3 (e133 x0 x1 x2) K = (g36_3 x0 x1 x2 (fun y0 => K .normal [(4, .v U2 y0)])) := by
  kernel_rfl
theorem kp36_0 (x0) : keep [1, 4] [(4, .v U2 x0)] = (e118 x0) := by kernel_rfl
def g36_4 (x0 x1 : Int) (x2 : Bool) (k0 : Int → Int → Bool → Option R) : Option R :=
k0 x0 x1 (x1 == (3 : Int))
theorem t36_4 (x0 x1 x2) : exec cl N c36_4 (e133 x0 x1 x2) K = (g36_4 x0 x1 x2 (fun y0 y1 y2 => K .normal (e134 y0 y1 y2))) := by
  kernel_rfl
def g36_5 (x0 x1 : Int) (x2 : Bool) (k0 : Int → Option R) : Option R :=
k0 (11 : Int)
theorem t36_5 (x0 x1 x2) : exec cl N c36_5 (e134 x0 x1 x2) K = (g36_5 x0 x1 x2 (fun y0 => K .normal [(4, .v U2 y0)])) := by
  kernel_rfl
def g36_6 (x0 x1 : Int) (x2 : Bool) (k0 : Int → Bool → Option R) : Option R :=
k0 x0 (x1 == (4 : Int))
theorem t36_6 (x0 x1 x2) : exec cl N c36_6 (e134 x0 x1 x2) K = (g36_6 x0 x1 x2 (fun y0 y1 => K .normal (e135 y0 y1))) := by
  kernel_rfl
def g36_7 (x0 : Int) (x1 : Bool) (k0 : Int → Option R) : Option R :=
k0 (12 : Int)
theorem t36_7 (x0 x1) : exec cl N c36_7 (e135 x0 x1) K = (g36_7 x0 x1 (fun y0 => K .normal [(4, .v U2 y0)])) := by
  kernel_rfl
theorem kp36_1 (x0 x1) : keep [1, 4] (e135 x0 x1) = (e136 x0) := by kernel_rfl
theorem hb36_0 (x0 x1) : boolOf? (ent (e135 x0 x1) (.t 10)) = some x1 := by kernel_rfl
theorem kp36_2 (x0) : keep [1, 4] (e118 x0) = (e118 x0) := by kernel_rfl
theorem kp36_3 (x0) : keep [1, 4] (e136 x0) = (e136 x0) := by kernel_rfl
theorem hb36_1 (x0 x1 x2) : boolOf? (ent (e134 x0 x1 x2) (.t 8)) = some x2 := by kernel_rfl
theorem hb36_2 (x0 x1 x2) : boolOf? (ent (e133 x0 x1 x2) (.t 6)) = some x2 := by kernel_rfl
def g36_12 (x0 : Int) (k0 : Bool → Option R) : Option R :=
k0 (x0 == (2 : Int))
theorem t36_12 (x0) : exec cl N c36_12 (e136 x0) K = (g36_12 x0 (fun y0 => K .normal [(13, .v .bool y0)])) := by
  kernel_rfl
def g36_13 (x0 : Bool) (k0 : Int → Option R) : Option R :=
k0 (9 : Int)
theorem t36_13 (x0) : exec cl N c36_13 [(13, .v .bool x0)] K = (g36_13 x0 (fun y0 => K .normal [(4, .v U2 y0)])) := by
  kernel_rfl
theorem kp36_4 (x0) : keep [4] [(4, .v U2 x0)] = [(4, .v U2 x0)] := by kernel_rfl
theorem kp36_5 (x0) : keep [4] [(13, .v .bool x0)] = [(4, .dead)] := by kernel_rfl
theorem hb36_3 (x0) : boolOf? (ent [(13, .v .bool x0)] (.t 13)) = some x0 := by kernel_rfl
def g36_15 (k0 : Int → Option R) : Option R :=
k0 (8 : Int)
theorem t36_15 : exec cl N c36_15 [(4, .dead)] K = (g36_15 (fun y0 => K .normal [(4, .v U2 y0)])) := by
  kernel_rfl
def g36_16 (x0 x1 : Int) (k0 : Int → Option R) (k1 : Int → Option R) : Option R :=
(g36_0 x0 x1 (fun y0 y1 => (g36_1 y0 y1 (fun y0 y1 => (g36_2 y0 y1 (fun y0 y1 y2 => brB y2 (g36_3 y0 y1 y2 (fun y0 => ((fun y0 => (k0 y0)) y0))) (g36_4 y0 y1 y2 (fun y0 y1 y2 => brB y2 (g36_5 y0 y1 y2 (fun y0 => ((fun y0 => (k0 y0)) y0))) (g36_6 y0 y1 y2 (fun y0 y1 => brB y1 (g36_7 y0 y1 (fun y0 => ((fun y0 => (k0 y0)) y0))) ((fun y0 => ((fun y0 => ((fun y0 => ((fun y0 => (g36_12 y0 (fun y0 => brB y0 (g36_13 y0 (fun y0 => ((fun y0 => (k1 y0)) y0))) (g36_15 (fun y0 => (k1 y0)))))) y0)) y0)) y0)) y0)))))))))))
theorem t36_16 (x0 x1) : exec cl N c36_16 (e132 x0 x1) K = (g36_16 x0 x1 (fun y0 => K .ret (e118 y0)) (fun y0 => K .ret [(4, .v U2 y0)])) := by
  simp only [c36_16, exec_seq, seqK_normal, seqK_exit, seqK_ret, t36_0, t36_1, c36_11, exec_out, exec_block, t36_2, c36_10, exec_cond', hb36_2, Option.bind_some, brB_true, brB_false, t36_3, exec_ret, t36_4, c36_9, hb36_1, t36_5, t36_6, c36_8, hb36_0, t36_7, exec_skip, kp36_0, kp36_1, kp36_2, kp36_3, blockK_normal, blockK_ret, blockK_eq, t36_12, c36_14, hb36_3, t36_13, kp36_4, kp36_5, t36_15]
  rfl
theorem rk36_0 (y0) : retK d36 .ret (e118 y0) = some [.v U2 y0] := by kernel_rfl
theorem rk36_1 (y0) : retK d36 .ret [(4, .v U2 y0)] = some [.v U2 y0] := by kernel_rfl
def g36 (x0 x1 : Int) (k : Int → Option R) : Option R :=
(g36_16 x0 x1 (fun y0 => k y0) (fun y0 => k y0))
theorem gen36 {N : Nat} {cl : Cal} (x0 : Int) (x1 : Int) {R : Type} (k : List E → Option R) : exec cl N c36 (params 0 [.v U2 x0, .v U2 x1]) (fun e env => (retK d36 e env).bind k) = g36 x0 x1 (fun (r0 : Int) => k [.v U2 r0]) := by
  have e0 : params 0 [.v U2 x0, .v U2 x1] = (e132 x0 x1) := by kernel_rfl
  simp only [c36, e0, t36_16, rk36_0, rk36_1, Option.bind_some]
  rfl
def ctr36 (S : Int → Int → Option (Int)) : Ctr := { A := Int × Int × Unit, B := Int, f := 36, enc := fun a => [.v U2 a.1, .v U2 a.2.1], dec := (decC (decV U2) (decC (decV U2) dec0)), S := fun a => S a.1 a.2.1, ent := fun b => [.v U2 b], ok := (decV_cons (T := U2) (decV_cons (T := U2) (fun es b h => dec0_some h))) }
def S36 (N : Nat) (x0 : Int) (x1 : Int) : Option (Int) := g36 x0 x1 (fun (r0 : Int) => some (r0))
end Go.Fw.L19
