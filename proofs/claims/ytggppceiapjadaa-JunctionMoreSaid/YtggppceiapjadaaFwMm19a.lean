/- Printed by an own program for this claim: the machine's code of functions, or their typed forms with their equations; no conditions. -/
import Derived.Test.YtggppceiapjadaaFwYm19
import Derived.Test.YtggppceiapjadaaFwB1
set_option linter.unusedVariables false
set_option linter.unusedSimpArgs false
namespace Go.Fw.L19
open Go Go.Fw
set_option maxRecDepth 100000
set_option linter.unusedVariables false
set_option linter.unusedSimpArgs false
abbrev e0 := fun x0 x1 => ([(0, .v U0 x0), (1, .v U2 x1)] : Env)
abbrev e1 := fun x0 x1 x2 x3 => ([(0, .v U0 x0), (1, .v U2 x1), (5, .v U2 x2), (6, .v U2 x3)] : Env)
abbrev e2 := fun x0 x1 x2 x3 x4 => ([(0, .v U0 x0), (1, .v U2 x1), (5, .v U2 x2), (6, .v U2 x3), (15, .v .bool x4)] : Env)
abbrev e3 := fun x0 x1 => ([(1, .loc U28 .no x0), (3, .v U2 x1)] : Env)
abbrev e4 := fun x0 x1 x2 => ([(1, .loc U28 .no x0), (3, .v U2 x1), (4, .v U2 x2)] : Env)
abbrev e5 := fun x0 x1 x2 x3 => ([(1, .loc U28 .no x0), (3, .v U2 x1), (4, .v U2 x2), (16, .v .bool x3)] : Env)
abbrev e6 := fun x0 x1 x2 => ([(0, .v U4 x0), (3, .own true 55 U18 .no x1), (4, .v U2 x2)] : Env)
abbrev e7 := fun x0 x1 x2 x3 => ([(0, .v U4 x0), (3, .own true 55 U18 .no x1), (4, .v U2 x2), (8, .v .bool x3)] : Env)
abbrev e8 := fun x0 => ([(3, .own true 55 U18 .no x0)] : Env)
abbrev e9 := fun x0 => ([(2, .ref 3 []), (3, .own true 55 U18 .no x0)] : Env)
abbrev e10 := fun x0 x1 => ([(0, .v .str x0), (11, .v .bool x1)] : Env)
abbrev e11 := fun x0 => ([(0, .dead), (2, .v U2 x0)] : Env)
abbrev e12 := fun x0 => ([(0, .v .str x0), (2, .dead)] : Env)
abbrev e13 := fun x0 x1 => ([(0, .v .str x0), (3, .v U2 x1)] : Env)
abbrev e14 := fun x0 x1 x2 => ([(0, .v .str x0), (3, .v U2 x1), (15, .v .bool x2)] : Env)
abbrev e15 := fun x0 x1 x2 => ([(0, .v .str x0), (3, .v U2 x1), (25, .v .bool x2)] : Env)
abbrev e16 := fun x0 x1 x2 => ([(0, .v .str x0), (3, .v U2 x1), (54, .v .bool x2)] : Env)
abbrev e17 := fun x0 x1 x2 => ([(0, .v .str x0), (3, .own true 5 U1 .no x1), (4, .v U2 x2)] : Env)
abbrev e18 := fun x0 x1 x2 x3 => ([(0, .v .str x0), (3, .own true 5 U1 .no x1), (4, .v U2 x2), (11, .v .bool x3)] : Env)
abbrev e19 := fun x0 x1 x2 x3 => ([(0, .v .str x0), (3, .own true 5 U1 .no x1), (4, .v U2 x2), (29, .v .bool x3)] : Env)
abbrev e20 := fun x0 => ([(3, .own true 5 U1 .no x0)] : Env)
abbrev e21 := fun x0 x1 => ([(0, .v U1 x0), (9, .v .bool x1)] : Env)
abbrev e22 := fun x0 x1 => ([(0, .v U1 x0), (3, .v U2 x1)] : Env)
abbrev e23 := fun x0 x1 x2 => ([(0, .v U1 x0), (3, .v U2 x1), (11, .v .bool x2)] : Env)
abbrev e24 := fun x0 x1 x2 => ([(0, .v U1 x0), (3, .v U2 x1), (17, .v .bool x2)] : Env)
abbrev e25 := fun x0 => ([(0, .dead), (2, .v .bool x0), (3, .dead)] : Env)
abbrev e26 := fun x0 x1 => ([(0, .v U1 x0), (2, .dead), (3, .v U2 x1)] : Env)
abbrev e27 := fun x0 x1 => ([(0, .v .str x0), (6, .v .bool x1)] : Env)
abbrev e28 := fun x0 x1 => ([(0, .v .str x0), (14, .v .bool x1)] : Env)
abbrev e29 := fun x0 x1 x2 => ([(0, .v .str x0), (3, .v U2 x1), (18, .v .bool x2)] : Env)
abbrev e30 := fun x0 => ([(0, .dead), (2, .v U2 x0), (3, .dead)] : Env)
abbrev e31 := fun x0 x1 => ([(0, .v .str x0), (2, .dead), (3, .v U2 x1)] : Env)
abbrev e32 := fun x0 x1 => ([(0, .v U0 x0), (1, .v .str x1)] : Env)
abbrev e33 := fun x0 x1 x2 => ([(0, .v U0 x0), (1, .v .str x1), (5, .v U2 x2)] : Env)
abbrev e34 := fun x0 x1 x2 x3 => ([(0, .v U0 x0), (1, .v .str x1), (5, .v U2 x2), (9, .v .bool x3)] : Env)
abbrev e35 := fun x0 x1 x2 x3 => ([(0, .v U0 x0), (1, .v .str x1), (5, .v U2 x2), (17, .v .bool x3)] : Env)
abbrev e36 := fun x0 => ([(0, .dead), (1, .dead), (4, .v .bool x0), (5, .dead)] : Env)
abbrev e37 := fun x0 x1 x2 => ([(0, .v U0 x0), (1, .v .str x1), (4, .dead), (5, .v U2 x2)] : Env)
abbrev e38 := fun x0 x1 => ([(1, .loc U21 .no x0), (22, .v .bool x1)] : Env)
abbrev e39 := fun x0 => ([(1, .dead), (2, .v U2 x0)] : Env)
abbrev e40 := fun x0 => ([(1, .loc U21 .no x0), (2, .dead)] : Env)
abbrev e41 := fun x0 x1 => ([(1, .loc U21 .no x0), (26, .v .bool x1)] : Env)
abbrev e42 := fun x0 x1 => ([(1, .loc U21 .no x0), (3, .v U2 x1)] : Env)
abbrev e43 := fun x0 x1 x2 => ([(1, .loc U21 .no x0), (3, .v U2 x1), (31, .v .bool x2)] : Env)
abbrev e44 := fun x0 x1 x2 x3 => ([(1, .loc U21 .no x0), (3, .v U2 x1), (4, .v U2 x2), (41, .v .bool x3)] : Env)
abbrev e45 := fun x0 => ([(1, .dead), (2, .v U2 x0), (3, .dead)] : Env)
abbrev e46 := fun x0 x1 => ([(1, .loc U21 .no x0), (2, .dead), (3, .v U2 x1)] : Env)
abbrev e47 := fun x0 x1 x2 => ([(1, .loc U21 .no x0), (3, .v U2 x1), (52, .v .bool x2)] : Env)
abbrev e48 := fun x0 x1 => ([(1, .loc U28 .no x0), (8, .v .bool x1)] : Env)
abbrev e49 := fun x0 => ([(1, .loc U28 .no x0), (2, .dead)] : Env)
abbrev e50 := fun x0 x1 => ([(1, .loc U28 .no x0), (12, .v .bool x1)] : Env)
abbrev e51 := fun x0 x1 x2 => ([(1, .loc U28 .no x0), (3, .v U2 x1), (17, .v .bool x2)] : Env)
abbrev e52 := fun x0 x1 x2 x3 => ([(1, .loc U28 .no x0), (3, .v U2 x1), (4, .v U2 x2), (27, .v .bool x3)] : Env)
abbrev e53 := fun x0 x1 => ([(1, .loc U28 .no x0), (2, .dead), (3, .v U2 x1)] : Env)
abbrev e54 := fun x0 x1 x2 => ([(2, .loc U28 .no x0), (3, .loc U28 .no x1), (4, .loc U28 (.pair .no (.pair (.own true 66 .no) .no)) x2)] : Env)
abbrev e55 := fun x0 x1 x2 x3 => ([(2, .loc U28 .no x0), (3, .loc U28 .no x1), (4, .loc U28 (.pair .no (.pair (.own true 66 .no) .no)) x2), (6, .v U2 x3)] : Env)
abbrev e56 := fun x0 x1 x2 x3 x4 => ([(2, .loc U28 .no x0), (3, .loc U28 .no x1), (4, .loc U28 (.pair .no (.pair (.own true 66 .no) .no)) x2), (6, .v U2 x3), (11, .v .bool x4)] : Env)
abbrev e57 := fun x0 x1 => ([(4, .loc U28 (.pair .no (.pair (.own true 66 .no) .no)) x0), (5, .v U2 x1)] : Env)
abbrev e58 := fun x0 x1 => ([(2, .dead), (3, .dead), (4, .loc U28 (.pair .no (.pair (.own true 66 .no) .no)) x0), (5, .v U2 x1)] : Env)
abbrev e59 := fun x0 x1 x2 => ([(2, .loc U28 .no x0), (3, .loc U28 .no x1), (4, .loc U28 (.pair .no (.pair (.own true 66 .no) .no)) x2), (5, .dead)] : Env)
abbrev e60 := fun x0 x1 x2 x3 => ([(2, .loc U28 .no x0), (3, .loc U28 .no x1), (4, .loc U28 (.pair .no (.pair (.own true 66 .no) .no)) x2), (7, .v U2 x3)] : Env)
abbrev e61 := fun x0 x1 x2 x3 x4 => ([(2, .loc U28 .no x0), (3, .loc U28 .no x1), (4, .loc U28 (.pair .no (.pair (.own true 66 .no) .no)) x2), (7, .v U2 x3), (17, .v .bool x4)] : Env)
abbrev e62 := fun x0 x1 x2 x3 => ([(2, .loc U28 .no x0), (3, .loc U28 .no x1), (4, .loc U28 (.pair .no (.pair (.own true 66 .no) .no)) x2), (27, .v .bool x3)] : Env)
abbrev e63 := fun x0 x1 => ([(4, .loc U28 .no x0), (5, .v U2 x1)] : Env)
abbrev e64 := fun x0 x1 => ([(0, .v .str x0), (12, .v .bool x1)] : Env)
abbrev e65 := fun x0 x1 x2 => ([(0, .v .str x0), (3, .v U2 x1), (16, .v .bool x2)] : Env)
abbrev e66 := fun x0 x1 x2 x3 => ([(0, .v .str x0), (3, .v U2 x1), (4, .v U1 x2), (21, .v .bool x3)] : Env)
abbrev e67 := fun x0 x1 x2 => ([(0, .v .str x0), (3, .v U2 x1), (30, .v .bool x2)] : Env)
abbrev e68 := fun x0 => ([(2, .v U2 x0), (3, .dead)] : Env)
abbrev e69 := fun x0 => ([(2, .dead), (3, .v U2 x0)] : Env)
abbrev e70 := fun x0 x1 => ([(0, .v .str x0), (1, .v U1 x1)] : Env)
abbrev e71 := fun x0 x1 => ([(0, .v U4 x0), (1, .v U11 x1)] : Env)
abbrev e72 := fun x0 x1 x2 x3 => ([(0, .v U4 x0), (1, .v U11 x1), (7, .v U2 x2), (8, .v U2 x3)] : Env)
abbrev e73 := fun x0 x1 x2 x3 x4 => ([(0, .v U4 x0), (1, .v U11 x1), (7, .v U2 x2), (8, .v U2 x3), (9, .v .bool x4)] : Env)
abbrev e74 := fun x0 x1 x2 x3 x4 x5 => ([(0, .v U4 x0), (1, .v U11 x1), (5, .v U2 x2), (7, .v U2 x3), (8, .v U2 x4), (16, .v .bool x5)] : Env)
abbrev e75 := fun x0 => ([(0, .dead), (1, .dead), (4, .v U2 x0), (7, .dead), (8, .dead)] : Env)
abbrev e76 := fun x0 x1 x2 x3 => ([(0, .v U4 x0), (1, .v U11 x1), (4, .dead), (7, .v U2 x2), (8, .v U2 x3)] : Env)
abbrev e77 := fun x0 x1 x2 x3 => ([(0, .v U0 x0), (1, .v .str x1), (12, .v U2 x2), (13, .v .bool x3)] : Env)
abbrev e78 := fun x0 => ([(0, .dead), (1, .dead), (4, .v .str x0)] : Env)
abbrev e79 := fun x0 x1 x2 => ([(0, .v U0 x0), (1, .v .str x1), (15, .v .bool x2)] : Env)
abbrev e80 := fun x0 x1 => ([(0, .v U0 x0), (1, .v .str x1), (4, .dead)] : Env)
abbrev e81 := fun x0 x1 x2 x3 => ([(0, .v U0 x0), (1, .v .str x1), (5, .v U2 x2), (22, .v .bool x3)] : Env)
abbrev e82 := fun x0 x1 x2 x3 => ([(0, .v U0 x0), (1, .v .str x1), (5, .v U2 x2), (29, .v .bool x3)] : Env)
abbrev e83 := fun x0 x1 x2 x3 x4 x5 => ([(0, .v U0 x0), (1, .v .str x1), (5, .v U2 x2), (39, .v U0 x3), (40, .v U2 x4), (41, .v U2 x5)] : Env)
abbrev e84 := fun x0 x1 x2 x3 x4 x5 x6 => ([(0, .v U0 x0), (1, .v .str x1), (5, .v U2 x2), (39, .v U0 x3), (40, .v U2 x4), (41, .v U2 x5), (42, .v .bool x6)] : Env)
abbrev e85 := fun x0 x1 x2 x3 x4 x5 x6 => ([(0, .v U0 x0), (1, .v .str x1), (5, .v U2 x2), (7, .v .str x3), (39, .v U0 x4), (40, .v U2 x5), (41, .v U2 x6)] : Env)
abbrev e86 := fun x0 x1 x2 x3 x4 x5 x6 x7 => ([(0, .v U0 x0), (1, .v .str x1), (5, .v U2 x2), (7, .v .str x3), (39, .v U0 x4), (40, .v U2 x5), (41, .v U2 x6), (49, .v .bool x7)] : Env)
abbrev e87 := fun x0 x1 x2 x3 => ([(0, .v U0 x0), (7, .v U0 x1), (8, .v U2 x2), (9, .v U2 x3)] : Env)
abbrev e88 := fun x0 x1 x2 x3 x4 => ([(0, .v U0 x0), (7, .v U0 x1), (8, .v U2 x2), (9, .v U2 x3), (10, .v .bool x4)] : Env)
abbrev e89 := fun x0 x1 x2 x3 x4 x5 => ([(0, .v U0 x0), (5, .v .str x1), (7, .v U0 x2), (8, .v U2 x3), (9, .v U2 x4), (14, .v .bool x5)] : Env)
abbrev e90 := fun x0 x1 => ([(2, .v .str x0), (3, .v U2 x1)] : Env)
abbrev e91 := fun x0 x1 => ([(0, .dead), (2, .v .str x0), (3, .v U2 x1), (5, .dead), (7, .dead), (8, .dead), (9, .dead)] : Env)
abbrev e92 := fun x0 x1 x2 x3 x4 => ([(0, .v U0 x0), (2, .dead), (3, .dead), (5, .v .str x1), (7, .v U0 x2), (8, .v U2 x3), (9, .v U2 x4)] : Env)
abbrev e93 := fun x0 x1 x2 x3 x4 => ([(0, .v U0 x0), (7, .v U0 x1), (8, .v U2 x2), (9, .v U2 x3), (17, .v .bool x4)] : Env)
abbrev e94 := fun x0 x1 => ([(0, .dead), (2, .v .str x0), (3, .v U2 x1), (7, .dead), (8, .dead), (9, .dead)] : Env)
abbrev e95 := fun x0 x1 x2 x3 => ([(0, .v U0 x0), (2, .dead), (3, .dead), (7, .v U0 x1), (8, .v U2 x2), (9, .v U2 x3)] : Env)
abbrev e96 := fun x0 x1 => ([(0, .dead), (2, .v .str x0), (3, .v U2 x1)] : Env)
abbrev e97 := fun x0 => ([(0, .v U0 x0), (2, .dead), (3, .dead)] : Env)
abbrev e98 := fun x0 x1 => ([(6, .v .str x0), (23, .v .bool x1)] : Env)
abbrev e99 := fun x0 x1 => ([(2, .v .str x0), (3, .v U2 x1), (6, .dead)] : Env)
abbrev e100 := fun x0 => ([(3, .own true 4294967295 U1 .no x0)] : Env)
abbrev e101 := fun x0 x1 x2 => ([(3, .own true 4294967295 U1 .no x0), (8, .ref 3 []), (9, .v U2 x1), (10, .v U2 x2)] : Env)
abbrev e102 := fun x0 x1 x2 x3 => ([(3, .own true 4294967295 U1 .no x0), (8, .ref 3 []), (9, .v U2 x1), (10, .v U2 x2), (11, .v .bool x3)] : Env)
abbrev e103 := fun x0 x1 x2 x3 x4 => ([(3, .own true 4294967295 U1 .no x0), (4, .v U2 x1), (5, .v U1 x2), (8, .ref 3 []), (9, .v U2 x3), (10, .v U2 x4)] : Env)
abbrev e104 := fun x0 x1 x2 x3 x4 x5 => ([(3, .own true 4294967295 U1 .no x0), (4, .v U2 x1), (5, .v U1 x2), (8, .ref 3 []), (9, .v U2 x3), (10, .v U2 x4), (20, .v .bool x5)] : Env)
abbrev e105 := fun x0 x1 => ([(0, .v .str x0), (7, .v .bool x1)] : Env)
abbrev e106 := fun x0 x1 x2 x3 => ([(0, .v U0 x0), (1, .v .str x1), (7, .v U2 x2), (8, .v U2 x3)] : Env)
abbrev e107 := fun x0 x1 x2 x3 x4 => ([(0, .v U0 x0), (1, .v .str x1), (7, .v U2 x2), (8, .v U2 x3), (9, .v .bool x4)] : Env)
abbrev e108 := fun x0 x1 x2 x3 x4 x5 => ([(0, .v U0 x0), (1, .v .str x1), (5, .v U2 x2), (7, .v U2 x3), (8, .v U2 x4), (16, .v .bool x5)] : Env)
abbrev e109 := fun x0 x1 x2 x3 => ([(0, .v U0 x0), (1, .v .str x1), (4, .dead), (7, .v U2 x2), (8, .v U2 x3)] : Env)
abbrev e110 := fun x0 x1 => ([(1, .loc U21 .no x0), (6, .v .bool x1)] : Env)
abbrev e111 := fun x0 x1 => ([(1, .loc U21 .no x0), (25, .v .bool x1)] : Env)
abbrev e112 := fun x0 x1 x2 x3 => ([(1, .loc U21 .no x0), (31, .v U0 x1), (32, .v U2 x2), (33, .v U2 x3)] : Env)
abbrev e113 := fun x0 x1 x2 x3 x4 => ([(1, .loc U21 .no x0), (31, .v U0 x1), (32, .v U2 x2), (33, .v U2 x3), (34, .v .bool x4)] : Env)
abbrev e114 := fun x0 x1 x2 x3 x4 x5 => ([(1, .loc U21 .no x0), (3, .v U2 x1), (4, .v .str x2), (31, .v U0 x3), (32, .v U2 x4), (33, .v U2 x5)] : Env)
abbrev e115 := fun x0 x1 x2 x3 x4 x5 x6 => ([(1, .loc U21 .no x0), (3, .v U2 x1), (4, .v .str x2), (5, .v U2 x3), (31, .v U0 x4), (32, .v U2 x5), (33, .v U2 x6)] : Env)
abbrev e116 := fun x0 x1 x2 x3 x4 x5 x6 x7 => ([(1, .loc U21 .no x0), (3, .v U2 x1), (4, .v .str x2), (5, .v U2 x3), (31, .v U0 x4), (32, .v U2 x5), (33, .v U2 x6), (41, .v .bool x7)] : Env)
abbrev e117 := fun x0 => ([(1, .dead), (2, .v U2 x0), (3, .dead), (4, .dead), (31, .dead), (32, .dead), (33, .dead)] : Env)
abbrev e118 := fun x0 x1 x2 x3 x4 x5 => ([(1, .loc U21 .no x0), (2, .dead), (3, .v U2 x1), (4, .v .str x2), (31, .v U0 x3), (32, .v U2 x4), (33, .v U2 x5)] : Env)
abbrev e119 := fun x0 x1 x2 x3 x4 => ([(1, .loc U21 .no x0), (31, .v U0 x1), (32, .v U2 x2), (33, .v U2 x3), (48, .v .bool x4)] : Env)
abbrev e120 := fun x0 => ([(1, .dead), (2, .v U2 x0), (31, .dead), (32, .dead), (33, .dead)] : Env)
abbrev e121 := fun x0 x1 x2 x3 => ([(1, .loc U21 .no x0), (2, .dead), (31, .v U0 x1), (32, .v U2 x2), (33, .v U2 x3)] : Env)
abbrev e122 := fun x0 x1 => ([(1, .loc U28 .no x0), (6, .v .bool x1)] : Env)
abbrev e123 := fun x0 x1 => ([(1, .loc U28 .no x0), (11, .v .bool x1)] : Env)
abbrev e124 := fun x0 x1 x2 => ([(17, .v U23 x0), (18, .v U2 x1), (19, .v U2 x2)] : Env)
abbrev e125 := fun x0 x1 x2 x3 => ([(17, .v U23 x0), (18, .v U2 x1), (19, .v U2 x2), (20, .v .bool x3)] : Env)
abbrev e126 := fun x0 x1 x2 x3 x4 => ([(5, .v U2 x0), (17, .v U23 x1), (18, .v U2 x2), (19, .v U2 x3), (26, .v .bool x4)] : Env)
abbrev e127 := fun x0 => ([(2, .v U2 x0), (17, .dead), (18, .dead), (19, .dead)] : Env)
abbrev e128 := fun x0 x1 x2 => ([(2, .dead), (17, .v U23 x0), (18, .v U2 x1), (19, .v U2 x2)] : Env)
abbrev e129 := fun x0 x1 x2 => ([(1, .loc U18 .no x0), (4, .v U2 x1), (5, .v .bool x2)] : Env)
abbrev e130 := fun x0 => ([(1, .dead), (2, .v .bool x0)] : Env)
abbrev e131 := fun x0 x1 => ([(1, .loc U18 .no x0), (15, .v .bool x1)] : Env)
abbrev e132 := fun x0 => ([(1, .loc U18 .no x0), (2, .dead)] : Env)
abbrev e133 := fun x0 x1 x2 => ([(0, .v .str x0), (1, .v U12 x1), (2, .v .bool x2)] : Env)
abbrev e134 := fun x0 x1 x2 x3 => ([(1, .v U12 x0), (2, .v .bool x1), (10, .it x2 x3)] : Env)
abbrev e135 := fun x0 x1 x2 x3 x4 x5 x6 x7 => ([(1, .v U12 x0), (2, .v .bool x1), (10, .it x2 x3), (11, .tup [.v .bool x4, .v U2 x5, .v U3 x6]), (12, .v .bool x7)] : Env)
abbrev e136 := fun x0 x1 x2 x3 x4 x5 => ([(1, .v U12 x0), (2, .v .bool x1), (10, .it x2 x3), (11, .tup [.v .bool x4]), (12, .v .bool x5)] : Env)
abbrev e137 := fun x0 x1 x2 x3 x4 x5 x6 => ([(1, .v U12 x0), (2, .v .bool x1), (10, .it x2 x3), (11, .tup [.v .bool x4, .v U2 x5, .v U3 x6])] : Env)
abbrev e138 := fun x0 x1 x2 x3 x4 x5 => ([(1, .v U12 x0), (2, .v .bool x1), (7, .v U2 x2), (10, .it x3 x4), (19, .v .bool x5)] : Env)
abbrev e139 := fun x0 => ([(1, .dead), (2, .dead), (6, .v U2 x0), (10, .dead)] : Env)
abbrev e140 := fun x0 x1 x2 x3 => ([(1, .v U12 x0), (2, .v .bool x1), (6, .dead), (10, .it x2 x3)] : Env)
abbrev e141 := fun x0 x1 x2 x3 x4 => ([(1, .v U12 x0), (2, .v .bool x1), (10, .it x2 x3), (11, .tup [.v .bool x4])] : Env)
abbrev e142 := fun x0 x1 => ([(0, .v .str x0), (1, .v U12 x1)] : Env)
abbrev e143 := fun x0 x1 => ([(1, .loc U18 .no x0), (3, .v .bool x1)] : Env)
abbrev e144 := fun x0 x1 => ([(1, .loc U18 .no x0), (12, .v .bool x1)] : Env)
abbrev e145 := fun x0 x1 => ([(1, .loc U18 .no x0), (16, .v .bool x1)] : Env)
abbrev e146 := fun x0 x1 => ([(1, .loc U18 .no x0), (20, .v .bool x1)] : Env)
abbrev e147 := fun x0 x1 => ([(0, .v U22 x0), (8, .v .bool x1)] : Env)
abbrev e148 := fun x0 x1 x2 => ([(9, .v U22 x0), (10, .v U2 x1), (11, .v U2 x2)] : Env)
abbrev e149 := fun x0 x1 x2 x3 => ([(9, .v U22 x0), (10, .v U2 x1), (11, .v U2 x2), (12, .v .bool x3)] : Env)
abbrev e150 := fun x0 x1 x2 x3 x4 => ([(5, .v U2 x0), (9, .v U22 x1), (10, .v U2 x2), (11, .v U2 x3), (18, .v .bool x4)] : Env)
abbrev e151 := fun x0 => ([(2, .v U2 x0), (9, .dead), (10, .dead), (11, .dead)] : Env)
abbrev e152 := fun x0 x1 x2 => ([(2, .dead), (9, .v U22 x0), (10, .v U2 x1), (11, .v U2 x2)] : Env)
abbrev e153 := fun x0 x1 => ([(0, .v U22 x0), (1, .v U22 x1)] : Env)
abbrev e154 := fun x0 x1 x2 => ([(1, .v U22 x0), (5, .v U2 x1), (9, .v .bool x2)] : Env)
abbrev e155 := fun x0 => ([(1, .dead), (4, .v U2 x0)] : Env)
abbrev e156 := fun x0 x1 => ([(0, .v U22 x0), (3, .v U2 x1)] : Env)
abbrev e157 := fun x0 x1 x2 => ([(0, .v U22 x0), (3, .v U2 x1), (6, .v .bool x2)] : Env)
abbrev e158 := fun x0 x1 => ([(0, .v U22 x0), (1, .v U27 x1)] : Env)
abbrev e159 := fun x0 x1 x2 x3 => ([(0, .v U22 x0), (1, .v U27 x1), (7, .v U2 x2), (8, .v U2 x3)] : Env)
abbrev e160 := fun x0 x1 x2 x3 x4 => ([(0, .v U22 x0), (1, .v U27 x1), (7, .v U2 x2), (8, .v U2 x3), (9, .v .bool x4)] : Env)
abbrev e161 := fun x0 x1 x2 x3 x4 x5 => ([(0, .v U22 x0), (1, .v U27 x1), (5, .v U2 x2), (7, .v U2 x3), (8, .v U2 x4), (16, .v .bool x5)] : Env)
abbrev e162 := fun x0 x1 x2 x3 => ([(0, .v U22 x0), (1, .v U27 x1), (4, .dead), (7, .v U2 x2), (8, .v U2 x3)] : Env)
abbrev e163 := fun x0 x1 x2 => ([(0, .v U22 x0), (3, .v U2 x1), (7, .v .bool x2)] : Env)
abbrev e164 := fun x0 x1 x2 => ([(0, .v U22 x0), (5, .v U2 x1), (8, .v .bool x2)] : Env)
abbrev e165 := fun x0 => ([(4, .own true 3 U2 .no x0)] : Env)
abbrev e166 := fun x0 x1 => ([(0, .v U22 x0), (17, .v .bool x1)] : Env)
abbrev e167 := fun x0 x1 => ([(0, .v U2 x0), (1, .v U2 x1)] : Env)
abbrev e168 := fun x0 x1 x2 => ([(1, .v U2 x0), (5, .v U2 x1), (6, .v .bool x2)] : Env)
abbrev e169 := fun x0 x1 x2 => ([(1, .v U2 x0), (5, .v U2 x1), (8, .v .bool x2)] : Env)
abbrev e170 := fun x0 x1 => ([(1, .v U2 x0), (10, .v .bool x1)] : Env)
abbrev e171 := fun x0 => ([(1, .v U2 x0), (4, .dead)] : Env)
abbrev e172 := fun x0 x1 x2 => ([(0, .v U28 x0), (1, .v U2 x1), (2, .v .str x2)] : Env)
abbrev e173 := fun x0 x1 x2 => ([(1, .v U2 x0), (2, .v .str x1), (3, .loc U28 .no x2)] : Env)
abbrev e174 := fun x0 x1 x2 x3 x4 x5 x6 => ([(1, .v U2 x0), (2, .v .str x1), (8, .v U2 x2), (9, .v .bool x3), (15, .v U23 x4), (16, .v U2 x5), (17, .v U2 x6)] : Env)
abbrev e175 := fun x0 x1 x2 x3 x4 x5 x6 x7 => ([(1, .v U2 x0), (2, .v .str x1), (8, .v U2 x2), (9, .v .bool x3), (15, .v U23 x4), (16, .v U2 x5), (17, .v U2 x6), (18, .v .bool x7)] : Env)
abbrev e176 := fun x0 x1 x2 x3 x4 x5 x6 x7 => ([(1, .v U2 x0), (2, .v .str x1), (8, .v U2 x2), (9, .v .bool x3), (11, .loc U21 .no x4), (15, .v U23 x5), (16, .v U2 x6), (17, .v U2 x7)] : Env)
abbrev e177 := fun x0 x1 x2 x3 x4 x5 x6 x7 x8 => ([(1, .v U2 x0), (2, .v .str x1), (8, .v U2 x2), (9, .v .bool x3), (11, .loc U21 .no x4), (15, .v U23 x5), (16, .v U2 x6), (17, .v U2 x7), (39, .v .bool x8)] : Env)
abbrev e178 := fun x0 x1 => ([(8, .v U2 x0), (9, .v .bool x1)] : Env)
abbrev e179 := fun x0 x1 x2 x3 x4 => ([(0, .v U28 x0), (1, .v .str x1), (2, .v .str x2), (3, .v U22 x3), (4, .v U22 x4)] : Env)
abbrev e180 := fun x0 x1 x2 x3 x4 => ([(1, .v .str x0), (2, .v .str x1), (3, .v U22 x2), (4, .v U22 x3), (5, .loc U28 .no x4)] : Env)
abbrev e181 := fun x0 x1 x2 x3 x4 x5 => ([(1, .v .str x0), (2, .v .str x1), (3, .v U22 x2), (4, .v U22 x3), (5, .loc U28 .no x4), (12, .v U2 x5)] : Env)
abbrev e182 := fun x0 x1 x2 x3 x4 x5 x6 => ([(1, .v .str x0), (2, .v .str x1), (3, .v U22 x2), (4, .v U22 x3), (5, .loc U28 .no x4), (12, .v U2 x5), (23, .v .bool x6)] : Env)
abbrev e183 := fun x0 x1 => ([(10, .own true 39 U16 .no x0), (11, .v U2 x1)] : Env)
abbrev e184 := fun x0 x1 => ([(1, .dead), (2, .dead), (3, .dead), (4, .dead), (5, .dead), (10, .own true 39 U16 .no x0), (11, .v U2 x1)] : Env)
abbrev e185 := fun x0 x1 x2 x3 x4 => ([(1, .v .str x0), (2, .v .str x1), (3, .v U22 x2), (4, .v U22 x3), (5, .loc U28 .no x4), (10, .dead), (11, .dead)] : Env)
abbrev e186 := fun x0 x1 x2 x3 x4 x5 => ([(1, .v .str x0), (2, .v .str x1), (3, .v U22 x2), (4, .v U22 x3), (5, .loc U28 .no x4), (13, .v U2 x5)] : Env)
abbrev e187 := fun x0 x1 x2 x3 x4 x5 x6 => ([(1, .v .str x0), (2, .v .str x1), (3, .v U22 x2), (4, .v U22 x3), (5, .loc U28 .no x4), (13, .v U2 x5), (29, .v .bool x6)] : Env)
abbrev e188 := fun x0 x1 x2 x3 x4 x5 => ([(1, .v .str x0), (2, .v .str x1), (3, .v U22 x2), (4, .v U22 x3), (5, .loc U28 .no x4), (14, .own true 39 U16 .no x5)] : Env)
abbrev e189 := fun x0 x1 x2 x3 x4 x5 x6 x7 => ([(1, .v .str x0), (2, .v .str x1), (3, .v U22 x2), (5, .loc U28 .no x3), (14, .own true 39 U16 .no x4), (33, .own true 3 U2 .no x5), (34, .v U2 x6), (35, .v U2 x7)] : Env)
abbrev e190 := fun x0 x1 x2 x3 x4 x5 x6 x7 x8 => ([(1, .v .str x0), (2, .v .str x1), (3, .v U22 x2), (5, .loc U28 .no x3), (14, .own true 39 U16 .no x4), (33, .own true 3 U2 .no x5), (34, .v U2 x6), (35, .v U2 x7), (36, .v .bool x8)] : Env)
abbrev e191 := fun x0 x1 x2 x3 x4 x5 x6 x7 x8 => ([(1, .v .str x0), (2, .v .str x1), (3, .v U22 x2), (5, .loc U28 .no x3), (14, .own true 39 U16 .no x4), (16, .v U2 x5), (33, .own true 3 U2 .no x6), (34, .v U2 x7), (35, .v U2 x8)] : Env)
abbrev e192 := fun x0 x1 x2 x3 x4 x5 x6 x7 x8 x9 => ([(1, .v .str x0), (2, .v .str x1), (3, .v U22 x2), (5, .loc U28 .no x3), (14, .own true 39 U16 .no x4), (16, .v U2 x5), (33, .own true 3 U2 .no x6), (34, .v U2 x7), (35, .v U2 x8), (40, .v .bool x9)] : Env)
abbrev e193 := fun x0 x1 x2 x3 x4 x5 x6 x7 => ([(1, .v .str x0), (2, .v .str x1), (3, .v U22 x2), (5, .loc U28 .no x3), (14, .own true 39 U16 .no x4), (16, .dead), (33, .own true 3 U2 .no x5), (34, .v U2 x6), (35, .v U2 x7)] : Env)
abbrev e194 := fun x0 x1 x2 x3 x4 x5 x6 x7 x8 x9 => ([(1, .v .str x0), (2, .v .str x1), (3, .v U22 x2), (5, .loc U28 .no x3), (14, .own true 39 U16 .no x4), (16, .v U2 x5), (17, .v .str x6), (33, .own true 3 U2 .no x7), (34, .v U2 x8), (35, .v U2 x9)] : Env)
abbrev e195 := fun x0 x1 x2 x3 x4 x5 x6 x7 x8 x9 x10 => ([(1, .v .str x0), (2, .v .str x1), (3, .v U22 x2), (5, .loc U28 .no x3), (14, .own true 39 U16 .no x4), (16, .v U2 x5), (17, .v .str x6), (33, .own true 3 U2 .no x7), (34, .v U2 x8), (35, .v U2 x9), (48, .v .bool x10)] : Env)
abbrev e196 := fun x0 x1 x2 x3 x4 x5 x6 x7 x8 x9 x10 => ([(1, .v .str x0), (2, .v .str x1), (3, .v U22 x2), (5, .loc U28 .no x3), (14, .own true 39 U16 .no x4), (16, .v U2 x5), (18, .v U2 x6), (19, .v .bool x7), (33, .own true 3 U2 .no x8), (34, .v U2 x9), (35, .v U2 x10)] : Env)
abbrev e197 := fun x0 x1 x2 x3 x4 x5 x6 x7 x8 x9 x10 => ([(1, .v .str x0), (2, .v .str x1), (3, .v U22 x2), (5, .loc U28 .no x3), (14, .own true 39 U16 .no x4), (16, .v U2 x5), (18, .v U2 x6), (33, .own true 3 U2 .no x7), (34, .v U2 x8), (35, .v U2 x9), (60, .v .bool x10)] : Env)
abbrev e198 := fun x0 => ([(14, .own true 39 U16 .no x0)] : Env)
abbrev e199 := fun x0 x1 => ([(10, .ref 14 []), (11, .v U2 x0), (14, .own true 39 U16 .no x1)] : Env)
abbrev e200 := fun x0 x1 => ([(0, .v U17 x0), (1, .v U24 x1)] : Env)
abbrev e201 := fun x0 x1 x2 x3 => ([(0, .v U17 x0), (1, .v U24 x1), (7, .v U2 x2), (8, .v U2 x3)] : Env)
abbrev e202 := fun x0 x1 x2 x3 x4 => ([(0, .v U17 x0), (1, .v U24 x1), (7, .v U2 x2), (8, .v U2 x3), (9, .v .bool x4)] : Env)
abbrev e203 := fun x0 x1 x2 x3 x4 x5 => ([(0, .v U17 x0), (1, .v U24 x1), (5, .v U2 x2), (7, .v U2 x3), (8, .v U2 x4), (16, .v .bool x5)] : Env)
abbrev e204 := fun x0 x1 x2 x3 => ([(0, .v U17 x0), (1, .v U24 x1), (4, .dead), (7, .v U2 x2), (8, .v U2 x3)] : Env)
abbrev e205 := fun x0 x1 x2 => ([(0, .v U28 x0), (1, .v U28 x1), (2, .v U10 x2)] : Env)
abbrev e206 := fun x0 x1 x2 x3 => ([(3, .loc U28 .no x0), (4, .loc U28 .no x1), (5, .loc U10 .no x2), (38, .v .bool x3)] : Env)
abbrev e207 := fun x0 => ([(3, .dead), (4, .dead), (5, .dead), (6, .v .bool x0)] : Env)
abbrev e208 := fun x0 x1 x2 => ([(3, .loc U28 .no x0), (4, .loc U28 .no x1), (5, .loc U10 .no x2), (6, .dead)] : Env)
abbrev e209 := fun x0 x1 x2 x3 => ([(3, .loc U28 .no x0), (4, .loc U28 .no x1), (7, .own true 55 U18 .no x2), (8, .own true 55 U18 .no x3)] : Env)
abbrev e210 := fun x0 x1 x2 x3 x4 => ([(3, .loc U28 .no x0), (7, .own true 55 U18 .no x1), (8, .own true 55 U18 .no x2), (9, .loc U28 .no x3), (10, .v U2 x4)] : Env)
abbrev e211 := fun x0 x1 x2 x3 x4 => ([(3, .loc U28 .no x0), (7, .own true 55 U18 .no x1), (8, .own true 55 U18 .no x2), (9, .loc U28 .no x3), (53, .v .bool x4)] : Env)
abbrev e212 := fun x0 => ([(3, .dead), (6, .v .bool x0), (7, .dead), (8, .dead), (9, .dead)] : Env)
abbrev e213 := fun x0 x1 x2 x3 => ([(3, .loc U28 .no x0), (6, .dead), (7, .own true 55 U18 .no x1), (8, .own true 55 U18 .no x2), (9, .loc U28 .no x3)] : Env)
abbrev e214 := fun x0 x1 x2 x3 x4 => ([(7, .own true 55 U18 .no x0), (8, .own true 55 U18 .no x1), (9, .loc U28 .no x2), (11, .own true 39 U16 .no x3), (12, .v U2 x4)] : Env)
abbrev e215 := fun x0 x1 x2 x3 => ([(11, .own true 39 U16 .no x0), (12, .v U2 x1), (13, .loc U17 (.own true 39 .no) x2), (14, .v U2 x3)] : Env)
abbrev e216 := fun x0 x1 x2 => ([(11, .own true 39 U16 .no x0), (13, .loc U17 (.own true 39 .no) x1), (73, .v .bool x2)] : Env)
abbrev e217 := fun x0 => ([(6, .v .bool x0), (11, .dead), (13, .dead)] : Env)
abbrev e218 := fun x0 x1 => ([(6, .dead), (11, .own true 39 U16 .no x0), (13, .loc U17 (.own true 39 .no) x1)] : Env)
variable {N : Nat} {cl : Cal} {R : Type} {K : KE R}
def g33_0 (x0 : V7) (x1 : Int) (k0 : V7 → Int → Option R) : Option R :=
k0 x0 x1
theorem t33_0 (x0 x1) : exec cl N c33_0 (e0 x0 x1) K = (g33_0 x0 x1 (fun y0 y1 => K .normal (e0 y0 y1))) := by
  kernel_rfl
def g33_1 (x0 : V7) (x1 : Int) (k0 : V7 → Int → Int → Option R) : Option R :=
k0 x0 x1 (0 : Int)
theorem t33_1 (x0 x1) : exec cl N c33_1 (e0 x0 x1) K = (g33_1 x0 x1 (fun y0 y1 y2 => K .normal [(0, .v U0 y0), (1, .v U2 y1), (5, .v U2 y2)])) := by
  kernel_rfl
def g33_2 (x0 : V7) (x1 x2 : Int) (k0 : V7 → Int → Int → Int → Option R) : Option R :=
k0 x0 x1 x2 (0 : Int)
theorem t33_2 (x0 x1 x2) : exec cl N c33_2 [(0, .v U0 x0), (1, .v U2 x1), (5, .v U2 x2)] K = (g33_2 x0 x1 x2 (fun y0 y1 y2 y3 => K .normal (e1 y0 y1 y2 y3))) := by
  kernel_rfl
theorem kp33_0 (x0 x1 x2 x3) : keep [0, 1, 5, 6] (e1 x0 x1 x2 x3) = (e1 x0 x1 x2 x3) := by kernel_rfl
def g33_3 (x0 : V7) (x1 x2 x3 : Int) (k0 : V7 → Int → Int → Int → Bool → Option R) : Option R :=
brB (decide (x3 < (x0.length : Int))) (k0 x0 x1 x2 x3 (decide (x2 ≤ x1))) (k0 x0 x1 x2 x3 false)
theorem t33_3 (x0 x1 x2 x3) : exec cl N c33_3 (e1 x0 x1 x2 x3) K = (g33_3 x0 x1 x2 x3 (fun y0 y1 y2 y3 y4 => K .normal (e2 y0 y1 y2 y3 y4))) := by
  kernel_rfl
theorem kp33_1 (x0 x1 x2 x3 x4) : keep [0, 1, 5, 6] (e2 x0 x1 x2 x3 x4) = (e1 x0 x1 x2 x3) := by kernel_rfl
theorem hb33_0 (x0 x1 x2 x3 x4) : boolOf? (ent (e2 x0 x1 x2 x3 x4) (.t 15)) = some x4 := by kernel_rfl
def g33_5 (x0 : V7) (x1 x2 x3 : Int) (k0 : V7 → Int → Int → Int → Option R) : Option R :=
if 0 ≤ x3 ∧ x3 < (x0.length : Int) then
k0 x0 x1 (IntKind.i64.wrap ((IntKind.i64.wrap (x2 + (1 : Int))) + ((x0.getD x3.toNat []).length : Int))) x3
else none
theorem t33_5 (x0 x1 x2 x3) : exec cl N c33_5 (e1 x0 x1 x2 x3) K = (g33_5 x0 x1 x2 x3 (fun y0 y1 y2 y3 => K .normal (e1 y0 y1 y2 y3))) := by
  kernel_rfl
def g33_7 (x0 : V7) (x1 x2 x3 : Int) (k0 : V7 → Int → Int → Int → Option R) : Option R :=
k0 x0 x1 x2 (IntKind.i64.wrap (x3 + (1 : Int)))
theorem t33_7 (x0 x1 x2 x3) : exec cl N c33_7 (e1 x0 x1 x2 x3) K = (g33_7 x0 x1 x2 x3 (fun y0 y1 y2 y3 => K .normal (e1 y0 y1 y2 y3))) := by
  kernel_rfl
def g33_8 (x0 : V7) (x1 x2 x3 : Int) (k0 : V7 → Int → Int → Int → Option R) (k1 : V7 → Int → Int → Int → Option R) : Option R :=
(g33_3 x0 x1 x2 x3 (fun y0 y1 y2 y3 y4 => brB y4 ((fun y0 y1 y2 y3 => (g33_5 y0 y1 y2 y3 (fun y0 y1 y2 y3 => (g33_7 y0 y1 y2 y3 k0)))) y0 y1 y2 y3) (k1 y0 y1 y2 y3)))
theorem t33_8 (x0 x1 x2 x3) : exec cl N c33_8 (e1 x0 x1 x2 x3) K = (g33_8 x0 x1 x2 x3 (fun y0 y1 y2 y3 => K .normal (e1 y0 y1 y2 y3)) (fun y0 y1 y2 y3 => K (.exit 0) (e1 y0 y1 y2 y3))) := by
  simp only [c33_8, exec_seq, seqK_normal, seqK_exit, seqK_ret, t33_3, c33_4, exec_out, exec_cond', hb33_0, Option.bind_some, brB_true, brB_false, exec_skip, exec_exit, kp33_1, c33_6, exec_block, t33_5, blockK_normal, blockK_ret, blockK_eq, kp33_0, t33_7]
  rfl
def l33_9 {R : Type} (k0 : V7 → Int → Int → Int → Option R) : Nat → V7 → Int → Int → Int → Option R
  | 0, _, _, _, _ => none
  | m + 1, x0, x1, x2, x3 => (g33_8 x0 x1 x2 x3 (fun y0 y1 y2 y3 => l33_9 k0 m y0 y1 y2 y3) k0)
theorem lt33_9 : ∀ (m) (x0 x1 x2 x3), iter [0, 1, 5, 6] (fun env K => exec cl N c33_8 env K) K m (e1 x0 x1 x2 x3) = l33_9 (fun y0 y1 y2 y3 => K (.exit 0) (e1 y0 y1 y2 y3)) m x0 x1 x2 x3 := by
  intro m
  induction m with
  | zero => intros; rfl
  | succ m ih =>
    intro x0 x1 x2 x3
    simp only [iter_succ, t33_8, loopK_normal, loopK_exit, loopK_ret, kp33_0, ih]
    rfl
theorem kp33_2 (x0 x1 x2 x3) : keep [5] (e1 x0 x1 x2 x3) = [(5, .v U2 x2)] := by kernel_rfl
def g33_9 (N : Nat) (x0 : V7) (x1 x2 x3 : Int) (k0 : Int → Option R) : Option R :=
l33_9 (fun y0 y1 y2 y3 => k0 y2) N x0 x1 x2 x3
theorem t33_9 (x0 x1 x2 x3) : exec cl N c33_9 (e1 x0 x1 x2 x3) K = (g33_9 N x0 x1 x2 x3 (fun y0 => K (.exit 0) [(5, .v U2 y0)])) := by
  simp only [c33_9, exec_out, exec_loop, kp33_0, lt33_9, kp33_2]
  rfl
theorem kp33_3 (x0) : keep [5] [(5, .v U2 x0)] = [(5, .v U2 x0)] := by kernel_rfl
def g33_11 (x0 : Int) (k0 : Int → Option R) : Option R :=
k0 x0
theorem t33_11 (x0) : exec cl N c33_11 [(5, .v U2 x0)] K = (g33_11 x0 (fun y0 => K .normal [(4, .v U2 y0)])) := by
  kernel_rfl
def g33_12 (N : Nat) (x0 : V7) (x1 : Int) (k0 : Int → Option R) : Option R :=
(g33_0 x0 x1 (fun y0 y1 => (g33_1 y0 y1 (fun y0 y1 y2 => (g33_2 y0 y1 y2 (fun y0 y1 y2 y3 => (g33_9 N y0 y1 y2 y3 (fun y0 => ((fun y0 => (g33_11 y0 (fun y0 => (k0 y0)))) y0)))))))))
theorem t33_12 (x0 x1) : exec cl N c33_12 (e0 x0 x1) K = (g33_12 N x0 x1 (fun y0 => K .ret [(4, .v U2 y0)])) := by
  simp only [c33_12, exec_seq, seqK_normal, seqK_exit, seqK_ret, t33_0, t33_1, t33_2, c33_10, exec_out, exec_block, t33_9, blockK_normal, blockK_ret, blockK_eq, kp33_3, t33_11, exec_ret]
  rfl
theorem rk33_0 (y0) : retK d33 .ret [(4, .v U2 y0)] = some [.v U2 y0] := by kernel_rfl
def g33 (N : Nat) (x0 : V7) (x1 : Int) (k : Int → Option R) : Option R :=
(g33_12 N x0 x1 (fun y0 => k y0))
theorem gen33 {N : Nat} {cl : Cal} (x0 : V7) (x1 : Int) {R : Type} (k : List E → Option R) : exec cl N c33 (params 0 [.v U0 x0, .v U2 x1]) (fun e env => (retK d33 e env).bind k) = g33 N x0 x1 (fun (r0 : Int) => k [.v U2 r0]) := by
  have e0 : params 0 [.v U0 x0, .v U2 x1] = (e0 x0 x1) := by kernel_rfl
  simp only [c33, e0, t33_12, rk33_0, Option.bind_some]
  rfl
def ctr33 (S : V7 → Int → Option (Int)) : Ctr := { A := V7 × Int × Unit, B := Int, f := 33, enc := fun a => [.v U0 a.1, .v U2 a.2.1], dec := (decC (decV U0) (decC (decV U2) dec0)), S := fun a => S a.1 a.2.1, ent := fun b => [.v U2 b], ok := (decV_cons (T := U0) (decV_cons (T := U2) (fun es b h => dec0_some h))) }
def S33 (N : Nat) (x0 : V7) (x1 : Int) : Option (Int) := g33 N x0 x1 (fun (r0 : Int) => some (r0))
def g9_0 (x0 : V26) (k0 : V26 → Option R) : Option R :=
k0 x0
theorem t9_0 (x0) : exec cl N c9_0 [(0, .v U28 x0)] K = (g9_0 x0 (fun y0 => K .normal [(1, .loc U28 .no y0)])) := by
  kernel_rfl
def g9_1 (x0 : V26) (k0 : V26 → Int → Option R) : Option R :=
k0 x0 (x0.1.length : Int)
theorem t9_1 (x0) : exec cl N c9_1 [(1, .loc U28 .no x0)] K = (g9_1 x0 (fun y0 y1 => K .normal (e3 y0 y1))) := by
  kernel_rfl
def g9_2 (x0 : V26) (x1 : Int) (k0 : V26 → Int → Int → Option R) : Option R :=
k0 x0 x1 (0 : Int)
theorem t9_2 (x0 x1) : exec cl N c9_2 (e3 x0 x1) K = (g9_2 x0 x1 (fun y0 y1 y2 => K .normal (e4 y0 y1 y2))) := by
  kernel_rfl
theorem kp9_0 (x0 x1 x2) : keep [1, 3, 4] (e4 x0 x1 x2) = (e4 x0 x1 x2) := by kernel_rfl
def g9_3 (x0 : V26) (x1 x2 : Int) (k0 : V26 → Int → Int → Bool → Option R) : Option R :=
brB (decide (x2 < (x0.2.1.length : Int))) (k0 x0 x1 x2 (decide (x2 < (50 : Int)))) (k0 x0 x1 x2 false)
theorem t9_3 (x0 x1 x2) : exec cl N c9_3 (e4 x0 x1 x2) K = (g9_3 x0 x1 x2 (fun y0 y1 y2 y3 => K .normal (e5 y0 y1 y2 y3))) := by
  kernel_rfl
theorem kp9_1 (x0 x1 x2 x3) : keep [1, 3, 4] (e5 x0 x1 x2 x3) = (e4 x0 x1 x2) := by kernel_rfl
theorem hb9_0 (x0 x1 x2 x3) : boolOf? (ent (e5 x0 x1 x2 x3) (.t 16)) = some x3 := by kernel_rfl
def g9_5 (S33 : V7 → Int → Option (Int)) (x0 : V26) (x1 x2 : Int) (k0 : V26 → Int → Int → Option R) : Option R :=
if 0 ≤ x2 ∧ x2 < (x0.2.1.length : Int) then
(S33 ((x0.2.1.getD x2.toNat ((0 : Int), ((0 : Int), ([], ())))).2.2.1) (1500 : Int)).bind fun r21 =>
k0 x0 (IntKind.i64.wrap (x1 + r21)) x2
else none
theorem t9_5 (S33) (h33 : (ctr33 S33).holds cl) (x0 x1 x2) : exec cl N c9_5 (e4 x0 x1 x2) K = (g9_5 S33 x0 x1 x2 (fun y0 y1 y2 => K .normal (e4 y0 y1 y2))) := by
  rw [← put_eq h33]
  kernel_rfl
def g9_7 (x0 : V26) (x1 x2 : Int) (k0 : V26 → Int → Int → Option R) : Option R :=
k0 x0 x1 (IntKind.i64.wrap (x2 + (1 : Int)))
theorem t9_7 (x0 x1 x2) : exec cl N c9_7 (e4 x0 x1 x2) K = (g9_7 x0 x1 x2 (fun y0 y1 y2 => K .normal (e4 y0 y1 y2))) := by
  kernel_rfl
def g9_8 (S33 : V7 → Int → Option (Int)) (x0 : V26) (x1 x2 : Int) (k0 : V26 → Int → Int → Option R) (k1 : V26 → Int → Int → Option R) : Option R :=
(g9_3 x0 x1 x2 (fun y0 y1 y2 y3 => brB y3 ((fun y0 y1 y2 => (g9_5 S33 y0 y1 y2 (fun y0 y1 y2 => (g9_7 y0 y1 y2 k0)))) y0 y1 y2) (k1 y0 y1 y2)))
theorem t9_8 (S33) (h33 : (ctr33 S33).holds cl) (x0 x1 x2) : exec cl N c9_8 (e4 x0 x1 x2) K = (g9_8 S33 x0 x1 x2 (fun y0 y1 y2 => K .normal (e4 y0 y1 y2)) (fun y0 y1 y2 => K (.exit 0) (e4 y0 y1 y2))) := by
  simp only [c9_8, exec_seq, seqK_normal, seqK_exit, seqK_ret, t9_3, c9_4, exec_out, exec_cond', hb9_0, Option.bind_some, brB_true, brB_false, exec_skip, exec_exit, kp9_1, c9_6, exec_block, t9_5 S33 h33, blockK_normal, blockK_ret, blockK_eq, kp9_0, t9_7]
  rfl
def l9_9 {R : Type} (S33 : V7 → Int → Option (Int)) (k0 : V26 → Int → Int → Option R) : Nat → V26 → Int → Int → Option R
  | 0, _, _, _ => none
  | m + 1, x0, x1, x2 => (g9_8 S33 x0 x1 x2 (fun y0 y1 y2 => l9_9 S33 k0 m y0 y1 y2) k0)
theorem lt9_9 (S33) (h33 : (ctr33 S33).holds cl) : ∀ (m) (x0 x1 x2), iter [1, 3, 4] (fun env K => exec cl N c9_8 env K) K m (e4 x0 x1 x2) = l9_9 S33 (fun y0 y1 y2 => K (.exit 0) (e4 y0 y1 y2)) m x0 x1 x2 := by
  intro m
  induction m with
  | zero => intros; rfl
  | succ m ih =>
    intro x0 x1 x2
    simp only [iter_succ, t9_8 S33 h33, loopK_normal, loopK_exit, loopK_ret, kp9_0, ih]
    rfl
theorem kp9_2 (x0 x1 x2) : keep [1, 3] (e4 x0 x1 x2) = (e3 x0 x1) := by kernel_rfl
def g9_9 (N : Nat) (S33 : V7 → Int → Option (Int)) (x0 : V26) (x1 x2 : Int) (k0 : V26 → Int → Option R) : Option R :=
l9_9 S33 (fun y0 y1 y2 => k0 y0 y1) N x0 x1 x2
theorem t9_9 (S33) (h33 : (ctr33 S33).holds cl) (x0 x1 x2) : exec cl N c9_9 (e4 x0 x1 x2) K = (g9_9 N S33 x0 x1 x2 (fun y0 y1 => K (.exit 0) (e3 y0 y1))) := by
  simp only [c9_9, exec_out, exec_loop, kp9_0, lt9_9 S33 h33, kp9_2]
  rfl
theorem kp9_3 (x0 x1) : keep [1, 3] (e3 x0 x1) = (e3 x0 x1) := by kernel_rfl
def g9_11 (x0 : V26) (x1 : Int) (k0 : Bool → Option R) : Option R :=
brB (decide ((x0.2.1.length : Int) ≤ (40 : Int))) (k0 (decide (x1 ≤ (1500 : Int)))) (k0 false)
theorem t9_11 (x0 x1) : exec cl N c9_11 (e3 x0 x1) K = (g9_11 x0 x1 (fun y0 => K .normal [(2, .v .bool y0)])) := by
  kernel_rfl
def g9_12 (N : Nat) (S33 : V7 → Int → Option (Int)) (x0 : V26) (k0 : Bool → Option R) : Option R :=
(g9_0 x0 (fun y0 => (g9_1 y0 (fun y0 y1 => (g9_2 y0 y1 (fun y0 y1 y2 => (g9_9 N S33 y0 y1 y2 (fun y0 y1 => ((fun y0 y1 => (g9_11 y0 y1 (fun y0 => (k0 y0)))) y0 y1)))))))))
theorem t9_12 (S33) (h33 : (ctr33 S33).holds cl) (x0) : exec cl N c9_12 [(0, .v U28 x0)] K = (g9_12 N S33 x0 (fun y0 => K .ret [(2, .v .bool y0)])) := by
  simp only [c9_12, exec_seq, seqK_normal, seqK_exit, seqK_ret, t9_0, t9_1, t9_2, c9_10, exec_out, exec_block, t9_9 S33 h33, blockK_normal, blockK_ret, blockK_eq, kp9_3, t9_11, exec_ret]
  rfl
theorem rk9_0 (y0) : retK d9 .ret [(2, .v .bool y0)] = some [.v .bool y0] := by kernel_rfl
def g9 (N : Nat) (S33 : V7 → Int → Option (Int)) (x0 : V26) (k : Bool → Option R) : Option R :=
(g9_12 N S33 x0 (fun y0 => k y0))
theorem gen9 {N : Nat} {cl : Cal} (S33 : V7 → Int → Option (Int)) (h33 : (ctr33 S33).holds cl) (x0 : V26) {R : Type} (k : List E → Option R) : exec cl N c9 (params 0 [.v U28 x0]) (fun e env => (retK d9 e env).bind k) = g9 N S33 x0 (fun (r0 : Bool) => k [.v .bool r0]) := by
  have e0 : params 0 [.v U28 x0] = [(0, .v U28 x0)] := by kernel_rfl
  simp only [c9, e0, t9_12 S33 h33, rk9_0, Option.bind_some]
  rfl
def ctr9 (S : V26 → Option (Bool)) : Ctr := { A := V26 × Unit, B := Bool, f := 9, enc := fun a => [.v U28 a.1], dec := (decC (decV U28) dec0), S := fun a => S a.1, ent := fun b => [.v .bool b], ok := (decV_cons (T := U28) (fun es b h => dec0_some h)) }
def S9 (N : Nat) (x0 : V26) : Option (Bool) := g9 N (S33 N) x0 (fun (r0 : Bool) => some (r0))
def g34_0 (x0 : Int) (k0 : Int → V17 → Option R) : Option R :=
k0 x0 ((0 : Int), ((0 : Int), ([], ())))
theorem t34_0 (x0) : exec cl N c34_0 [(0, .v U1 x0)] K = (g34_0 x0 (fun y0 y1 => K .normal [(0, .v U1 y0), (2, .loc U18 .no y1)])) := by
  kernel_rfl
def g34_1 (x0 : Int) (x1 : V17) (k0 : Int → V17 → V19 → Option R) : Option R :=
k0 x0 x1 [((1 : Int), (3 : Int), ([97] : List UInt8), ()), ((1 : Int), (1 : Int), ([101] : List UInt8), ()), ((1 : Int), (2 : Int), ([111] : List UInt8), ()), ((1 : Int), (3 : Int), ([105] : List UInt8), ()), ((2 : Int), (2 : Int), ([97, 101] : List UInt8), ()), ((3 : Int), (0 : Int), ([116] : List UInt8), ()), ((3 : Int), (0 : Int), ([98] : List UInt8), ()), ((4 : Int), (0 : Int), ([114] : List UInt8), ()), ((4 : Int), (0 : Int), ([108] : List UInt8), ()), ((5 : Int), (0 : Int), ([109] : List UInt8), ()), ((5 : Int), (0 : Int), ([110] : List UInt8), ()), ((6 : Int), (0 : Int), ([115] : List UInt8), ()), ((7 : Int), (0 : Int), ([120] : List UInt8), ()), ((8 : Int), (0 : Int), ([118] : List UInt8), ()), ((9 : Int), (0 : Int), ([104] : List UInt8), ()), ((1 : Int), (3 : Int), ([117] : List UInt8), ())]
theorem t34_1 (x0 x1) : exec cl N c34_1 [(0, .v U1 x0), (2, .loc U18 .no x1)] K = (g34_1 x0 x1 (fun y0 y1 y2 => K .normal [(0, .v U1 y0), (2, .loc U18 .no y1), (3, .own true 55 U18 .no y2)])) := by
  kernel_rfl
def g34_2 (x0 : Int) (x1 : V17) (x2 : V19) (k0 : V17 → Option R) : Option R :=
if (x2.length : Int) = 0 then none else
let v71 : Int := (Int.tmod (IntKind.i64.wrap x0) (x2.length : Int))
if 0 ≤ v71 ∧ v71 < (x2.length : Int) then
if v71.toNat < x2.length then
k0 (x2.getD v71.toNat ((0 : Int), ((0 : Int), ([], ()))))
else none
else none
theorem t34_2 (x0 x1 x2) : exec cl N c34_2 [(0, .v U1 x0), (2, .loc U18 .no x1), (3, .own true 55 U18 .no x2)] K = (g34_2 x0 x1 x2 (fun y0 => K .normal [(2, .loc U18 .no y0)])) := by
  kernel_rfl
def g34_3 (x0 : Int) (k0 : V17 → Option R) : Option R :=
(g34_0 x0 (fun y0 y1 => (g34_1 y0 y1 (fun y0 y1 y2 => (g34_2 y0 y1 y2 (fun y0 => (k0 y0)))))))
theorem t34_3 (x0) : exec cl N c34_3 [(0, .v U1 x0)] K = (g34_3 x0 (fun y0 => K .ret [(2, .loc U18 .no y0)])) := by
  simp only [c34_3, exec_seq, seqK_normal, seqK_exit, seqK_ret, t34_0, t34_1, t34_2, exec_ret]
  rfl
theorem rk34_0 (y0) : retK d34 .ret [(2, .loc U18 .no y0)] = some [.v U18 y0] := by kernel_rfl
def g34 (x0 : Int) (k : V17 → Option R) : Option R :=
(g34_3 x0 (fun y0 => k y0))
theorem gen34 {N : Nat} {cl : Cal} (x0 : Int) {R : Type} (k : List E → Option R) : exec cl N c34 (params 0 [.v U1 x0]) (fun e env => (retK d34 e env).bind k) = g34 x0 (fun (r0 : V17) => k [.v U18 r0]) := by
  have e0 : params 0 [.v U1 x0] = [(0, .v U1 x0)] := by kernel_rfl
  simp only [c34, e0, t34_3, rk34_0, Option.bind_some]
  rfl
def ctr34 (S : Int → Option V18) : Ctr := { A := Int × Unit, B := V17, f := 34, enc := fun a => [.v U1 a.1], dec := (decC (decV U1) dec0), S := fun a => S a.1, ent := fun b => [.v U18 b], ok := (decV_cons (T := U1) (fun es b h => dec0_some h)) }
def S34 (N : Nat) (x0 : Int) : Option V18 := g34 x0 (fun (r0 : V17) => some (r0))
def g10_0 (x0 : V0) (k0 : V0 → Option R) : Option R :=
k0 x0
theorem t10_0 (x0) : exec cl N c10_0 [(0, .v U4 x0)] K = (g10_0 x0 (fun y0 => K .normal [(0, .v U4 y0)])) := by
  kernel_rfl
def g10_1 (x0 : V0) (k0 : V0 → V19 → Option R) : Option R :=
k0 x0 []
theorem t10_1 (x0) : exec cl N c10_1 [(0, .v U4 x0)] K = (g10_1 x0 (fun y0 y1 => K .normal [(0, .v U4 y0), (3, .own true 55 U18 .no y1)])) := by
  kernel_rfl
def g10_2 (x0 : V0) (x1 : V19) (k0 : V0 → V19 → Int → Option R) : Option R :=
k0 x0 x1 (0 : Int)
theorem t10_2 (x0 x1) : exec cl N c10_2 [(0, .v U4 x0), (3, .own true 55 U18 .no x1)] K = (g10_2 x0 x1 (fun y0 y1 y2 => K .normal (e6 y0 y1 y2))) := by
  kernel_rfl
theorem kp10_0 (x0 x1 x2) : keep [0, 3, 4] (e6 x0 x1 x2) = (e6 x0 x1 x2) := by kernel_rfl
def g10_3 (x0 : V0) (x1 : V19) (x2 : Int) (k0 : V0 → V19 → Int → Bool → Option R) : Option R :=
k0 x0 x1 x2 (decide (x2 < (x0.length : Int)))
theorem t10_3 (x0 x1 x2) : exec cl N c10_3 (e6 x0 x1 x2) K = (g10_3 x0 x1 x2 (fun y0 y1 y2 y3 => K .normal (e7 y0 y1 y2 y3))) := by
  kernel_rfl
theorem kp10_1 (x0 x1 x2 x3) : keep [0, 3, 4] (e7 x0 x1 x2 x3) = (e6 x0 x1 x2) := by kernel_rfl
theorem hb10_0 (x0 x1 x2 x3) : boolOf? (ent (e7 x0 x1 x2 x3) (.t 8)) = some x3 := by kernel_rfl
def g10_5 (S34 : Int → Option V18) (x0 : V0) (x1 : V19) (x2 : Int) (k0 : V0 → V19 → Int → Option R) : Option R :=
if 0 ≤ x2 ∧ x2 < (x0.length : Int) then
(S34 (x0.getD x2.toNat (0 : Int))).bind fun r76 =>
if x1.length + [r76].length ≤ 4398046511104 then
k0 x0 (x1 ++ [r76]) x2
else none
else none
theorem t10_5 (S34) (h34 : (ctr34 S34).holds cl) (x0 x1 x2) : exec cl N c10_5 (e6 x0 x1 x2) K = (g10_5 S34 x0 x1 x2 (fun y0 y1 y2 => K .normal (e6 y0 y1 y2))) := by
  rw [← put_eq h34]
  kernel_rfl
def g10_7 (x0 : V0) (x1 : V19) (x2 : Int) (k0 : V0 → V19 → Int → Option R) : Option R :=
k0 x0 x1 (IntKind.i64.wrap (x2 + (1 : Int)))
theorem t10_7 (x0 x1 x2) : exec cl N c10_7 (e6 x0 x1 x2) K = (g10_7 x0 x1 x2 (fun y0 y1 y2 => K .normal (e6 y0 y1 y2))) := by
  kernel_rfl
def g10_8 (S34 : Int → Option V18) (x0 : V0) (x1 : V19) (x2 : Int) (k0 : V0 → V19 → Int → Option R) (k1 : V0 → V19 → Int → Option R) : Option R :=
(g10_3 x0 x1 x2 (fun y0 y1 y2 y3 => brB y3 ((fun y0 y1 y2 => (g10_5 S34 y0 y1 y2 (fun y0 y1 y2 => (g10_7 y0 y1 y2 k0)))) y0 y1 y2) (k1 y0 y1 y2)))
theorem t10_8 (S34) (h34 : (ctr34 S34).holds cl) (x0 x1 x2) : exec cl N c10_8 (e6 x0 x1 x2) K = (g10_8 S34 x0 x1 x2 (fun y0 y1 y2 => K .normal (e6 y0 y1 y2)) (fun y0 y1 y2 => K (.exit 0) (e6 y0 y1 y2))) := by
  simp only [c10_8, exec_seq, seqK_normal, seqK_exit, seqK_ret, t10_3, c10_4, exec_out, exec_cond', hb10_0, Option.bind_some, brB_true, brB_false, exec_skip, exec_exit, kp10_1, c10_6, exec_block, t10_5 S34 h34, blockK_normal, blockK_ret, blockK_eq, kp10_0, t10_7]
  rfl
def l10_9 {R : Type} (S34 : Int → Option V18) (k0 : V0 → V19 → Int → Option R) : Nat → V0 → V19 → Int → Option R
  | 0, _, _, _ => none
  | m + 1, x0, x1, x2 => (g10_8 S34 x0 x1 x2 (fun y0 y1 y2 => l10_9 S34 k0 m y0 y1 y2) k0)
theorem lt10_9 (S34) (h34 : (ctr34 S34).holds cl) : ∀ (m) (x0 x1 x2), iter [0, 3, 4] (fun env K => exec cl N c10_8 env K) K m (e6 x0 x1 x2) = l10_9 S34 (fun y0 y1 y2 => K (.exit 0) (e6 y0 y1 y2)) m x0 x1 x2 := by
  intro m
  induction m with
  | zero => intros; rfl
  | succ m ih =>
    intro x0 x1 x2
    simp only [iter_succ, t10_8 S34 h34, loopK_normal, loopK_exit, loopK_ret, kp10_0, ih]
    rfl
theorem kp10_2 (x0 x1 x2) : keep [3] (e6 x0 x1 x2) = (e8 x1) := by kernel_rfl
def g10_9 (N : Nat) (S34 : Int → Option V18) (x0 : V0) (x1 : V19) (x2 : Int) (k0 : V19 → Option R) : Option R :=
l10_9 S34 (fun y0 y1 y2 => k0 y1) N x0 x1 x2
theorem t10_9 (S34) (h34 : (ctr34 S34).holds cl) (x0 x1 x2) : exec cl N c10_9 (e6 x0 x1 x2) K = (g10_9 N S34 x0 x1 x2 (fun y0 => K (.exit 0) (e8 y0))) := by
  simp only [c10_9, exec_out, exec_loop, kp10_0, lt10_9 S34 h34, kp10_2]
  rfl
theorem kp10_3 (x0) : keep [3] (e8 x0) = (e8 x0) := by kernel_rfl
def g10_11 (x0 : V19) (k0 : V19 → Option R) : Option R :=
k0 x0
theorem t10_11 (x0) : exec cl N c10_11 (e8 x0) K = (g10_11 x0 (fun y0 => K .normal (e9 y0))) := by
  kernel_rfl
def g10_12 (N : Nat) (S34 : Int → Option V18) (x0 : V0) (k0 : V19 → Option R) : Option R :=
(g10_0 x0 (fun y0 => (g10_1 y0 (fun y0 y1 => (g10_2 y0 y1 (fun y0 y1 y2 => (g10_9 N S34 y0 y1 y2 (fun y0 => ((fun y0 => (g10_11 y0 (fun y0 => (k0 y0)))) y0)))))))))
theorem t10_12 (S34) (h34 : (ctr34 S34).holds cl) (x0) : exec cl N c10_12 [(0, .v U4 x0)] K = (g10_12 N S34 x0 (fun y0 => K .ret (e9 y0))) := by
  simp only [c10_12, exec_seq, seqK_normal, seqK_exit, seqK_ret, t10_0, t10_1, t10_2, c10_10, exec_out, exec_block, t10_9 S34 h34, blockK_normal, blockK_ret, blockK_eq, kp10_3, t10_11, exec_ret]
  rfl
theorem rk10_0 (y0) : retK d10 .ret (e9 y0) = some [.own true 55 U18 .no y0] := by kernel_rfl
def g10 (N : Nat) (S34 : Int → Option V18) (x0 : V0) (k : V19 → Option R) : Option R :=
(g10_12 N S34 x0 (fun y0 => k y0))
theorem gen10 {N : Nat} {cl : Cal} (S34 : Int → Option V18) (h34 : (ctr34 S34).holds cl) (x0 : V0) {R : Type} (k : List E → Option R) : exec cl N c10 (params 0 [.v U4 x0]) (fun e env => (retK d10 e env).bind k) = g10 N S34 x0 (fun (r0 : V19) => k [.own true 55 U18 .no r0]) := by
  have e0 : params 0 [.v U4 x0] = [(0, .v U4 x0)] := by kernel_rfl
  simp only [c10, e0, t10_12 S34 h34, rk10_0, Option.bind_some]
  rfl
def ctr10 (S : V0 → Option V22) : Ctr := { A := V0 × Unit, B := V19, f := 10, enc := fun a => [.v U4 a.1], dec := (decC (decV U4) dec0), S := fun a => S a.1, ent := fun b => [.own true 55 U18 .no b], ok := (decV_cons (T := U4) (fun es b h => dec0_some h)) }
def S10 (N : Nat) (x0 : V0) : Option V22 := g10 N (S34 N) x0 (fun (r0 : V19) => some (r0))
def g76_0 (x0 : Int) (k0 : Int → Option R) : Option R :=
k0 x0
theorem t76_0 (x0) : exec cl N c76_0 [(0, .v U1 x0)] K = (g76_0 x0 (fun y0 => K .normal [(0, .v U1 y0)])) := by
  kernel_rfl
def g76_1 (x0 : Int) (k0 : Bool → Option R) : Option R :=
brB (decide (x0 ≥ (97 : Int))) (k0 (decide (x0 ≤ (122 : Int)))) (k0 false)
theorem t76_1 (x0) : exec cl N c76_1 [(0, .v U1 x0)] K = (g76_1 x0 (fun y0 => K .normal [(2, .v .bool y0)])) := by
  kernel_rfl
def g76_2 (x0 : Int) (k0 : Bool → Option R) : Option R :=
(g76_0 x0 (fun y0 => (g76_1 y0 (fun y0 => (k0 y0)))))
theorem t76_2 (x0) : exec cl N c76_2 [(0, .v U1 x0)] K = (g76_2 x0 (fun y0 => K .ret [(2, .v .bool y0)])) := by
  simp only [c76_2, exec_seq, seqK_normal, seqK_exit, seqK_ret, t76_0, t76_1, exec_ret]
  rfl
theorem rk76_0 (y0) : retK d76 .ret [(2, .v .bool y0)] = some [.v .bool y0] := by kernel_rfl
def g76 (x0 : Int) (k : Bool → Option R) : Option R :=
(g76_2 x0 (fun y0 => k y0))
theorem gen76 {N : Nat} {cl : Cal} (x0 : Int) {R : Type} (k : List E → Option R) : exec cl N c76 (params 0 [.v U1 x0]) (fun e env => (retK d76 e env).bind k) = g76 x0 (fun (r0 : Bool) => k [.v .bool r0]) := by
  have e0 : params 0 [.v U1 x0] = [(0, .v U1 x0)] := by kernel_rfl
  simp only [c76, e0, t76_2, rk76_0, Option.bind_some]
  rfl
def ctr76 (S : Int → Option (Bool)) : Ctr := { A := Int × Unit, B := Bool, f := 76, enc := fun a => [.v U1 a.1], dec := (decC (decV U1) dec0), S := fun a => S a.1, ent := fun b => [.v .bool b], ok := (decV_cons (T := U1) (fun es b h => dec0_some h)) }
def S76 (N : Nat) (x0 : Int) : Option (Bool) := g76 x0 (fun (r0 : Bool) => some (r0))
def g77_0 (x0 : Int) (k0 : Int → Option R) : Option R :=
k0 x0
theorem t77_0 (x0) : exec cl N c77_0 [(0, .v U1 x0)] K = (g77_0 x0 (fun y0 => K .normal [(0, .v U1 y0)])) := by
  kernel_rfl
def g77_1 (x0 : Int) (k0 : Bool → Option R) : Option R :=
brB (decide (x0 ≥ (48 : Int))) (k0 (decide (x0 ≤ (57 : Int)))) (k0 false)
theorem t77_1 (x0) : exec cl N c77_1 [(0, .v U1 x0)] K = (g77_1 x0 (fun y0 => K .normal [(2, .v .bool y0)])) := by
  kernel_rfl
def g77_2 (x0 : Int) (k0 : Bool → Option R) : Option R :=
(g77_0 x0 (fun y0 => (g77_1 y0 (fun y0 => (k0 y0)))))
theorem t77_2 (x0) : exec cl N c77_2 [(0, .v U1 x0)] K = (g77_2 x0 (fun y0 => K .ret [(2, .v .bool y0)])) := by
  simp only [c77_2, exec_seq, seqK_normal, seqK_exit, seqK_ret, t77_0, t77_1, exec_ret]
  rfl
theorem rk77_0 (y0) : retK d77 .ret [(2, .v .bool y0)] = some [.v .bool y0] := by kernel_rfl
def g77 (x0 : Int) (k : Bool → Option R) : Option R :=
(g77_2 x0 (fun y0 => k y0))
theorem gen77 {N : Nat} {cl : Cal} (x0 : Int) {R : Type} (k : List E → Option R) : exec cl N c77 (params 0 [.v U1 x0]) (fun e env => (retK d77 e env).bind k) = g77 x0 (fun (r0 : Bool) => k [.v .bool r0]) := by
  have e0 : params 0 [.v U1 x0] = [(0, .v U1 x0)] := by kernel_rfl
  simp only [c77, e0, t77_2, rk77_0, Option.bind_some]
  rfl
def ctr77 (S : Int → Option (Bool)) : Ctr := { A := Int × Unit, B := Bool, f := 77, enc := fun a => [.v U1 a.1], dec := (decC (decV U1) dec0), S := fun a => S a.1, ent := fun b => [.v .bool b], ok := (decV_cons (T := U1) (fun es b h => dec0_some h)) }
def S77 (N : Nat) (x0 : Int) : Option (Bool) := g77 x0 (fun (r0 : Bool) => some (r0))
def g58_0 (x0 : V1) (k0 : V1 → Option R) : Option R :=
k0 x0
theorem t58_0 (x0) : exec cl N c58_0 [(0, .v .str x0)] K = (g58_0 x0 (fun y0 => K .normal [(0, .v .str y0)])) := by
  kernel_rfl
def g58_1 (S76 : Int → Option (Bool)) (x0 : V1) (k0 : V1 → Bool → Option R) : Option R :=
brB (x0 == ([] : List UInt8)) (k0 x0 true) (if 0 ≤ (0 : Int) ∧ (0 : Int) < (x0.length : Int) then
(S76 ((x0.getD (0 : Int).toNat 0).toNat : Int)).bind fun r113 =>
k0 x0 (!r113)
else none)
theorem t58_1 (S76) (h76 : (ctr76 S76).holds cl) (x0) : exec cl N c58_1 [(0, .v .str x0)] K = (g58_1 S76 x0 (fun y0 y1 => K .normal (e10 y0 y1))) := by
  rw [← put_eq h76]
  kernel_rfl
def g58_2 (x0 : V1) (x1 : Bool) (k0 : Int → Option R) : Option R :=
k0 (0 : Int)
theorem t58_2 (x0 x1) : exec cl N c58_2 (e10 x0 x1) K = (g58_2 x0 x1 (fun y0 => K .normal [(2, .v U2 y0)])) := by
  kernel_rfl
theorem kp58_0 (x0) : keep [0, 2] [(2, .v U2 x0)] = (e11 x0) := by kernel_rfl
theorem kp58_1 (x0 x1) : keep [0, 2] (e10 x0 x1) = (e12 x0) := by kernel_rfl
theorem hb58_0 (x0 x1) : boolOf? (ent (e10 x0 x1) (.t 11)) = some x1 := by kernel_rfl
def g58_4 (x0 : V1) (k0 : V1 → Int → Option R) : Option R :=
k0 x0 (1 : Int)
theorem t58_4 (x0) : exec cl N c58_4 (e12 x0) K = (g58_4 x0 (fun y0 y1 => K .normal (e13 y0 y1))) := by
  kernel_rfl
theorem kp58_2 (x0 x1) : keep [0, 3] (e13 x0 x1) = (e13 x0 x1) := by kernel_rfl
def g58_5 (x0 : V1) (x1 : Int) (k0 : V1 → Int → Bool → Option R) : Option R :=
k0 x0 x1 (decide (x1 < (x0.length : Int)))
theorem t58_5 (x0 x1) : exec cl N c58_5 (e13 x0 x1) K = (g58_5 x0 x1 (fun y0 y1 y2 => K .normal (e14 y0 y1 y2))) := by
  kernel_rfl
theorem kp58_3 (x0 x1 x2) : keep [0, 3] (e14 x0 x1 x2) = (e13 x0 x1) := by kernel_rfl
theorem hb58_1 (x0 x1 x2) : boolOf? (ent (e14 x0 x1 x2) (.t 15)) = some x2 := by kernel_rfl
def g58_7 (S76 : Int → Option (Bool)) (S77 : Int → Option (Bool)) (x0 : V1) (x1 : Int) (k0 : V1 → Int → Bool → Option R) : Option R :=
if 0 ≤ x1 ∧ x1 < (x0.length : Int) then
(S76 ((x0.getD x1.toNat 0).toNat : Int)).bind fun r116 =>
brB r116 (k0 x0 x1 true) (if 0 ≤ x1 ∧ x1 < (x0.length : Int) then
(S77 ((x0.getD x1.toNat 0).toNat : Int)).bind fun r118 =>
k0 x0 x1 r118
else none)
else none
theorem t58_7 (S76) (S77) (h76 : (ctr76 S76).holds cl) (h77 : (ctr77 S77).holds cl) (x0 x1) : exec cl N c58_7 (e13 x0 x1) K = (g58_7 S76 S77 x0 x1 (fun y0 y1 y2 => K .normal (e15 y0 y1 y2))) := by
  rw [← put_eq h76]
  rw [← put_eq h77]
  kernel_rfl
def g58_8 (x0 : V1) (x1 : Int) (x2 : Bool) (k0 : V1 → Int → Option R) : Option R :=
k0 x0 (IntKind.i64.wrap (x1 + (1 : Int)))
theorem t58_8 (x0 x1 x2) : exec cl N c58_8 (e15 x0 x1 x2) K = (g58_8 x0 x1 x2 (fun y0 y1 => K .normal (e13 y0 y1))) := by
  kernel_rfl
theorem kp58_4 (x0 x1 x2) : keep [0, 3] (e15 x0 x1 x2) = (e13 x0 x1) := by kernel_rfl
theorem hb58_2 (x0 x1 x2) : boolOf? (ent (e15 x0 x1 x2) (.t 25)) = some x2 := by kernel_rfl
def g58_10 (S76 : Int → Option (Bool)) (S77 : Int → Option (Bool)) (x0 : V1) (x1 : Int) (k0 : V1 → Int → Bool → Option R) : Option R :=
if 0 ≤ x1 ∧ x1 < (x0.length : Int) then
brB (((x0.getD x1.toNat 0).toNat : Int) != (45 : Int)) (k0 x0 x1 true) (brB ((IntKind.i64.wrap (x1 + (1 : Int))) == (x0.length : Int)) (k0 x0 x1 true) (let v124 : Int := (IntKind.i64.wrap (x1 + (1 : Int)))
if 0 ≤ v124 ∧ v124 < (x0.length : Int) then
(S76 ((x0.getD v124.toNat 0).toNat : Int)).bind fun r126 =>
brB (!r126) (let v127 : Int := (IntKind.i64.wrap (x1 + (1 : Int)))
if 0 ≤ v127 ∧ v127 < (x0.length : Int) then
(S77 ((x0.getD v127.toNat 0).toNat : Int)).bind fun r129 =>
k0 x0 x1 (!r129)
else none) (k0 x0 x1 false)
else none))
else none
theorem t58_10 (S76) (S77) (h76 : (ctr76 S76).holds cl) (h77 : (ctr77 S77).holds cl) (x0 x1) : exec cl N c58_10 (e13 x0 x1) K = (g58_10 S76 S77 x0 x1 (fun y0 y1 y2 => K .normal (e16 y0 y1 y2))) := by
  rw [← put_eq h76]
  rw [← put_eq h77]
  kernel_rfl
theorem kp58_5 (x0 x1 x2) : keep [0, 3] (e16 x0 x1 x2) = (e13 x0 x1) := by kernel_rfl
theorem hb58_3 (x0 x1 x2) : boolOf? (ent (e16 x0 x1 x2) (.t 54)) = some x2 := by kernel_rfl
def g58_12 (x0 : V1) (x1 : Int) (k0 : V1 → Int → Option R) : Option R :=
k0 x0 (IntKind.i64.wrap (x1 + (2 : Int)))
theorem t58_12 (x0 x1) : exec cl N c58_12 (e13 x0 x1) K = (g58_12 x0 x1 (fun y0 y1 => K .normal (e13 y0 y1))) := by
  kernel_rfl
def g58_14 (S76 : Int → Option (Bool)) (S77 : Int → Option (Bool)) (x0 : V1) (x1 : Int) (k0 : V1 → Int → Option R) (k1 : V1 → Int → Option R) : Option R :=
(g58_5 x0 x1 (fun y0 y1 y2 => brB y2 ((fun y0 y1 => (g58_7 S76 S77 y0 y1 (fun y0 y1 y2 => brB y2 (g58_8 y0 y1 y2 (fun y0 y1 => ((fun y0 y1 => (k0 y0 y1)) y0 y1))) ((fun y0 y1 => (g58_10 S76 S77 y0 y1 (fun y0 y1 y2 => brB y2 (k1 y0 y1) ((fun y0 y1 => (g58_12 y0 y1 (fun y0 y1 => (k0 y0 y1)))) y0 y1)))) y0 y1)))) y0 y1) (k1 y0 y1)))
theorem t58_14 (S76) (S77) (h76 : (ctr76 S76).holds cl) (h77 : (ctr77 S77).holds cl) (x0 x1) : exec cl N c58_14 (e13 x0 x1) K = (g58_14 S76 S77 x0 x1 (fun y0 y1 => K .normal (e13 y0 y1)) (fun y0 y1 => K (.exit 0) (e13 y0 y1))) := by
  simp only [c58_14, exec_seq, seqK_normal, seqK_exit, seqK_ret, t58_5, c58_6, exec_out, exec_cond', hb58_1, Option.bind_some, brB_true, brB_false, exec_skip, exec_exit, kp58_3, c58_13, exec_block, t58_7 S76 S77 h76 h77, c58_9, hb58_2, t58_8, kp58_2, kp58_4, t58_10 S76 S77 h76 h77, c58_11, hb58_3, kp58_5, t58_12, blockK_normal, blockK_ret, blockK_eq, blockK_ne 1 0 rfl]
  rfl
def l58_15 {R : Type} (S76 : Int → Option (Bool)) (S77 : Int → Option (Bool)) (k0 : V1 → Int → Option R) : Nat → V1 → Int → Option R
  | 0, _, _ => none
  | m + 1, x0, x1 => (g58_14 S76 S77 x0 x1 (fun y0 y1 => l58_15 S76 S77 k0 m y0 y1) k0)
theorem lt58_15 (S76) (S77) (h76 : (ctr76 S76).holds cl) (h77 : (ctr77 S77).holds cl) : ∀ (m) (x0 x1), iter [0, 3] (fun env K => exec cl N c58_14 env K) K m (e13 x0 x1) = l58_15 S76 S77 (fun y0 y1 => K (.exit 0) (e13 y0 y1)) m x0 x1 := by
  intro m
  induction m with
  | zero => intros; rfl
  | succ m ih =>
    intro x0 x1
    simp only [iter_succ, t58_14 S76 S77 h76 h77, loopK_normal, loopK_exit, loopK_ret, kp58_2, ih]
    rfl
theorem kp58_6 (x0 x1) : keep [3] (e13 x0 x1) = [(3, .v U2 x1)] := by kernel_rfl
def g58_15 (N : Nat) (S76 : Int → Option (Bool)) (S77 : Int → Option (Bool)) (x0 : V1) (x1 : Int) (k0 : Int → Option R) : Option R :=
l58_15 S76 S77 (fun y0 y1 => k0 y1) N x0 x1
theorem t58_15 (S76) (S77) (h76 : (ctr76 S76).holds cl) (h77 : (ctr77 S77).holds cl) (x0 x1) : exec cl N c58_15 (e13 x0 x1) K = (g58_15 N S76 S77 x0 x1 (fun y0 => K (.exit 0) [(3, .v U2 y0)])) := by
  simp only [c58_15, exec_out, exec_loop, kp58_2, lt58_15 S76 S77 h76 h77, kp58_6]
  rfl
theorem kp58_7 (x0) : keep [3] [(3, .v U2 x0)] = [(3, .v U2 x0)] := by kernel_rfl
def g58_17 (x0 : Int) (k0 : Int → Option R) : Option R :=
k0 x0
theorem t58_17 (x0) : exec cl N c58_17 [(3, .v U2 x0)] K = (g58_17 x0 (fun y0 => K .normal [(2, .v U2 y0)])) := by
  kernel_rfl
def g58_18 (N : Nat) (S76 : Int → Option (Bool)) (S77 : Int → Option (Bool)) (x0 : V1) (k0 : Int → Option R) (k1 : Int → Option R) : Option R :=
(g58_0 x0 (fun y0 => (g58_1 S76 y0 (fun y0 y1 => brB y1 (g58_2 y0 y1 (fun y0 => ((fun y0 => (k0 y0)) y0))) ((fun y0 => (g58_4 y0 (fun y0 y1 => (g58_15 N S76 S77 y0 y1 (fun y0 => ((fun y0 => (g58_17 y0 (fun y0 => (k1 y0)))) y0)))))) y0)))))
theorem t58_18 (S76) (S77) (h76 : (ctr76 S76).holds cl) (h77 : (ctr77 S77).holds cl) (x0) : exec cl N c58_18 [(0, .v .str x0)] K = (g58_18 N S76 S77 x0 (fun y0 => K .ret (e11 y0)) (fun y0 => K .ret [(2, .v U2 y0)])) := by
  simp only [c58_18, exec_seq, seqK_normal, seqK_exit, seqK_ret, t58_0, t58_1 S76 h76, c58_3, exec_out, exec_cond', hb58_0, Option.bind_some, brB_true, brB_false, t58_2, exec_ret, exec_skip, kp58_0, kp58_1, t58_4, c58_16, exec_block, t58_15 S76 S77 h76 h77, blockK_normal, blockK_ret, blockK_eq, kp58_7, t58_17]
  rfl
theorem rk58_0 (y0) : retK d58 .ret (e11 y0) = some [.v U2 y0] := by kernel_rfl
theorem rk58_1 (y0) : retK d58 .ret [(2, .v U2 y0)] = some [.v U2 y0] := by kernel_rfl
def g58 (N : Nat) (S76 : Int → Option (Bool)) (S77 : Int → Option (Bool)) (x0 : V1) (k : Int → Option R) : Option R :=
(g58_18 N S76 S77 x0 (fun y0 => k y0) (fun y0 => k y0))
theorem gen58 {N : Nat} {cl : Cal} (S76 : Int → Option (Bool)) (S77 : Int → Option (Bool)) (h76 : (ctr76 S76).holds cl) (h77 : (ctr77 S77).holds cl) (x0 : V1) {R : Type} (k : List E → Option R) : exec cl N c58 (params 0 [.v .str x0]) (fun e env => (retK d58 e env).bind k) = g58 N S76 S77 x0 (fun (r0 : Int) => k [.v U2 r0]) := by
  have e0 : params 0 [.v .str x0] = [(0, .v .str x0)] := by kernel_rfl
  simp only [c58, e0, t58_18 S76 S77 h76 h77, rk58_0, rk58_1, Option.bind_some]
  rfl
def ctr58 (S : V1 → Option (Int)) : Ctr := { A := V1 × Unit, B := Int, f := 58, enc := fun a => [.v .str a.1], dec := (decC (decV .str) dec0), S := fun a => S a.1, ent := fun b => [.v U2 b], ok := (decV_cons (T := .str) (fun es b h => dec0_some h)) }
def S58 (N : Nat) (x0 : V1) : Option (Int) := g58 N (S76 N) (S77 N) x0 (fun (r0 : Int) => some (r0))
def g40_0 (x0 : V1) (k0 : V1 → Option R) : Option R :=
k0 x0
theorem t40_0 (x0) : exec cl N c40_0 [(0, .v .str x0)] K = (g40_0 x0 (fun y0 => K .normal [(0, .v .str y0)])) := by
  kernel_rfl
def g40_1 (S58 : V1 → Option (Int)) (x0 : V1) (k0 : Bool → Option R) : Option R :=
brB (x0 != ([] : List UInt8)) (brB (decide ((x0.length : Int) ≤ (20 : Int))) ((S58 x0).bind fun r135 =>
k0 (r135 == (x0.length : Int))) (k0 false)) (k0 false)
theorem t40_1 (S58) (h58 : (ctr58 S58).holds cl) (x0) : exec cl N c40_1 [(0, .v .str x0)] K = (g40_1 S58 x0 (fun y0 => K .normal [(2, .v .bool y0)])) := by
  rw [← put_eq h58]
  kernel_rfl
def g40_2 (S58 : V1 → Option (Int)) (x0 : V1) (k0 : Bool → Option R) : Option R :=
(g40_0 x0 (fun y0 => (g40_1 S58 y0 (fun y0 => (k0 y0)))))
theorem t40_2 (S58) (h58 : (ctr58 S58).holds cl) (x0) : exec cl N c40_2 [(0, .v .str x0)] K = (g40_2 S58 x0 (fun y0 => K .ret [(2, .v .bool y0)])) := by
  simp only [c40_2, exec_seq, seqK_normal, seqK_exit, seqK_ret, t40_0, t40_1 S58 h58, exec_ret]
  rfl
theorem rk40_0 (y0) : retK d40 .ret [(2, .v .bool y0)] = some [.v .bool y0] := by kernel_rfl
def g40 (S58 : V1 → Option (Int)) (x0 : V1) (k : Bool → Option R) : Option R :=
(g40_2 S58 x0 (fun y0 => k y0))
theorem gen40 {N : Nat} {cl : Cal} (S58 : V1 → Option (Int)) (h58 : (ctr58 S58).holds cl) (x0 : V1) {R : Type} (k : List E → Option R) : exec cl N c40 (params 0 [.v .str x0]) (fun e env => (retK d40 e env).bind k) = g40 S58 x0 (fun (r0 : Bool) => k [.v .bool r0]) := by
  have e0 : params 0 [.v .str x0] = [(0, .v .str x0)] := by kernel_rfl
  simp only [c40, e0, t40_2 S58 h58, rk40_0, Option.bind_some]
  rfl
def ctr40 (S : V1 → Option (Bool)) : Ctr := { A := V1 × Unit, B := Bool, f := 40, enc := fun a => [.v .str a.1], dec := (decC (decV .str) dec0), S := fun a => S a.1, ent := fun b => [.v .bool b], ok := (decV_cons (T := .str) (fun es b h => dec0_some h)) }
def S40 (N : Nat) (x0 : V1) : Option (Bool) := g40 (S58 N) x0 (fun (r0 : Bool) => some (r0))
def g78_0 (x0 : V1) (k0 : V1 → Option R) : Option R :=
k0 x0
theorem t78_0 (x0) : exec cl N c78_0 [(0, .v .str x0)] K = (g78_0 x0 (fun y0 => K .normal [(0, .v .str y0)])) := by
  kernel_rfl
def g78_1 (x0 : V1) (k0 : V1 → V0 → Option R) : Option R :=
if 0 ≤ (x0.length : Int) ∧ (x0.length : Int) ≤ (x0.length : Int) ∧ (x0.length : Int) ≤ ((140737488355328 : Nat) : Int) then
k0 x0 (List.replicate (x0.length : Int).toNat (0 : Int))
else none
theorem t78_1 (x0) : exec cl N c78_1 [(0, .v .str x0)] K = (g78_1 x0 (fun y0 y1 => K .normal [(0, .v .str y0), (3, .own true 5 U1 .no y1)])) := by
  kernel_rfl
def g78_2 (x0 : V1) (x1 : V0) (k0 : V1 → V0 → Int → Option R) : Option R :=
k0 x0 x1 (0 : Int)
theorem t78_2 (x0 x1) : exec cl N c78_2 [(0, .v .str x0), (3, .own true 5 U1 .no x1)] K = (g78_2 x0 x1 (fun y0 y1 y2 => K .normal (e17 y0 y1 y2))) := by
  kernel_rfl
theorem kp78_0 (x0 x1 x2) : keep [0, 3, 4] (e17 x0 x1 x2) = (e17 x0 x1 x2) := by kernel_rfl
def g78_3 (x0 : V1) (x1 : V0) (x2 : Int) (k0 : V1 → V0 → Int → Bool → Option R) : Option R :=
k0 x0 x1 x2 (decide (x2 < (x0.length : Int)))
theorem t78_3 (x0 x1 x2) : exec cl N c78_3 (e17 x0 x1 x2) K = (g78_3 x0 x1 x2 (fun y0 y1 y2 y3 => K .normal (e18 y0 y1 y2 y3))) := by
  kernel_rfl
theorem kp78_1 (x0 x1 x2 x3) : keep [0, 3, 4] (e18 x0 x1 x2 x3) = (e17 x0 x1 x2) := by kernel_rfl
theorem hb78_0 (x0 x1 x2 x3) : boolOf? (ent (e18 x0 x1 x2 x3) (.t 11)) = some x3 := by kernel_rfl
def g78_5 (x0 : V1) (x1 : V0) (x2 : Int) (k0 : V1 → V0 → Int → Option R) : Option R :=
if 0 ≤ x2 ∧ x2 < (x0.length : Int) then
if 0 ≤ x2 ∧ x2 < (x1.length : Int) then
if x2.toNat < x1.length then
k0 x0 (x1.set x2.toNat ((x0.getD x2.toNat 0).toNat : Int)) x2
else none
else none
else none
theorem t78_5 (x0 x1 x2) : exec cl N c78_5 (e17 x0 x1 x2) K = (g78_5 x0 x1 x2 (fun y0 y1 y2 => K .normal (e17 y0 y1 y2))) := by
  kernel_rfl
def g78_6 (x0 : V1) (x1 : V0) (x2 : Int) (k0 : V1 → V0 → Int → Bool → Option R) : Option R :=
if 0 ≤ x2 ∧ x2 < (x0.length : Int) then
brB (decide (((x0.getD x2.toNat 0).toNat : Int) ≥ (65 : Int))) (if 0 ≤ x2 ∧ x2 < (x0.length : Int) then
k0 x0 x1 x2 (decide (((x0.getD x2.toNat 0).toNat : Int) ≤ (90 : Int)))
else none) (k0 x0 x1 x2 false)
else none
theorem t78_6 (x0 x1 x2) : exec cl N c78_6 (e17 x0 x1 x2) K = (g78_6 x0 x1 x2 (fun y0 y1 y2 y3 => K .normal (e19 y0 y1 y2 y3))) := by
  kernel_rfl
def g78_7 (x0 : V1) (x1 : V0) (x2 : Int) (x3 : Bool) (k0 : V1 → V0 → Int → Option R) : Option R :=
if 0 ≤ x2 ∧ x2 < (x0.length : Int) then
if 0 ≤ x2 ∧ x2 < (x1.length : Int) then
if x2.toNat < x1.length then
k0 x0 (x1.set x2.toNat (IntKind.u8.wrap ((IntKind.u8.wrap (((x0.getD x2.toNat 0).toNat : Int) - (65 : Int))) + (97 : Int)))) x2
else none
else none
else none
theorem t78_7 (x0 x1 x2 x3) : exec cl N c78_7 (e19 x0 x1 x2 x3) K = (g78_7 x0 x1 x2 x3 (fun y0 y1 y2 => K .normal (e17 y0 y1 y2))) := by
  kernel_rfl
theorem kp78_2 (x0 x1 x2 x3) : keep [0, 3, 4] (e19 x0 x1 x2 x3) = (e17 x0 x1 x2) := by kernel_rfl
theorem hb78_1 (x0 x1 x2 x3) : boolOf? (ent (e19 x0 x1 x2 x3) (.t 29)) = some x3 := by kernel_rfl
def g78_9 (x0 : V1) (x1 : V0) (x2 : Int) (k0 : V1 → V0 → Int → Option R) : Option R :=
(g78_5 x0 x1 x2 (fun y0 y1 y2 => (g78_6 y0 y1 y2 (fun y0 y1 y2 y3 => brB y3 (g78_7 y0 y1 y2 y3 (fun y0 y1 y2 => (k0 y0 y1 y2))) (k0 y0 y1 y2)))))
theorem t78_9 (x0 x1 x2) : exec cl N c78_9 (e17 x0 x1 x2) K = (g78_9 x0 x1 x2 (fun y0 y1 y2 => K .normal (e17 y0 y1 y2))) := by
  simp only [c78_9, exec_out, exec_block, exec_seq, seqK_normal, seqK_exit, seqK_ret, t78_5, t78_6, c78_8, exec_cond', hb78_1, Option.bind_some, brB_true, brB_false, t78_7, exec_skip, kp78_0, kp78_2, blockK_normal, blockK_ret, blockK_eq]
  rfl
def g78_10 (x0 : V1) (x1 : V0) (x2 : Int) (k0 : V1 → V0 → Int → Option R) : Option R :=
k0 x0 x1 (IntKind.i64.wrap (x2 + (1 : Int)))
theorem t78_10 (x0 x1 x2) : exec cl N c78_10 (e17 x0 x1 x2) K = (g78_10 x0 x1 x2 (fun y0 y1 y2 => K .normal (e17 y0 y1 y2))) := by
  kernel_rfl
def g78_11 (x0 : V1) (x1 : V0) (x2 : Int) (k0 : V1 → V0 → Int → Option R) (k1 : V1 → V0 → Int → Option R) : Option R :=
(g78_3 x0 x1 x2 (fun y0 y1 y2 y3 => brB y3 ((fun y0 y1 y2 => (g78_9 y0 y1 y2 (fun y0 y1 y2 => (g78_10 y0 y1 y2 k0)))) y0 y1 y2) (k1 y0 y1 y2)))
theorem t78_11 (x0 x1 x2) : exec cl N c78_11 (e17 x0 x1 x2) K = (g78_11 x0 x1 x2 (fun y0 y1 y2 => K .normal (e17 y0 y1 y2)) (fun y0 y1 y2 => K (.exit 0) (e17 y0 y1 y2))) := by
  simp only [c78_11, exec_seq, seqK_normal, seqK_exit, seqK_ret, t78_3, c78_4, exec_out, exec_cond', hb78_0, Option.bind_some, brB_true, brB_false, exec_skip, exec_exit, kp78_1, t78_9, t78_10]
  rfl
def l78_12 {R : Type} (k0 : V1 → V0 → Int → Option R) : Nat → V1 → V0 → Int → Option R
  | 0, _, _, _ => none
  | m + 1, x0, x1, x2 => (g78_11 x0 x1 x2 (fun y0 y1 y2 => l78_12 k0 m y0 y1 y2) k0)
theorem lt78_12 : ∀ (m) (x0 x1 x2), iter [0, 3, 4] (fun env K => exec cl N c78_11 env K) K m (e17 x0 x1 x2) = l78_12 (fun y0 y1 y2 => K (.exit 0) (e17 y0 y1 y2)) m x0 x1 x2 := by
  intro m
  induction m with
  | zero => intros; rfl
  | succ m ih =>
    intro x0 x1 x2
    simp only [iter_succ, t78_11, loopK_normal, loopK_exit, loopK_ret, kp78_0, ih]
    rfl
theorem kp78_3 (x0 x1 x2) : keep [3] (e17 x0 x1 x2) = (e20 x1) := by kernel_rfl
def g78_12 (N : Nat) (x0 : V1) (x1 : V0) (x2 : Int) (k0 : V0 → Option R) : Option R :=
l78_12 (fun y0 y1 y2 => k0 y1) N x0 x1 x2
theorem t78_12 (x0 x1 x2) : exec cl N c78_12 (e17 x0 x1 x2) K = (g78_12 N x0 x1 x2 (fun y0 => K (.exit 0) (e20 y0))) := by
  simp only [c78_12, exec_out, exec_loop, kp78_0, lt78_12, kp78_3]
  rfl
theorem kp78_4 (x0) : keep [3] (e20 x0) = (e20 x0) := by kernel_rfl
def g78_14 (x0 : V0) (k0 : V1 → Option R) : Option R :=
k0 (x0.map fun n => UInt8.ofNat n.toNat)
theorem t78_14 (x0) : exec cl N c78_14 (e20 x0) K = (g78_14 x0 (fun y0 => K .normal [(2, .v .str y0)])) := by
  kernel_rfl
def g78_15 (N : Nat) (x0 : V1) (k0 : V1 → Option R) : Option R :=
(g78_0 x0 (fun y0 => (g78_1 y0 (fun y0 y1 => (g78_2 y0 y1 (fun y0 y1 y2 => (g78_12 N y0 y1 y2 (fun y0 => ((fun y0 => (g78_14 y0 (fun y0 => (k0 y0)))) y0)))))))))
theorem t78_15 (x0) : exec cl N c78_15 [(0, .v .str x0)] K = (g78_15 N x0 (fun y0 => K .ret [(2, .v .str y0)])) := by
  simp only [c78_15, exec_seq, seqK_normal, seqK_exit, seqK_ret, t78_0, t78_1, t78_2, c78_13, exec_out, exec_block, t78_12, blockK_normal, blockK_ret, blockK_eq, kp78_4, t78_14, exec_ret]
  rfl
theorem rk78_0 (y0) : retK d78 .ret [(2, .v .str y0)] = some [.v .str y0] := by kernel_rfl
def g78 (N : Nat) (x0 : V1) (k : V1 → Option R) : Option R :=
(g78_15 N x0 (fun y0 => k y0))
theorem gen78 {N : Nat} {cl : Cal} (x0 : V1) {R : Type} (k : List E → Option R) : exec cl N c78 (params 0 [.v .str x0]) (fun e env => (retK d78 e env).bind k) = g78 N x0 (fun (r0 : V1) => k [.v .str r0]) := by
  have e0 : params 0 [.v .str x0] = [(0, .v .str x0)] := by kernel_rfl
  simp only [c78, e0, t78_15, rk78_0, Option.bind_some]
  rfl
def ctr78 (S : V1 → Option V5) : Ctr := { A := V1 × Unit, B := V1, f := 78, enc := fun a => [.v .str a.1], dec := (decC (decV .str) dec0), S := fun a => S a.1, ent := fun b => [.v .str b], ok := (decV_cons (T := .str) (fun es b h => dec0_some h)) }
def S78 (N : Nat) (x0 : V1) : Option V5 := g78 N x0 (fun (r0 : V1) => some (r0))
def g79_0 (x0 : Int) (k0 : Int → Option R) : Option R :=
k0 x0
theorem t79_0 (x0) : exec cl N c79_0 [(0, .v U1 x0)] K = (g79_0 x0 (fun y0 => K .normal [(0, .v U1 y0)])) := by
  kernel_rfl
def g79_1 (x0 : Int) (k0 : Int → Bool → Option R) : Option R :=
brB (decide (x0 < (32 : Int))) (k0 x0 true) (k0 x0 (decide (x0 > (126 : Int))))
theorem t79_1 (x0) : exec cl N c79_1 [(0, .v U1 x0)] K = (g79_1 x0 (fun y0 y1 => K .normal (e21 y0 y1))) := by
  kernel_rfl
def g79_2 (x0 : Int) (x1 : Bool) (k0 : Bool → Option R) : Option R :=
k0 false
theorem t79_2 (x0 x1) : exec cl N c79_2 (e21 x0 x1) K = (g79_2 x0 x1 (fun y0 => K .normal [(2, .v .bool y0)])) := by
  kernel_rfl
theorem kp79_0 (x0) : keep [0, 2] [(2, .v .bool x0)] = [(0, .dead), (2, .v .bool x0)] := by kernel_rfl
theorem kp79_1 (x0 x1) : keep [0, 2] (e21 x0 x1) = [(0, .v U1 x0), (2, .dead)] := by kernel_rfl
theorem hb79_0 (x0 x1) : boolOf? (ent (e21 x0 x1) (.t 9)) = some x1 := by kernel_rfl
def g79_4 (x0 : Int) (k0 : Int → Int → Option R) : Option R :=
k0 x0 (0 : Int)
theorem t79_4 (x0) : exec cl N c79_4 [(0, .v U1 x0), (2, .dead)] K = (g79_4 x0 (fun y0 y1 => K .normal (e22 y0 y1))) := by
  kernel_rfl
theorem kp79_2 (x0 x1) : keep [0, 3] (e22 x0 x1) = (e22 x0 x1) := by kernel_rfl
def g79_5 (x0 x1 : Int) (k0 : Int → Int → Bool → Option R) : Option R :=
k0 x0 x1 (decide (x1 < (15 : Int)))
theorem t79_5 (x0 x1) : exec cl N c79_5 (e22 x0 x1) K = (g79_5 x0 x1 (fun y0 y1 y2 => K .normal (e23 y0 y1 y2))) := by
  kernel_rfl
theorem kp79_3 (x0 x1 x2) : keep [0, 3] (e23 x0 x1 x2) = (e22 x0 x1) := by kernel_rfl
theorem hb79_1 (x0 x1 x2) : boolOf? (ent (e23 x0 x1 x2) (.t 11)) = some x2 := by kernel_rfl
def g79_7 (x0 x1 : Int) (k0 : Int → Int → Bool → Option R) : Option R :=
if 0 ≤ x1 ∧ x1 < (([32, 46, 44, 59, 58, 33, 63, 34, 45, 91, 93, 60, 62, 123, 125] : List UInt8).length : Int) then
k0 x0 x1 (((([32, 46, 44, 59, 58, 33, 63, 34, 45, 91, 93, 60, 62, 123, 125] : List UInt8).getD x1.toNat 0).toNat : Int) == x0)
else none
theorem t79_7 (x0 x1) : exec cl N c79_7 (e22 x0 x1) K = (g79_7 x0 x1 (fun y0 y1 y2 => K .normal (e24 y0 y1 y2))) := by
  kernel_rfl
def g79_8 (x0 x1 : Int) (x2 : Bool) (k0 : Bool → Option R) : Option R :=
k0 false
theorem t79_8 (x0 x1 x2) : exec cl N c79_8 (e24 x0 x1 x2) K = (g79_8 x0 x1 x2 (fun y0 => K .normal [(2, .v .bool y0)])) := by
  kernel_rfl
theorem kp79_4 (x0) : keep [0, 2, 3] [(2, .v .bool x0)] = (e25 x0) := by kernel_rfl
theorem kp79_5 (x0 x1 x2) : keep [0, 2, 3] (e24 x0 x1 x2) = (e26 x0 x1) := by kernel_rfl
theorem hb79_2 (x0 x1 x2) : boolOf? (ent (e24 x0 x1 x2) (.t 17)) = some x2 := by kernel_rfl
theorem kp79_6 (x0) : keep [0, 2, 3] (e25 x0) = (e25 x0) := by kernel_rfl
theorem kp79_7 (x0 x1) : keep [0, 2, 3] (e26 x0 x1) = (e26 x0 x1) := by kernel_rfl
def g79_11 (x0 x1 : Int) (k0 : Int → Int → Option R) : Option R :=
k0 x0 (IntKind.i64.wrap (x1 + (1 : Int)))
theorem t79_11 (x0 x1) : exec cl N c79_11 (e26 x0 x1) K = (g79_11 x0 x1 (fun y0 y1 => K .normal (e22 y0 y1))) := by
  kernel_rfl
def g79_12 (x0 x1 : Int) (k0 : Bool → Option R) (k1 : Int → Int → Option R) (k2 : Int → Int → Option R) : Option R :=
(g79_5 x0 x1 (fun y0 y1 y2 => brB y2 ((fun y0 y1 => (g79_7 y0 y1 (fun y0 y1 y2 => brB y2 (g79_8 y0 y1 y2 (fun y0 => ((fun y0 => (k0 y0)) y0))) (g79_11 y0 y1 k1)))) y0 y1) (k2 y0 y1)))
theorem t79_12 (x0 x1) : exec cl N c79_12 (e22 x0 x1) K = (g79_12 x0 x1 (fun y0 => K .ret (e25 y0)) (fun y0 y1 => K .normal (e22 y0 y1)) (fun y0 y1 => K (.exit 0) (e22 y0 y1))) := by
  simp only [c79_12, exec_seq, seqK_normal, seqK_exit, seqK_ret, t79_5, c79_6, exec_out, exec_cond', hb79_1, Option.bind_some, brB_true, brB_false, exec_skip, exec_exit, kp79_3, c79_10, exec_block, t79_7, c79_9, hb79_2, t79_8, exec_ret, kp79_4, kp79_5, blockK_normal, blockK_ret, blockK_eq, kp79_6, kp79_7, t79_11]
  rfl
def l79_13 {R : Type} (k0 : Bool → Option R) (k1 : Int → Int → Option R) : Nat → Int → Int → Option R
  | 0, _, _ => none
  | m + 1, x0, x1 => (g79_12 x0 x1 k0 (fun y0 y1 => l79_13 k0 k1 m y0 y1) k1)
theorem lt79_13 : ∀ (m) (x0 x1), iter [0, 3] (fun env K => exec cl N c79_12 env K) K m (e22 x0 x1) = l79_13 (fun y0 => K .ret (e25 y0)) (fun y0 y1 => K (.exit 0) (e22 y0 y1)) m x0 x1 := by
  intro m
  induction m with
  | zero => intros; rfl
  | succ m ih =>
    intro x0 x1
    simp only [iter_succ, t79_12, loopK_normal, loopK_exit, loopK_ret, kp79_2, ih]
    rfl
theorem kp79_8 (x0) : keep [2] (e25 x0) = [(2, .v .bool x0)] := by kernel_rfl
theorem kp79_9 (x0 x1) : keep [2] (e22 x0 x1) = [(2, .dead)] := by kernel_rfl
def g79_13 (N : Nat) (x0 x1 : Int) (k0 : Bool → Option R) (k1 : Option R) : Option R :=
l79_13 (fun y0 => k0 y0) (fun y0 y1 => k1) N x0 x1
theorem t79_13 (x0 x1) : exec cl N c79_13 (e22 x0 x1) K = (g79_13 N x0 x1 (fun y0 => K .ret [(2, .v .bool y0)]) (K (.exit 0) [(2, .dead)])) := by
  simp only [c79_13, exec_out, exec_loop, kp79_2, lt79_13, kp79_8, kp79_9]
  rfl
theorem kp79_10 (x0) : keep [2] [(2, .v .bool x0)] = [(2, .v .bool x0)] := by kernel_rfl
theorem kp79_11 : keep [2] [(2, .dead)] = [(2, .dead)] := by kernel_rfl
def g79_15 (k0 : Bool → Option R) : Option R :=
k0 true
theorem t79_15 : exec cl N c79_15 [(2, .dead)] K = (g79_15 (fun y0 => K .normal [(2, .v .bool y0)])) := by
  kernel_rfl
def g79_16 (N : Nat) (x0 : Int) (k0 : Bool → Option R) (k1 : Bool → Option R) : Option R :=
(g79_0 x0 (fun y0 => (g79_1 y0 (fun y0 y1 => brB y1 (g79_2 y0 y1 (fun y0 => ((fun y0 => (k0 y0)) y0))) ((fun y0 => (g79_4 y0 (fun y0 y1 => (g79_13 N y0 y1 (fun y0 => (k1 y0)) (g79_15 (fun y0 => (k1 y0))))))) y0)))))
theorem t79_16 (x0) : exec cl N c79_16 [(0, .v U1 x0)] K = (g79_16 N x0 (fun y0 => K .ret [(0, .dead), (2, .v .bool y0)]) (fun y0 => K .ret [(2, .v .bool y0)])) := by
  simp only [c79_16, exec_seq, seqK_normal, seqK_exit, seqK_ret, t79_0, t79_1, c79_3, exec_out, exec_cond', hb79_0, Option.bind_some, brB_true, brB_false, t79_2, exec_ret, exec_skip, kp79_0, kp79_1, t79_4, c79_14, exec_block, t79_13, blockK_normal, blockK_ret, blockK_eq, kp79_10, kp79_11, t79_15]
  rfl
theorem rk79_0 (y0) : retK d79 .ret [(0, .dead), (2, .v .bool y0)] = some [.v .bool y0] := by kernel_rfl
theorem rk79_1 (y0) : retK d79 .ret [(2, .v .bool y0)] = some [.v .bool y0] := by kernel_rfl
def g79 (N : Nat) (x0 : Int) (k : Bool → Option R) : Option R :=
(g79_16 N x0 (fun y0 => k y0) (fun y0 => k y0))
theorem gen79 {N : Nat} {cl : Cal} (x0 : Int) {R : Type} (k : List E → Option R) : exec cl N c79 (params 0 [.v U1 x0]) (fun e env => (retK d79 e env).bind k) = g79 N x0 (fun (r0 : Bool) => k [.v .bool r0]) := by
  have e0 : params 0 [.v U1 x0] = [(0, .v U1 x0)] := by kernel_rfl
  simp only [c79, e0, t79_16, rk79_0, rk79_1, Option.bind_some]
  rfl
def ctr79 (S : Int → Option (Bool)) : Ctr := { A := Int × Unit, B := Bool, f := 79, enc := fun a => [.v U1 a.1], dec := (decC (decV U1) dec0), S := fun a => S a.1, ent := fun b => [.v .bool b], ok := (decV_cons (T := U1) (fun es b h => dec0_some h)) }
def S79 (N : Nat) (x0 : Int) : Option (Bool) := g79 N x0 (fun (r0 : Bool) => some (r0))
def g59_0 (x0 : V1) (k0 : V1 → Option R) : Option R :=
k0 x0
theorem t59_0 (x0) : exec cl N c59_0 [(0, .v .str x0)] K = (g59_0 x0 (fun y0 => K .normal [(0, .v .str y0)])) := by
  kernel_rfl
def g59_1 (x0 : V1) (k0 : V1 → Bool → Option R) : Option R :=
k0 x0 (decide ((x0.length : Int) > (16 : Int)))
theorem t59_1 (x0) : exec cl N c59_1 [(0, .v .str x0)] K = (g59_1 x0 (fun y0 y1 => K .normal (e27 y0 y1))) := by
  kernel_rfl
def g59_2 (x0 : V1) (x1 : Bool) (k0 : Int → Option R) : Option R :=
k0 (3 : Int)
theorem t59_2 (x0 x1) : exec cl N c59_2 (e27 x0 x1) K = (g59_2 x0 x1 (fun y0 => K .normal [(2, .v U2 y0)])) := by
  kernel_rfl
theorem kp59_0 (x0) : keep [0, 2] [(2, .v U2 x0)] = (e11 x0) := by kernel_rfl
theorem kp59_1 (x0 x1) : keep [0, 2] (e27 x0 x1) = (e12 x0) := by kernel_rfl
theorem hb59_0 (x0 x1) : boolOf? (ent (e27 x0 x1) (.t 6)) = some x1 := by kernel_rfl
def g59_4 (S78 : V1 → Option V5) (x0 : V1) (k0 : V1 → Bool → Option R) : Option R :=
brB (x0 == ([] : List UInt8)) (k0 x0 true) ((S78 x0).bind fun r187 =>
k0 x0 (r187 != x0))
theorem t59_4 (S78) (h78 : (ctr78 S78).holds cl) (x0) : exec cl N c59_4 (e12 x0) K = (g59_4 S78 x0 (fun y0 y1 => K .normal (e28 y0 y1))) := by
  rw [← put_eq h78]
  kernel_rfl
def g59_5 (x0 : V1) (x1 : Bool) (k0 : Int → Option R) : Option R :=
k0 (2 : Int)
theorem t59_5 (x0 x1) : exec cl N c59_5 (e28 x0 x1) K = (g59_5 x0 x1 (fun y0 => K .normal [(2, .v U2 y0)])) := by
  kernel_rfl
theorem kp59_2 (x0 x1) : keep [0, 2] (e28 x0 x1) = (e12 x0) := by kernel_rfl
theorem hb59_1 (x0 x1) : boolOf? (ent (e28 x0 x1) (.t 14)) = some x1 := by kernel_rfl
def g59_7 (x0 : V1) (k0 : V1 → Int → Option R) : Option R :=
k0 x0 (0 : Int)
theorem t59_7 (x0) : exec cl N c59_7 (e12 x0) K = (g59_7 x0 (fun y0 y1 => K .normal (e13 y0 y1))) := by
  kernel_rfl
theorem kp59_3 (x0 x1) : keep [0, 3] (e13 x0 x1) = (e13 x0 x1) := by kernel_rfl
def g59_8 (x0 : V1) (x1 : Int) (k0 : V1 → Int → Bool → Option R) : Option R :=
k0 x0 x1 (decide (x1 < (x0.length : Int)))
theorem t59_8 (x0 x1) : exec cl N c59_8 (e13 x0 x1) K = (g59_8 x0 x1 (fun y0 y1 y2 => K .normal (e29 y0 y1 y2))) := by
  kernel_rfl
theorem kp59_4 (x0 x1 x2) : keep [0, 3] (e29 x0 x1 x2) = (e13 x0 x1) := by kernel_rfl
theorem hb59_2 (x0 x1 x2) : boolOf? (ent (e29 x0 x1 x2) (.t 18)) = some x2 := by kernel_rfl
def g59_10 (S79 : Int → Option (Bool)) (x0 : V1) (x1 : Int) (k0 : V1 → Int → Bool → Option R) : Option R :=
if 0 ≤ x1 ∧ x1 < (x0.length : Int) then
(S79 ((x0.getD x1.toNat 0).toNat : Int)).bind fun r190 =>
k0 x0 x1 (!r190)
else none
theorem t59_10 (S79) (h79 : (ctr79 S79).holds cl) (x0 x1) : exec cl N c59_10 (e13 x0 x1) K = (g59_10 S79 x0 x1 (fun y0 y1 y2 => K .normal (e15 y0 y1 y2))) := by
  rw [← put_eq h79]
  kernel_rfl
def g59_11 (x0 : V1) (x1 : Int) (x2 : Bool) (k0 : Int → Option R) : Option R :=
k0 (2 : Int)
theorem t59_11 (x0 x1 x2) : exec cl N c59_11 (e15 x0 x1 x2) K = (g59_11 x0 x1 x2 (fun y0 => K .normal [(2, .v U2 y0)])) := by
  kernel_rfl
theorem kp59_5 (x0) : keep [0, 2, 3] [(2, .v U2 x0)] = (e30 x0) := by kernel_rfl
theorem kp59_6 (x0 x1 x2) : keep [0, 2, 3] (e15 x0 x1 x2) = (e31 x0 x1) := by kernel_rfl
theorem hb59_3 (x0 x1 x2) : boolOf? (ent (e15 x0 x1 x2) (.t 25)) = some x2 := by kernel_rfl
theorem kp59_7 (x0) : keep [0, 2, 3] (e30 x0) = (e30 x0) := by kernel_rfl
theorem kp59_8 (x0 x1) : keep [0, 2, 3] (e31 x0 x1) = (e31 x0 x1) := by kernel_rfl
def g59_14 (x0 : V1) (x1 : Int) (k0 : V1 → Int → Option R) : Option R :=
k0 x0 (IntKind.i64.wrap (x1 + (1 : Int)))
theorem t59_14 (x0 x1) : exec cl N c59_14 (e31 x0 x1) K = (g59_14 x0 x1 (fun y0 y1 => K .normal (e13 y0 y1))) := by
  kernel_rfl
def g59_15 (S79 : Int → Option (Bool)) (x0 : V1) (x1 : Int) (k0 : Int → Option R) (k1 : V1 → Int → Option R) (k2 : V1 → Int → Option R) : Option R :=
(g59_8 x0 x1 (fun y0 y1 y2 => brB y2 ((fun y0 y1 => (g59_10 S79 y0 y1 (fun y0 y1 y2 => brB y2 (g59_11 y0 y1 y2 (fun y0 => ((fun y0 => (k0 y0)) y0))) (g59_14 y0 y1 k1)))) y0 y1) (k2 y0 y1)))
theorem t59_15 (S79) (h79 : (ctr79 S79).holds cl) (x0 x1) : exec cl N c59_15 (e13 x0 x1) K = (g59_15 S79 x0 x1 (fun y0 => K .ret (e30 y0)) (fun y0 y1 => K .normal (e13 y0 y1)) (fun y0 y1 => K (.exit 0) (e13 y0 y1))) := by
  simp only [c59_15, exec_seq, seqK_normal, seqK_exit, seqK_ret, t59_8, c59_9, exec_out, exec_cond', hb59_2, Option.bind_some, brB_true, brB_false, exec_skip, exec_exit, kp59_4, c59_13, exec_block, t59_10 S79 h79, c59_12, hb59_3, t59_11, exec_ret, kp59_5, kp59_6, blockK_normal, blockK_ret, blockK_eq, kp59_7, kp59_8, t59_14]
  rfl
def l59_16 {R : Type} (S79 : Int → Option (Bool)) (k0 : Int → Option R) (k1 : V1 → Int → Option R) : Nat → V1 → Int → Option R
  | 0, _, _ => none
  | m + 1, x0, x1 => (g59_15 S79 x0 x1 k0 (fun y0 y1 => l59_16 S79 k0 k1 m y0 y1) k1)
theorem lt59_16 (S79) (h79 : (ctr79 S79).holds cl) : ∀ (m) (x0 x1), iter [0, 3] (fun env K => exec cl N c59_15 env K) K m (e13 x0 x1) = l59_16 S79 (fun y0 => K .ret (e30 y0)) (fun y0 y1 => K (.exit 0) (e13 y0 y1)) m x0 x1 := by
  intro m
  induction m with
  | zero => intros; rfl
  | succ m ih =>
    intro x0 x1
    simp only [iter_succ, t59_15 S79 h79, loopK_normal, loopK_exit, loopK_ret, kp59_3, ih]
    rfl
theorem kp59_9 (x0) : keep [2] (e30 x0) = [(2, .v U2 x0)] := by kernel_rfl
theorem kp59_10 (x0 x1) : keep [2] (e13 x0 x1) = [(2, .dead)] := by kernel_rfl
def g59_16 (N : Nat) (S79 : Int → Option (Bool)) (x0 : V1) (x1 : Int) (k0 : Int → Option R) (k1 : Option R) : Option R :=
l59_16 S79 (fun y0 => k0 y0) (fun y0 y1 => k1) N x0 x1
theorem t59_16 (S79) (h79 : (ctr79 S79).holds cl) (x0 x1) : exec cl N c59_16 (e13 x0 x1) K = (g59_16 N S79 x0 x1 (fun y0 => K .ret [(2, .v U2 y0)]) (K (.exit 0) [(2, .dead)])) := by
  simp only [c59_16, exec_out, exec_loop, kp59_3, lt59_16 S79 h79, kp59_10, kp59_9]
  rfl
theorem kp59_11 (x0) : keep [2] [(2, .v U2 x0)] = [(2, .v U2 x0)] := by kernel_rfl
theorem kp59_12 : keep [2] [(2, .dead)] = [(2, .dead)] := by kernel_rfl
def g59_18 (k0 : Int → Option R) : Option R :=
k0 (0 : Int)
theorem t59_18 : exec cl N c59_18 [(2, .dead)] K = (g59_18 (fun y0 => K .normal [(2, .v U2 y0)])) := by
  kernel_rfl
def g59_19 (N : Nat) (S78 : V1 → Option V5) (S79 : Int → Option (Bool)) (x0 : V1) (k0 : Int → Option R) (k1 : Int → Option R) : Option R :=
(g59_0 x0 (fun y0 => (g59_1 y0 (fun y0 y1 => brB y1 (g59_2 y0 y1 (fun y0 => ((fun y0 => (k0 y0)) y0))) ((fun y0 => (g59_4 S78 y0 (fun y0 y1 => brB y1 (g59_5 y0 y1 (fun y0 => ((fun y0 => (k0 y0)) y0))) ((fun y0 => (g59_7 y0 (fun y0 y1 => (g59_16 N S79 y0 y1 (fun y0 => (k1 y0)) (g59_18 (fun y0 => (k1 y0))))))) y0)))) y0)))))
theorem t59_19 (S78) (S79) (h78 : (ctr78 S78).holds cl) (h79 : (ctr79 S79).holds cl) (x0) : exec cl N c59_19 [(0, .v .str x0)] K = (g59_19 N S78 S79 x0 (fun y0 => K .ret (e11 y0)) (fun y0 => K .ret [(2, .v U2 y0)])) := by
  simp only [c59_19, exec_seq, seqK_normal, seqK_exit, seqK_ret, t59_0, t59_1, c59_3, exec_out, exec_cond', hb59_0, Option.bind_some, brB_true, brB_false, t59_2, exec_ret, exec_skip, kp59_0, kp59_1, t59_4 S78 h78, c59_6, hb59_1, t59_5, kp59_2, t59_7, c59_17, exec_block, t59_16 S79 h79, blockK_normal, blockK_ret, blockK_eq, kp59_11, kp59_12, t59_18]
  rfl
theorem rk59_0 (y0) : retK d59 .ret (e11 y0) = some [.v U2 y0] := by kernel_rfl
theorem rk59_1 (y0) : retK d59 .ret [(2, .v U2 y0)] = some [.v U2 y0] := by kernel_rfl
def g59 (N : Nat) (S78 : V1 → Option V5) (S79 : Int → Option (Bool)) (x0 : V1) (k : Int → Option R) : Option R :=
(g59_19 N S78 S79 x0 (fun y0 => k y0) (fun y0 => k y0))
theorem gen59 {N : Nat} {cl : Cal} (S78 : V1 → Option V5) (S79 : Int → Option (Bool)) (h78 : (ctr78 S78).holds cl) (h79 : (ctr79 S79).holds cl) (x0 : V1) {R : Type} (k : List E → Option R) : exec cl N c59 (params 0 [.v .str x0]) (fun e env => (retK d59 e env).bind k) = g59 N S78 S79 x0 (fun (r0 : Int) => k [.v U2 r0]) := by
  have e0 : params 0 [.v .str x0] = [(0, .v .str x0)] := by kernel_rfl
  simp only [c59, e0, t59_19 S78 S79 h78 h79, rk59_0, rk59_1, Option.bind_some]
  rfl
def ctr59 (S : V1 → Option (Int)) : Ctr := { A := V1 × Unit, B := Int, f := 59, enc := fun a => [.v .str a.1], dec := (decC (decV .str) dec0), S := fun a => S a.1, ent := fun b => [.v U2 b], ok := (decV_cons (T := .str) (fun es b h => dec0_some h)) }
def S59 (N : Nat) (x0 : V1) : Option (Int) := g59 N (S78 N) (S79 N) x0 (fun (r0 : Int) => some (r0))
def g60_0 (x0 : V7) (x1 : V1) (k0 : V7 → V1 → Option R) : Option R :=
k0 x0 x1
theorem t60_0 (x0 x1) : exec cl N c60_0 (e32 x0 x1) K = (g60_0 x0 x1 (fun y0 y1 => K .normal (e32 y0 y1))) := by
  kernel_rfl
def g60_1 (x0 : V7) (x1 : V1) (k0 : V7 → V1 → Int → Option R) : Option R :=
k0 x0 x1 (0 : Int)
theorem t60_1 (x0 x1) : exec cl N c60_1 (e32 x0 x1) K = (g60_1 x0 x1 (fun y0 y1 y2 => K .normal (e33 y0 y1 y2))) := by
  kernel_rfl
theorem kp60_0 (x0 x1 x2) : keep [0, 1, 5] (e33 x0 x1 x2) = (e33 x0 x1 x2) := by kernel_rfl
def g60_2 (x0 : V7) (x1 : V1) (x2 : Int) (k0 : V7 → V1 → Int → Bool → Option R) : Option R :=
k0 x0 x1 x2 (decide (x2 < (x0.length : Int)))
theorem t60_2 (x0 x1 x2) : exec cl N c60_2 (e33 x0 x1 x2) K = (g60_2 x0 x1 x2 (fun y0 y1 y2 y3 => K .normal (e34 y0 y1 y2 y3))) := by
  kernel_rfl
theorem kp60_1 (x0 x1 x2 x3) : keep [0, 1, 5] (e34 x0 x1 x2 x3) = (e33 x0 x1 x2) := by kernel_rfl
theorem hb60_0 (x0 x1 x2 x3) : boolOf? (ent (e34 x0 x1 x2 x3) (.t 9)) = some x3 := by kernel_rfl
def g60_4 (x0 : V7) (x1 : V1) (x2 : Int) (k0 : V7 → V1 → Int → Bool → Option R) : Option R :=
if 0 ≤ x2 ∧ x2 < (x0.length : Int) then
k0 x0 x1 x2 ((x0.getD x2.toNat []) == x1)
else none
theorem t60_4 (x0 x1 x2) : exec cl N c60_4 (e33 x0 x1 x2) K = (g60_4 x0 x1 x2 (fun y0 y1 y2 y3 => K .normal (e35 y0 y1 y2 y3))) := by
  kernel_rfl
def g60_5 (x0 : V7) (x1 : V1) (x2 : Int) (x3 : Bool) (k0 : Bool → Option R) : Option R :=
k0 true
theorem t60_5 (x0 x1 x2 x3) : exec cl N c60_5 (e35 x0 x1 x2 x3) K = (g60_5 x0 x1 x2 x3 (fun y0 => K .normal [(4, .v .bool y0)])) := by
  kernel_rfl
theorem kp60_2 (x0) : keep [0, 1, 4, 5] [(4, .v .bool x0)] = (e36 x0) := by kernel_rfl
theorem kp60_3 (x0 x1 x2 x3) : keep [0, 1, 4, 5] (e35 x0 x1 x2 x3) = (e37 x0 x1 x2) := by kernel_rfl
theorem hb60_1 (x0 x1 x2 x3) : boolOf? (ent (e35 x0 x1 x2 x3) (.t 17)) = some x3 := by kernel_rfl
theorem kp60_4 (x0) : keep [0, 1, 4, 5] (e36 x0) = (e36 x0) := by kernel_rfl
theorem kp60_5 (x0 x1 x2) : keep [0, 1, 4, 5] (e37 x0 x1 x2) = (e37 x0 x1 x2) := by kernel_rfl
def g60_8 (x0 : V7) (x1 : V1) (x2 : Int) (k0 : V7 → V1 → Int → Option R) : Option R :=
k0 x0 x1 (IntKind.i64.wrap (x2 + (1 : Int)))
theorem t60_8 (x0 x1 x2) : exec cl N c60_8 (e37 x0 x1 x2) K = (g60_8 x0 x1 x2 (fun y0 y1 y2 => K .normal (e33 y0 y1 y2))) := by
  kernel_rfl
def g60_9 (x0 : V7) (x1 : V1) (x2 : Int) (k0 : Bool → Option R) (k1 : V7 → V1 → Int → Option R) (k2 : V7 → V1 → Int → Option R) : Option R :=
(g60_2 x0 x1 x2 (fun y0 y1 y2 y3 => brB y3 ((fun y0 y1 y2 => (g60_4 y0 y1 y2 (fun y0 y1 y2 y3 => brB y3 (g60_5 y0 y1 y2 y3 (fun y0 => ((fun y0 => (k0 y0)) y0))) (g60_8 y0 y1 y2 k1)))) y0 y1 y2) (k2 y0 y1 y2)))
theorem t60_9 (x0 x1 x2) : exec cl N c60_9 (e33 x0 x1 x2) K = (g60_9 x0 x1 x2 (fun y0 => K .ret (e36 y0)) (fun y0 y1 y2 => K .normal (e33 y0 y1 y2)) (fun y0 y1 y2 => K (.exit 0) (e33 y0 y1 y2))) := by
  simp only [c60_9, exec_seq, seqK_normal, seqK_exit, seqK_ret, t60_2, c60_3, exec_out, exec_cond', hb60_0, Option.bind_some, brB_true, brB_false, exec_skip, exec_exit, kp60_1, c60_7, exec_block, t60_4, c60_6, hb60_1, t60_5, exec_ret, kp60_2, kp60_3, blockK_normal, blockK_ret, blockK_eq, kp60_4, kp60_5, t60_8]
  rfl
def l60_10 {R : Type} (k0 : Bool → Option R) (k1 : V7 → V1 → Int → Option R) : Nat → V7 → V1 → Int → Option R
  | 0, _, _, _ => none
  | m + 1, x0, x1, x2 => (g60_9 x0 x1 x2 k0 (fun y0 y1 y2 => l60_10 k0 k1 m y0 y1 y2) k1)
theorem lt60_10 : ∀ (m) (x0 x1 x2), iter [0, 1, 5] (fun env K => exec cl N c60_9 env K) K m (e33 x0 x1 x2) = l60_10 (fun y0 => K .ret (e36 y0)) (fun y0 y1 y2 => K (.exit 0) (e33 y0 y1 y2)) m x0 x1 x2 := by
  intro m
  induction m with
  | zero => intros; rfl
  | succ m ih =>
    intro x0 x1 x2
    simp only [iter_succ, t60_9, loopK_normal, loopK_exit, loopK_ret, kp60_0, ih]
    rfl
theorem kp60_6 (x0) : keep [4] (e36 x0) = [(4, .v .bool x0)] := by kernel_rfl
theorem kp60_7 (x0 x1 x2) : keep [4] (e33 x0 x1 x2) = [(4, .dead)] := by kernel_rfl
def g60_10 (N : Nat) (x0 : V7) (x1 : V1) (x2 : Int) (k0 : Bool → Option R) (k1 : Option R) : Option R :=
l60_10 (fun y0 => k0 y0) (fun y0 y1 y2 => k1) N x0 x1 x2
theorem t60_10 (x0 x1 x2) : exec cl N c60_10 (e33 x0 x1 x2) K = (g60_10 N x0 x1 x2 (fun y0 => K .ret [(4, .v .bool y0)]) (K (.exit 0) [(4, .dead)])) := by
  simp only [c60_10, exec_out, exec_loop, kp60_0, lt60_10, kp60_6, kp60_7]
  rfl
theorem kp60_8 (x0) : keep [4] [(4, .v .bool x0)] = [(4, .v .bool x0)] := by kernel_rfl
theorem kp60_9 : keep [4] [(4, .dead)] = [(4, .dead)] := by kernel_rfl
def g60_12 (k0 : Bool → Option R) : Option R :=
k0 false
theorem t60_12 : exec cl N c60_12 [(4, .dead)] K = (g60_12 (fun y0 => K .normal [(4, .v .bool y0)])) := by
  kernel_rfl
def g60_13 (N : Nat) (x0 : V7) (x1 : V1) (k0 : Bool → Option R) : Option R :=
(g60_0 x0 x1 (fun y0 y1 => (g60_1 y0 y1 (fun y0 y1 y2 => (g60_10 N y0 y1 y2 (fun y0 => (k0 y0)) (g60_12 (fun y0 => (k0 y0))))))))
theorem t60_13 (x0 x1) : exec cl N c60_13 (e32 x0 x1) K = (g60_13 N x0 x1 (fun y0 => K .ret [(4, .v .bool y0)])) := by
  simp only [c60_13, exec_seq, seqK_normal, seqK_exit, seqK_ret, t60_0, t60_1, c60_11, exec_out, exec_block, t60_10, blockK_normal, blockK_ret, blockK_eq, kp60_8, kp60_9, t60_12, exec_ret]
  rfl
theorem rk60_0 (y0) : retK d60 .ret [(4, .v .bool y0)] = some [.v .bool y0] := by kernel_rfl
def g60 (N : Nat) (x0 : V7) (x1 : V1) (k : Bool → Option R) : Option R :=
(g60_13 N x0 x1 (fun y0 => k y0))
theorem gen60 {N : Nat} {cl : Cal} (x0 : V7) (x1 : V1) {R : Type} (k : List E → Option R) : exec cl N c60 (params 0 [.v U0 x0, .v .str x1]) (fun e env => (retK d60 e env).bind k) = g60 N x0 x1 (fun (r0 : Bool) => k [.v .bool r0]) := by
  have e0 : params 0 [.v U0 x0, .v .str x1] = (e32 x0 x1) := by kernel_rfl
  simp only [c60, e0, t60_13, rk60_0, Option.bind_some]
  rfl
def ctr60 (S : V7 → V1 → Option (Bool)) : Ctr := { A := V7 × V1 × Unit, B := Bool, f := 60, enc := fun a => [.v U0 a.1, .v .str a.2.1], dec := (decC (decV U0) (decC (decV .str) dec0)), S := fun a => S a.1 a.2.1, ent := fun b => [.v .bool b], ok := (decV_cons (T := U0) (decV_cons (T := .str) (fun es b h => dec0_some h))) }
def S60 (N : Nat) (x0 : V7) (x1 : V1) : Option (Bool) := g60 N x0 x1 (fun (r0 : Bool) => some (r0))
def g41_0 (x0 : V20) (k0 : V20 → Option R) : Option R :=
k0 x0
theorem t41_0 (x0) : exec cl N c41_0 [(0, .v U21 x0)] K = (g41_0 x0 (fun y0 => K .normal [(1, .loc U21 .no y0)])) := by
  kernel_rfl
def g41_1 (x0 : V20) (k0 : V20 → Bool → Option R) : Option R :=
brB (decide (x0.1 < (1 : Int))) (k0 x0 true) (brB (decide (x0.1 > (12 : Int))) (k0 x0 true) (brB (decide (x0.2.1 < (0 : Int))) (k0 x0 true) (k0 x0 (decide (x0.2.1 > (999 : Int))))))
theorem t41_1 (x0) : exec cl N c41_1 [(1, .loc U21 .no x0)] K = (g41_1 x0 (fun y0 y1 => K .normal (e38 y0 y1))) := by
  kernel_rfl
def g41_2 (x0 : V20) (x1 : Bool) (k0 : Int → Option R) : Option R :=
k0 (6 : Int)
theorem t41_2 (x0 x1) : exec cl N c41_2 (e38 x0 x1) K = (g41_2 x0 x1 (fun y0 => K .normal [(2, .v U2 y0)])) := by
  kernel_rfl
theorem kp41_0 (x0) : keep [1, 2] [(2, .v U2 x0)] = (e39 x0) := by kernel_rfl
theorem kp41_1 (x0 x1) : keep [1, 2] (e38 x0 x1) = (e40 x0) := by kernel_rfl
theorem hb41_0 (x0 x1) : boolOf? (ent (e38 x0 x1) (.t 22)) = some x1 := by kernel_rfl
def g41_4 (x0 : V20) (k0 : V20 → Bool → Option R) : Option R :=
k0 x0 (decide ((x0.2.2.1.length : Int) > (20 : Int)))
theorem t41_4 (x0) : exec cl N c41_4 (e40 x0) K = (g41_4 x0 (fun y0 y1 => K .normal (e41 y0 y1))) := by
  kernel_rfl
def g41_5 (x0 : V20) (x1 : Bool) (k0 : Int → Option R) : Option R :=
k0 (3 : Int)
theorem t41_5 (x0 x1) : exec cl N c41_5 (e41 x0 x1) K = (g41_5 x0 x1 (fun y0 => K .normal [(2, .v U2 y0)])) := by
  kernel_rfl
theorem kp41_2 (x0 x1) : keep [1, 2] (e41 x0 x1) = (e40 x0) := by kernel_rfl
theorem hb41_1 (x0 x1) : boolOf? (ent (e41 x0 x1) (.t 26)) = some x1 := by kernel_rfl
def g41_7 (x0 : V20) (k0 : V20 → Int → Option R) : Option R :=
k0 x0 (0 : Int)
theorem t41_7 (x0) : exec cl N c41_7 (e40 x0) K = (g41_7 x0 (fun y0 y1 => K .normal (e42 y0 y1))) := by
  kernel_rfl
theorem kp41_3 (x0 x1) : keep [1, 3] (e42 x0 x1) = (e42 x0 x1) := by kernel_rfl
def g41_8 (x0 : V20) (x1 : Int) (k0 : V20 → Int → Bool → Option R) : Option R :=
k0 x0 x1 (decide (x1 < (x0.2.2.1.length : Int)))
theorem t41_8 (x0 x1) : exec cl N c41_8 (e42 x0 x1) K = (g41_8 x0 x1 (fun y0 y1 y2 => K .normal (e43 y0 y1 y2))) := by
  kernel_rfl
theorem kp41_4 (x0 x1 x2) : keep [1, 3] (e43 x0 x1 x2) = (e42 x0 x1) := by kernel_rfl
theorem hb41_2 (x0 x1 x2) : boolOf? (ent (e43 x0 x1 x2) (.t 31)) = some x2 := by kernel_rfl
def g41_10 (S59 : V1 → Option (Int)) (x0 : V20) (x1 : Int) (k0 : V20 → Int → Int → Option R) : Option R :=
if 0 ≤ x1 ∧ x1 < (x0.2.2.1.length : Int) then
(S59 (x0.2.2.1.getD x1.toNat [])).bind fun r209 =>
k0 x0 x1 r209
else none
theorem t41_10 (S59) (h59 : (ctr59 S59).holds cl) (x0 x1) : exec cl N c41_10 (e42 x0 x1) K = (g41_10 S59 x0 x1 (fun y0 y1 y2 => K .normal [(1, .loc U21 .no y0), (3, .v U2 y1), (4, .v U2 y2)])) := by
  rw [← put_eq h59]
  kernel_rfl
def g41_11 (x0 : V20) (x1 x2 : Int) (k0 : V20 → Int → Int → Bool → Option R) : Option R :=
k0 x0 x1 x2 (x2 != (0 : Int))
theorem t41_11 (x0 x1 x2) : exec cl N c41_11 [(1, .loc U21 .no x0), (3, .v U2 x1), (4, .v U2 x2)] K = (g41_11 x0 x1 x2 (fun y0 y1 y2 y3 => K .normal (e44 y0 y1 y2 y3))) := by
  kernel_rfl
def g41_12 (x0 : V20) (x1 x2 : Int) (x3 : Bool) (k0 : Int → Option R) : Option R :=
k0 x2
theorem t41_12 (x0 x1 x2 x3) : exec cl N c41_12 (e44 x0 x1 x2 x3) K = (g41_12 x0 x1 x2 x3 (fun y0 => K .normal [(2, .v U2 y0)])) := by
  kernel_rfl
theorem kp41_5 (x0) : keep [1, 2, 3] [(2, .v U2 x0)] = (e45 x0) := by kernel_rfl
theorem kp41_6 (x0 x1 x2 x3) : keep [1, 2, 3] (e44 x0 x1 x2 x3) = (e46 x0 x1) := by kernel_rfl
theorem hb41_3 (x0 x1 x2 x3) : boolOf? (ent (e44 x0 x1 x2 x3) (.t 41)) = some x3 := by kernel_rfl
def g41_14 (S60 : V7 → V1 → Option (Bool)) (x0 : V20) (x1 : Int) (k0 : V20 → Int → Bool → Option R) : Option R :=
if 0 ≤ (0 : Int) ∧ (0 : Int) ≤ x1 ∧ x1 ≤ (x0.2.2.1.length : Int) ∧ (x0.2.2.1.length : Int) ≤ (x0.2.2.1.length : Int) then
if 0 ≤ x1 ∧ x1 < (x0.2.2.1.length : Int) then
(S60 ((x0.2.2.1.drop (0 : Int).toNat).take (x1.toNat - (0 : Int).toNat)) (x0.2.2.1.getD x1.toNat [])).bind fun r212 =>
k0 x0 x1 r212
else none
else none
theorem t41_14 (S60) (h60 : (ctr60 S60).holds cl) (x0 x1) : exec cl N c41_14 (e46 x0 x1) K = (g41_14 S60 x0 x1 (fun y0 y1 y2 => K .normal (e47 y0 y1 y2))) := by
  rw [← put_eq h60]
  kernel_rfl
def g41_15 (x0 : V20) (x1 : Int) (x2 : Bool) (k0 : Int → Option R) : Option R :=
k0 (5 : Int)
theorem t41_15 (x0 x1 x2) : exec cl N c41_15 (e47 x0 x1 x2) K = (g41_15 x0 x1 x2 (fun y0 => K .normal [(2, .v U2 y0)])) := by
  kernel_rfl
theorem kp41_7 (x0 x1 x2) : keep [1, 2, 3] (e47 x0 x1 x2) = (e46 x0 x1) := by kernel_rfl
theorem hb41_4 (x0 x1 x2) : boolOf? (ent (e47 x0 x1 x2) (.t 52)) = some x2 := by kernel_rfl
theorem kp41_8 (x0) : keep [1, 2, 3] (e45 x0) = (e45 x0) := by kernel_rfl
theorem kp41_9 (x0 x1) : keep [1, 2, 3] (e46 x0 x1) = (e46 x0 x1) := by kernel_rfl
def g41_18 (x0 : V20) (x1 : Int) (k0 : V20 → Int → Option R) : Option R :=
k0 x0 (IntKind.i64.wrap (x1 + (1 : Int)))
theorem t41_18 (x0 x1) : exec cl N c41_18 (e46 x0 x1) K = (g41_18 x0 x1 (fun y0 y1 => K .normal (e42 y0 y1))) := by
  kernel_rfl
def g41_19 (S59 : V1 → Option (Int)) (S60 : V7 → V1 → Option (Bool)) (x0 : V20) (x1 : Int) (k0 : Int → Option R) (k1 : V20 → Int → Option R) (k2 : V20 → Int → Option R) : Option R :=
(g41_8 x0 x1 (fun y0 y1 y2 => brB y2 ((fun y0 y1 => (g41_10 S59 y0 y1 (fun y0 y1 y2 => (g41_11 y0 y1 y2 (fun y0 y1 y2 y3 => brB y3 (g41_12 y0 y1 y2 y3 (fun y0 => ((fun y0 => (k0 y0)) y0))) ((fun y0 y1 => (g41_14 S60 y0 y1 (fun y0 y1 y2 => brB y2 (g41_15 y0 y1 y2 (fun y0 => ((fun y0 => (k0 y0)) y0))) (g41_18 y0 y1 k1)))) y0 y1)))))) y0 y1) (k2 y0 y1)))
theorem t41_19 (S59) (S60) (h59 : (ctr59 S59).holds cl) (h60 : (ctr60 S60).holds cl) (x0 x1) : exec cl N c41_19 (e42 x0 x1) K = (g41_19 S59 S60 x0 x1 (fun y0 => K .ret (e45 y0)) (fun y0 y1 => K .normal (e42 y0 y1)) (fun y0 y1 => K (.exit 0) (e42 y0 y1))) := by
  simp only [c41_19, exec_seq, seqK_normal, seqK_exit, seqK_ret, t41_8, c41_9, exec_out, exec_cond', hb41_2, Option.bind_some, brB_true, brB_false, exec_skip, exec_exit, kp41_4, c41_17, exec_block, t41_10 S59 h59, t41_11, c41_13, hb41_3, t41_12, exec_ret, kp41_5, kp41_6, t41_14 S60 h60, c41_16, hb41_4, t41_15, kp41_7, blockK_normal, blockK_ret, blockK_eq, kp41_8, kp41_9, t41_18]
  rfl
def l41_20 {R : Type} (S59 : V1 → Option (Int)) (S60 : V7 → V1 → Option (Bool)) (k0 : Int → Option R) (k1 : V20 → Int → Option R) : Nat → V20 → Int → Option R
  | 0, _, _ => none
  | m + 1, x0, x1 => (g41_19 S59 S60 x0 x1 k0 (fun y0 y1 => l41_20 S59 S60 k0 k1 m y0 y1) k1)
theorem lt41_20 (S59) (S60) (h59 : (ctr59 S59).holds cl) (h60 : (ctr60 S60).holds cl) : ∀ (m) (x0 x1), iter [1, 3] (fun env K => exec cl N c41_19 env K) K m (e42 x0 x1) = l41_20 S59 S60 (fun y0 => K .ret (e45 y0)) (fun y0 y1 => K (.exit 0) (e42 y0 y1)) m x0 x1 := by
  intro m
  induction m with
  | zero => intros; rfl
  | succ m ih =>
    intro x0 x1
    simp only [iter_succ, t41_19 S59 S60 h59 h60, loopK_normal, loopK_exit, loopK_ret, kp41_3, ih]
    rfl
theorem kp41_10 (x0) : keep [2] (e45 x0) = [(2, .v U2 x0)] := by kernel_rfl
theorem kp41_11 (x0 x1) : keep [2] (e42 x0 x1) = [(2, .dead)] := by kernel_rfl
def g41_20 (N : Nat) (S59 : V1 → Option (Int)) (S60 : V7 → V1 → Option (Bool)) (x0 : V20) (x1 : Int) (k0 : Int → Option R) (k1 : Option R) : Option R :=
l41_20 S59 S60 (fun y0 => k0 y0) (fun y0 y1 => k1) N x0 x1
theorem t41_20 (S59) (S60) (h59 : (ctr59 S59).holds cl) (h60 : (ctr60 S60).holds cl) (x0 x1) : exec cl N c41_20 (e42 x0 x1) K = (g41_20 N S59 S60 x0 x1 (fun y0 => K .ret [(2, .v U2 y0)]) (K (.exit 0) [(2, .dead)])) := by
  simp only [c41_20, exec_out, exec_loop, kp41_3, lt41_20 S59 S60 h59 h60, kp41_10, kp41_11]
  rfl
theorem kp41_12 (x0) : keep [2] [(2, .v U2 x0)] = [(2, .v U2 x0)] := by kernel_rfl
theorem kp41_13 : keep [2] [(2, .dead)] = [(2, .dead)] := by kernel_rfl
def g41_22 (k0 : Int → Option R) : Option R :=
k0 (0 : Int)
theorem t41_22 : exec cl N c41_22 [(2, .dead)] K = (g41_22 (fun y0 => K .normal [(2, .v U2 y0)])) := by
  kernel_rfl
def g41_23 (N : Nat) (S59 : V1 → Option (Int)) (S60 : V7 → V1 → Option (Bool)) (x0 : V20) (k0 : Int → Option R) (k1 : Int → Option R) : Option R :=
(g41_0 x0 (fun y0 => (g41_1 y0 (fun y0 y1 => brB y1 (g41_2 y0 y1 (fun y0 => ((fun y0 => (k0 y0)) y0))) ((fun y0 => (g41_4 y0 (fun y0 y1 => brB y1 (g41_5 y0 y1 (fun y0 => ((fun y0 => (k0 y0)) y0))) ((fun y0 => (g41_7 y0 (fun y0 y1 => (g41_20 N S59 S60 y0 y1 (fun y0 => (k1 y0)) (g41_22 (fun y0 => (k1 y0))))))) y0)))) y0)))))
theorem t41_23 (S59) (S60) (h59 : (ctr59 S59).holds cl) (h60 : (ctr60 S60).holds cl) (x0) : exec cl N c41_23 [(0, .v U21 x0)] K = (g41_23 N S59 S60 x0 (fun y0 => K .ret (e39 y0)) (fun y0 => K .ret [(2, .v U2 y0)])) := by
  simp only [c41_23, exec_seq, seqK_normal, seqK_exit, seqK_ret, t41_0, t41_1, c41_3, exec_out, exec_cond', hb41_0, Option.bind_some, brB_true, brB_false, t41_2, exec_ret, exec_skip, kp41_0, kp41_1, t41_4, c41_6, hb41_1, t41_5, kp41_2, t41_7, c41_21, exec_block, t41_20 S59 S60 h59 h60, blockK_normal, blockK_ret, blockK_eq, kp41_12, kp41_13, t41_22]
  rfl
theorem rk41_0 (y0) : retK d41 .ret (e39 y0) = some [.v U2 y0] := by kernel_rfl
theorem rk41_1 (y0) : retK d41 .ret [(2, .v U2 y0)] = some [.v U2 y0] := by kernel_rfl
def g41 (N : Nat) (S59 : V1 → Option (Int)) (S60 : V7 → V1 → Option (Bool)) (x0 : V20) (k : Int → Option R) : Option R :=
(g41_23 N S59 S60 x0 (fun y0 => k y0) (fun y0 => k y0))
theorem gen41 {N : Nat} {cl : Cal} (S59 : V1 → Option (Int)) (S60 : V7 → V1 → Option (Bool)) (h59 : (ctr59 S59).holds cl) (h60 : (ctr60 S60).holds cl) (x0 : V20) {R : Type} (k : List E → Option R) : exec cl N c41 (params 0 [.v U21 x0]) (fun e env => (retK d41 e env).bind k) = g41 N S59 S60 x0 (fun (r0 : Int) => k [.v U2 r0]) := by
  have e0 : params 0 [.v U21 x0] = [(0, .v U21 x0)] := by kernel_rfl
  simp only [c41, e0, t41_23 S59 S60 h59 h60, rk41_0, rk41_1, Option.bind_some]
  rfl
def ctr41 (S : V20 → Option (Int)) : Ctr := { A := V20 × Unit, B := Int, f := 41, enc := fun a => [.v U21 a.1], dec := (decC (decV U21) dec0), S := fun a => S a.1, ent := fun b => [.v U2 b], ok := (decV_cons (T := U21) (fun es b h => dec0_some h)) }
def S41 (N : Nat) (x0 : V20) : Option (Int) := g41 N (S59 N) (S60 N) x0 (fun (r0 : Int) => some (r0))
def g12_0 (x0 : V26) (k0 : V26 → Option R) : Option R :=
k0 x0
theorem t12_0 (x0) : exec cl N c12_0 [(0, .v U28 x0)] K = (g12_0 x0 (fun y0 => K .normal [(1, .loc U28 .no y0)])) := by
  kernel_rfl
def g12_1 (S40 : V1 → Option (Bool)) (x0 : V26) (k0 : V26 → Bool → Option R) : Option R :=
(S40 x0.1).bind fun r217 =>
k0 x0 (!r217)
theorem t12_1 (S40) (h40 : (ctr40 S40).holds cl) (x0) : exec cl N c12_1 [(1, .loc U28 .no x0)] K = (g12_1 S40 x0 (fun y0 y1 => K .normal (e48 y0 y1))) := by
  rw [← put_eq h40]
  kernel_rfl
def g12_2 (x0 : V26) (x1 : Bool) (k0 : Int → Option R) : Option R :=
k0 (2 : Int)
theorem t12_2 (x0 x1) : exec cl N c12_2 (e48 x0 x1) K = (g12_2 x0 x1 (fun y0 => K .normal [(2, .v U2 y0)])) := by
  kernel_rfl
theorem kp12_0 (x0) : keep [1, 2] [(2, .v U2 x0)] = (e39 x0) := by kernel_rfl
theorem kp12_1 (x0 x1) : keep [1, 2] (e48 x0 x1) = (e49 x0) := by kernel_rfl
theorem hb12_0 (x0 x1) : boolOf? (ent (e48 x0 x1) (.t 8)) = some x1 := by kernel_rfl
def g12_4 (x0 : V26) (k0 : V26 → Bool → Option R) : Option R :=
k0 x0 (decide ((x0.2.1.length : Int) > (30 : Int)))
theorem t12_4 (x0) : exec cl N c12_4 (e49 x0) K = (g12_4 x0 (fun y0 y1 => K .normal (e50 y0 y1))) := by
  kernel_rfl
def g12_5 (x0 : V26) (x1 : Bool) (k0 : Int → Option R) : Option R :=
k0 (3 : Int)
theorem t12_5 (x0 x1) : exec cl N c12_5 (e50 x0 x1) K = (g12_5 x0 x1 (fun y0 => K .normal [(2, .v U2 y0)])) := by
  kernel_rfl
theorem kp12_2 (x0 x1) : keep [1, 2] (e50 x0 x1) = (e49 x0) := by kernel_rfl
theorem hb12_1 (x0 x1) : boolOf? (ent (e50 x0 x1) (.t 12)) = some x1 := by kernel_rfl
def g12_7 (x0 : V26) (k0 : V26 → Int → Option R) : Option R :=
k0 x0 (0 : Int)
theorem t12_7 (x0) : exec cl N c12_7 (e49 x0) K = (g12_7 x0 (fun y0 y1 => K .normal (e3 y0 y1))) := by
  kernel_rfl
theorem kp12_3 (x0 x1) : keep [1, 3] (e3 x0 x1) = (e3 x0 x1) := by kernel_rfl
def g12_8 (x0 : V26) (x1 : Int) (k0 : V26 → Int → Bool → Option R) : Option R :=
k0 x0 x1 (decide (x1 < (x0.2.1.length : Int)))
theorem t12_8 (x0 x1) : exec cl N c12_8 (e3 x0 x1) K = (g12_8 x0 x1 (fun y0 y1 y2 => K .normal (e51 y0 y1 y2))) := by
  kernel_rfl
theorem kp12_4 (x0 x1 x2) : keep [1, 3] (e51 x0 x1 x2) = (e3 x0 x1) := by kernel_rfl
theorem hb12_2 (x0 x1 x2) : boolOf? (ent (e51 x0 x1 x2) (.t 17)) = some x2 := by kernel_rfl
def g12_10 (S41 : V20 → Option (Int)) (x0 : V26) (x1 : Int) (k0 : V26 → Int → Int → Option R) : Option R :=
if 0 ≤ x1 ∧ x1 < (x0.2.1.length : Int) then
(S41 (x0.2.1.getD x1.toNat ((0 : Int), ((0 : Int), ([], ()))))).bind fun r220 =>
k0 x0 x1 r220
else none
theorem t12_10 (S41) (h41 : (ctr41 S41).holds cl) (x0 x1) : exec cl N c12_10 (e3 x0 x1) K = (g12_10 S41 x0 x1 (fun y0 y1 y2 => K .normal (e4 y0 y1 y2))) := by
  rw [← put_eq h41]
  kernel_rfl
def g12_11 (x0 : V26) (x1 x2 : Int) (k0 : V26 → Int → Int → Bool → Option R) : Option R :=
k0 x0 x1 x2 (x2 != (0 : Int))
theorem t12_11 (x0 x1 x2) : exec cl N c12_11 (e4 x0 x1 x2) K = (g12_11 x0 x1 x2 (fun y0 y1 y2 y3 => K .normal (e52 y0 y1 y2 y3))) := by
  kernel_rfl
def g12_12 (x0 : V26) (x1 x2 : Int) (x3 : Bool) (k0 : Int → Option R) : Option R :=
k0 x2
theorem t12_12 (x0 x1 x2 x3) : exec cl N c12_12 (e52 x0 x1 x2 x3) K = (g12_12 x0 x1 x2 x3 (fun y0 => K .normal [(2, .v U2 y0)])) := by
  kernel_rfl
theorem kp12_5 (x0) : keep [1, 2, 3] [(2, .v U2 x0)] = (e45 x0) := by kernel_rfl
theorem kp12_6 (x0 x1 x2 x3) : keep [1, 2, 3] (e52 x0 x1 x2 x3) = (e53 x0 x1) := by kernel_rfl
theorem hb12_3 (x0 x1 x2 x3) : boolOf? (ent (e52 x0 x1 x2 x3) (.t 27)) = some x3 := by kernel_rfl
theorem kp12_7 (x0) : keep [1, 2, 3] (e45 x0) = (e45 x0) := by kernel_rfl
theorem kp12_8 (x0 x1) : keep [1, 2, 3] (e53 x0 x1) = (e53 x0 x1) := by kernel_rfl
def g12_15 (x0 : V26) (x1 : Int) (k0 : V26 → Int → Option R) : Option R :=
k0 x0 (IntKind.i64.wrap (x1 + (1 : Int)))
theorem t12_15 (x0 x1) : exec cl N c12_15 (e53 x0 x1) K = (g12_15 x0 x1 (fun y0 y1 => K .normal (e3 y0 y1))) := by
  kernel_rfl
def g12_16 (S41 : V20 → Option (Int)) (x0 : V26) (x1 : Int) (k0 : Int → Option R) (k1 : V26 → Int → Option R) (k2 : V26 → Int → Option R) : Option R :=
(g12_8 x0 x1 (fun y0 y1 y2 => brB y2 ((fun y0 y1 => (g12_10 S41 y0 y1 (fun y0 y1 y2 => (g12_11 y0 y1 y2 (fun y0 y1 y2 y3 => brB y3 (g12_12 y0 y1 y2 y3 (fun y0 => ((fun y0 => (k0 y0)) y0))) (g12_15 y0 y1 k1)))))) y0 y1) (k2 y0 y1)))
theorem t12_16 (S41) (h41 : (ctr41 S41).holds cl) (x0 x1) : exec cl N c12_16 (e3 x0 x1) K = (g12_16 S41 x0 x1 (fun y0 => K .ret (e45 y0)) (fun y0 y1 => K .normal (e3 y0 y1)) (fun y0 y1 => K (.exit 0) (e3 y0 y1))) := by
  simp only [c12_16, exec_seq, seqK_normal, seqK_exit, seqK_ret, t12_8, c12_9, exec_out, exec_cond', hb12_2, Option.bind_some, brB_true, brB_false, exec_skip, exec_exit, kp12_4, c12_14, exec_block, t12_10 S41 h41, t12_11, c12_13, hb12_3, t12_12, exec_ret, kp12_5, kp12_6, blockK_normal, blockK_ret, blockK_eq, kp12_7, kp12_8, t12_15]
  rfl
def l12_17 {R : Type} (S41 : V20 → Option (Int)) (k0 : Int → Option R) (k1 : V26 → Int → Option R) : Nat → V26 → Int → Option R
  | 0, _, _ => none
  | m + 1, x0, x1 => (g12_16 S41 x0 x1 k0 (fun y0 y1 => l12_17 S41 k0 k1 m y0 y1) k1)
theorem lt12_17 (S41) (h41 : (ctr41 S41).holds cl) : ∀ (m) (x0 x1), iter [1, 3] (fun env K => exec cl N c12_16 env K) K m (e3 x0 x1) = l12_17 S41 (fun y0 => K .ret (e45 y0)) (fun y0 y1 => K (.exit 0) (e3 y0 y1)) m x0 x1 := by
  intro m
  induction m with
  | zero => intros; rfl
  | succ m ih =>
    intro x0 x1
    simp only [iter_succ, t12_16 S41 h41, loopK_normal, loopK_exit, loopK_ret, kp12_3, ih]
    rfl
theorem kp12_9 (x0) : keep [2] (e45 x0) = [(2, .v U2 x0)] := by kernel_rfl
theorem kp12_10 (x0 x1) : keep [2] (e3 x0 x1) = [(2, .dead)] := by kernel_rfl
def g12_17 (N : Nat) (S41 : V20 → Option (Int)) (x0 : V26) (x1 : Int) (k0 : Int → Option R) (k1 : Option R) : Option R :=
l12_17 S41 (fun y0 => k0 y0) (fun y0 y1 => k1) N x0 x1
theorem t12_17 (S41) (h41 : (ctr41 S41).holds cl) (x0 x1) : exec cl N c12_17 (e3 x0 x1) K = (g12_17 N S41 x0 x1 (fun y0 => K .ret [(2, .v U2 y0)]) (K (.exit 0) [(2, .dead)])) := by
  simp only [c12_17, exec_out, exec_loop, kp12_3, lt12_17 S41 h41, kp12_10, kp12_9]
  rfl
theorem kp12_11 (x0) : keep [2] [(2, .v U2 x0)] = [(2, .v U2 x0)] := by kernel_rfl
theorem kp12_12 : keep [2] [(2, .dead)] = [(2, .dead)] := by kernel_rfl
def g12_19 (k0 : Int → Option R) : Option R :=
k0 (0 : Int)
theorem t12_19 : exec cl N c12_19 [(2, .dead)] K = (g12_19 (fun y0 => K .normal [(2, .v U2 y0)])) := by
  kernel_rfl
def g12_20 (N : Nat) (S40 : V1 → Option (Bool)) (S41 : V20 → Option (Int)) (x0 : V26) (k0 : Int → Option R) (k1 : Int → Option R) : Option R :=
(g12_0 x0 (fun y0 => (g12_1 S40 y0 (fun y0 y1 => brB y1 (g12_2 y0 y1 (fun y0 => ((fun y0 => (k0 y0)) y0))) ((fun y0 => (g12_4 y0 (fun y0 y1 => brB y1 (g12_5 y0 y1 (fun y0 => ((fun y0 => (k0 y0)) y0))) ((fun y0 => (g12_7 y0 (fun y0 y1 => (g12_17 N S41 y0 y1 (fun y0 => (k1 y0)) (g12_19 (fun y0 => (k1 y0))))))) y0)))) y0)))))
theorem t12_20 (S40) (S41) (h40 : (ctr40 S40).holds cl) (h41 : (ctr41 S41).holds cl) (x0) : exec cl N c12_20 [(0, .v U28 x0)] K = (g12_20 N S40 S41 x0 (fun y0 => K .ret (e39 y0)) (fun y0 => K .ret [(2, .v U2 y0)])) := by
  simp only [c12_20, exec_seq, seqK_normal, seqK_exit, seqK_ret, t12_0, t12_1 S40 h40, c12_3, exec_out, exec_cond', hb12_0, Option.bind_some, brB_true, brB_false, t12_2, exec_ret, exec_skip, kp12_0, kp12_1, t12_4, c12_6, hb12_1, t12_5, kp12_2, t12_7, c12_18, exec_block, t12_17 S41 h41, blockK_normal, blockK_ret, blockK_eq, kp12_11, kp12_12, t12_19]
  rfl
theorem rk12_0 (y0) : retK d12 .ret (e39 y0) = some [.v U2 y0] := by kernel_rfl
theorem rk12_1 (y0) : retK d12 .ret [(2, .v U2 y0)] = some [.v U2 y0] := by kernel_rfl
def g12 (N : Nat) (S40 : V1 → Option (Bool)) (S41 : V20 → Option (Int)) (x0 : V26) (k : Int → Option R) : Option R :=
(g12_20 N S40 S41 x0 (fun y0 => k y0) (fun y0 => k y0))
theorem gen12 {N : Nat} {cl : Cal} (S40 : V1 → Option (Bool)) (S41 : V20 → Option (Int)) (h40 : (ctr40 S40).holds cl) (h41 : (ctr41 S41).holds cl) (x0 : V26) {R : Type} (k : List E → Option R) : exec cl N c12 (params 0 [.v U28 x0]) (fun e env => (retK d12 e env).bind k) = g12 N S40 S41 x0 (fun (r0 : Int) => k [.v U2 r0]) := by
  have e0 : params 0 [.v U28 x0] = [(0, .v U28 x0)] := by kernel_rfl
  simp only [c12, e0, t12_20 S40 S41 h40 h41, rk12_0, rk12_1, Option.bind_some]
  rfl
def ctr12 (S : V26 → Option (Int)) : Ctr := { A := V26 × Unit, B := Int, f := 12, enc := fun a => [.v U28 a.1], dec := (decC (decV U28) dec0), S := fun a => S a.1, ent := fun b => [.v U2 b], ok := (decV_cons (T := U28) (fun es b h => dec0_some h)) }
def S12 (N : Nat) (x0 : V26) : Option (Int) := g12 N (S40 N) (S41 N) x0 (fun (r0 : Int) => some (r0))
def g18_0 (x0 x1 : V26) (k0 : V26 → V26 → V26 → Option R) : Option R :=
k0 x0 x1 ([], ([], ()))
theorem t18_0 (x0 x1) : exec cl N c18_0 [(0, .v U28 x0), (1, .v U28 x1)] K = (g18_0 x0 x1 (fun y0 y1 y2 => K .normal (e54 y0 y1 y2))) := by
  kernel_rfl
def g18_1 (S12 : V26 → Option (Int)) (x0 x1 x2 : V26) (k0 : V26 → V26 → V26 → Int → Option R) : Option R :=
(S12 x0).bind fun r230 =>
k0 x0 x1 x2 r230
theorem t18_1 (S12) (h12 : (ctr12 S12).holds cl) (x0 x1 x2) : exec cl N c18_1 (e54 x0 x1 x2) K = (g18_1 S12 x0 x1 x2 (fun y0 y1 y2 y3 => K .normal (e55 y0 y1 y2 y3))) := by
  rw [← put_eq h12]
  kernel_rfl
def g18_2 (x0 x1 x2 : V26) (x3 : Int) (k0 : V26 → V26 → V26 → Int → Bool → Option R) : Option R :=
k0 x0 x1 x2 x3 (x3 != (0 : Int))
theorem t18_2 (x0 x1 x2 x3) : exec cl N c18_2 (e55 x0 x1 x2 x3) K = (g18_2 x0 x1 x2 x3 (fun y0 y1 y2 y3 y4 => K .normal (e56 y0 y1 y2 y3 y4))) := by
  kernel_rfl
def g18_3 (x0 x1 x2 : V26) (x3 : Int) (x4 : Bool) (k0 : V26 → Int → Option R) : Option R :=
k0 ([], [], ()) x3
theorem t18_3 (x0 x1 x2 x3 x4) : exec cl N c18_3 (e56 x0 x1 x2 x3 x4) K = (g18_3 x0 x1 x2 x3 x4 (fun y0 y1 => K .normal (e57 y0 y1))) := by
  kernel_rfl
theorem kp18_0 (x0 x1) : keep [2, 3, 4, 5] (e57 x0 x1) = (e58 x0 x1) := by kernel_rfl
theorem kp18_1 (x0 x1 x2 x3 x4) : keep [2, 3, 4, 5] (e56 x0 x1 x2 x3 x4) = (e59 x0 x1 x2) := by kernel_rfl
theorem hb18_0 (x0 x1 x2 x3 x4) : boolOf? (ent (e56 x0 x1 x2 x3 x4) (.t 11)) = some x4 := by kernel_rfl
def g18_5 (S12 : V26 → Option (Int)) (x0 x1 x2 : V26) (k0 : V26 → V26 → V26 → Int → Option R) : Option R :=
(S12 x1).bind fun r232 =>
k0 x0 x1 x2 r232
theorem t18_5 (S12) (h12 : (ctr12 S12).holds cl) (x0 x1 x2) : exec cl N c18_5 (e59 x0 x1 x2) K = (g18_5 S12 x0 x1 x2 (fun y0 y1 y2 y3 => K .normal (e60 y0 y1 y2 y3))) := by
  rw [← put_eq h12]
  kernel_rfl
def g18_6 (x0 x1 x2 : V26) (x3 : Int) (k0 : V26 → V26 → V26 → Int → Bool → Option R) : Option R :=
k0 x0 x1 x2 x3 (x3 != (0 : Int))
theorem t18_6 (x0 x1 x2 x3) : exec cl N c18_6 (e60 x0 x1 x2 x3) K = (g18_6 x0 x1 x2 x3 (fun y0 y1 y2 y3 y4 => K .normal (e61 y0 y1 y2 y3 y4))) := by
  kernel_rfl
def g18_7 (x0 x1 x2 : V26) (x3 : Int) (x4 : Bool) (k0 : V26 → Int → Option R) : Option R :=
k0 ([], [], ()) x3
theorem t18_7 (x0 x1 x2 x3 x4) : exec cl N c18_7 (e61 x0 x1 x2 x3 x4) K = (g18_7 x0 x1 x2 x3 x4 (fun y0 y1 => K .normal (e57 y0 y1))) := by
  kernel_rfl
theorem kp18_2 (x0 x1 x2 x3 x4) : keep [2, 3, 4, 5] (e61 x0 x1 x2 x3 x4) = (e59 x0 x1 x2) := by kernel_rfl
theorem hb18_1 (x0 x1 x2 x3 x4) : boolOf? (ent (e61 x0 x1 x2 x3 x4) (.t 17)) = some x4 := by kernel_rfl
def g18_9 (x0 x1 x2 : V26) (k0 : V26 → V26 → V26 → Bool → Option R) : Option R :=
k0 x0 x1 x2 (decide ((IntKind.i64.wrap ((x0.2.1.length : Int) + (x1.2.1.length : Int))) > (30 : Int)))
theorem t18_9 (x0 x1 x2) : exec cl N c18_9 (e59 x0 x1 x2) K = (g18_9 x0 x1 x2 (fun y0 y1 y2 y3 => K .normal (e62 y0 y1 y2 y3))) := by
  kernel_rfl
def g18_10 (x0 x1 x2 : V26) (x3 : Bool) (k0 : V26 → Int → Option R) : Option R :=
k0 ([], [], ()) (3 : Int)
theorem t18_10 (x0 x1 x2 x3) : exec cl N c18_10 (e62 x0 x1 x2 x3) K = (g18_10 x0 x1 x2 x3 (fun y0 y1 => K .normal (e57 y0 y1))) := by
  kernel_rfl
theorem kp18_3 (x0 x1 x2 x3) : keep [2, 3, 4, 5] (e62 x0 x1 x2 x3) = (e59 x0 x1 x2) := by kernel_rfl
theorem hb18_2 (x0 x1 x2 x3) : boolOf? (ent (e62 x0 x1 x2 x3) (.t 27)) = some x3 := by kernel_rfl
def g18_12 (x0 x1 x2 : V26) (k0 : V26 → Int → Option R) : Option R :=
if ([] : List V20).length + x0.2.1.length ≤ 3518437208883 then
if (([] : List V20) ++ x0.2.1).length + x1.2.1.length ≤ 3518437208883 then
k0 (x0.1, ((([] : List V20) ++ x0.2.1) ++ x1.2.1), ()) (0 : Int)
else none
else none
theorem t18_12 (x0 x1 x2) : exec cl N c18_12 (e59 x0 x1 x2) K = (g18_12 x0 x1 x2 (fun y0 y1 => K .normal (e63 y0 y1))) := by
  kernel_rfl
def g18_13 (S12 : V26 → Option (Int)) (x0 x1 : V26) (k0 : V26 → Int → Option R) (k1 : V26 → Int → Option R) : Option R :=
(g18_0 x0 x1 (fun y0 y1 y2 => (g18_1 S12 y0 y1 y2 (fun y0 y1 y2 y3 => (g18_2 y0 y1 y2 y3 (fun y0 y1 y2 y3 y4 => brB y4 (g18_3 y0 y1 y2 y3 y4 (fun y0 y1 => ((fun y0 y1 => (k0 y0 y1)) y0 y1))) ((fun y0 y1 y2 => (g18_5 S12 y0 y1 y2 (fun y0 y1 y2 y3 => (g18_6 y0 y1 y2 y3 (fun y0 y1 y2 y3 y4 => brB y4 (g18_7 y0 y1 y2 y3 y4 (fun y0 y1 => ((fun y0 y1 => (k0 y0 y1)) y0 y1))) ((fun y0 y1 y2 => (g18_9 y0 y1 y2 (fun y0 y1 y2 y3 => brB y3 (g18_10 y0 y1 y2 y3 (fun y0 y1 => ((fun y0 y1 => (k0 y0 y1)) y0 y1))) ((fun y0 y1 y2 => (g18_12 y0 y1 y2 (fun y0 y1 => (k1 y0 y1)))) y0 y1 y2)))) y0 y1 y2)))))) y0 y1 y2)))))))
theorem t18_13 (S12) (h12 : (ctr12 S12).holds cl) (x0 x1) : exec cl N c18_13 [(0, .v U28 x0), (1, .v U28 x1)] K = (g18_13 S12 x0 x1 (fun y0 y1 => K .ret (e58 y0 y1)) (fun y0 y1 => K .ret (e63 y0 y1))) := by
  simp only [c18_13, exec_seq, seqK_normal, seqK_exit, seqK_ret, t18_0, t18_1 S12 h12, t18_2, c18_4, exec_out, exec_cond', hb18_0, Option.bind_some, brB_true, brB_false, t18_3, exec_ret, exec_skip, kp18_0, kp18_1, t18_5 S12 h12, t18_6, c18_8, hb18_1, t18_7, kp18_2, t18_9, c18_11, hb18_2, t18_10, kp18_3, t18_12]
  rfl
theorem rk18_0 (y0 y1) : retK d18 .ret (e58 y0 y1) = some [.v U28 y0, .v U2 y1] := by kernel_rfl
theorem rk18_1 (y0 y1) : retK d18 .ret (e63 y0 y1) = some [.v U28 y0, .v U2 y1] := by kernel_rfl
def g18 (S12 : V26 → Option (Int)) (x0 x1 : V26) (k : V26 → Int → Option R) : Option R :=
(g18_13 S12 x0 x1 (fun y0 y1 => k y0 y1) (fun y0 y1 => k y0 y1))
theorem gen18 {N : Nat} {cl : Cal} (S12 : V26 → Option (Int)) (h12 : (ctr12 S12).holds cl) (x0 : V26) (x1 : V26) {R : Type} (k : List E → Option R) : exec cl N c18 (params 0 [.v U28 x0, .v U28 x1]) (fun e env => (retK d18 e env).bind k) = g18 S12 x0 x1 (fun (r0 : V26) (r1 : Int) => k [.v U28 r0, .v U2 r1]) := by
  have e0 : params 0 [.v U28 x0, .v U28 x1] = [(0, .v U28 x0), (1, .v U28 x1)] := by kernel_rfl
  simp only [c18, e0, t18_13 S12 h12, rk18_0, rk18_1, Option.bind_some]
  rfl
def ctr18 (S : V26 → V26 → Option V27) : Ctr := { A := V26 × V26 × Unit, B := V26 × Int, f := 18, enc := fun a => [.v U28 a.1, .v U28 a.2.1], dec := (decC (decV U28) (decC (decV U28) dec0)), S := fun a => S a.1 a.2.1, ent := fun b => [.v U28 b.1, .v U2 b.2], ok := (decV_cons (T := U28) (decV_cons (T := U28) (fun es b h => dec0_some h))) }
def S18 (N : Nat) (x0 : V26) (x1 : V26) : Option V27 := g18 (S12 N) x0 x1 (fun (r0 : V26) (r1 : Int) => some (r0, r1))
def g86_0 (x0 : Int) (k0 : Int → Option R) : Option R :=
k0 x0
theorem t86_0 (x0) : exec cl N c86_0 [(0, .v U1 x0)] K = (g86_0 x0 (fun y0 => K .normal [(0, .v U1 y0)])) := by
  kernel_rfl
def g86_1 (x0 : Int) (k0 : Bool → Option R) : Option R :=
brB (decide (x0 ≥ (97 : Int))) (k0 (decide (x0 ≤ (122 : Int)))) (k0 false)
theorem t86_1 (x0) : exec cl N c86_1 [(0, .v U1 x0)] K = (g86_1 x0 (fun y0 => K .normal [(2, .v .bool y0)])) := by
  kernel_rfl
def g86_2 (x0 : Int) (k0 : Bool → Option R) : Option R :=
(g86_0 x0 (fun y0 => (g86_1 y0 (fun y0 => (k0 y0)))))
theorem t86_2 (x0) : exec cl N c86_2 [(0, .v U1 x0)] K = (g86_2 x0 (fun y0 => K .ret [(2, .v .bool y0)])) := by
  simp only [c86_2, exec_seq, seqK_normal, seqK_exit, seqK_ret, t86_0, t86_1, exec_ret]
  rfl
theorem rk86_0 (y0) : retK d86 .ret [(2, .v .bool y0)] = some [.v .bool y0] := by kernel_rfl
def g86 (x0 : Int) (k : Bool → Option R) : Option R :=
(g86_2 x0 (fun y0 => k y0))
theorem gen86 {N : Nat} {cl : Cal} (x0 : Int) {R : Type} (k : List E → Option R) : exec cl N c86 (params 0 [.v U1 x0]) (fun e env => (retK d86 e env).bind k) = g86 x0 (fun (r0 : Bool) => k [.v .bool r0]) := by
  have e0 : params 0 [.v U1 x0] = [(0, .v U1 x0)] := by kernel_rfl
  simp only [c86, e0, t86_2, rk86_0, Option.bind_some]
  rfl
def ctr86 (S : Int → Option (Bool)) : Ctr := { A := Int × Unit, B := Bool, f := 86, enc := fun a => [.v U1 a.1], dec := (decC (decV U1) dec0), S := fun a => S a.1, ent := fun b => [.v .bool b], ok := (decV_cons (T := U1) (fun es b h => dec0_some h)) }
def S86 (N : Nat) (x0 : Int) : Option (Bool) := g86 x0 (fun (r0 : Bool) => some (r0))
def g87_0 (x0 : Int) (k0 : Int → Option R) : Option R :=
k0 x0
theorem t87_0 (x0) : exec cl N c87_0 [(0, .v U1 x0)] K = (g87_0 x0 (fun y0 => K .normal [(0, .v U1 y0)])) := by
  kernel_rfl
def g87_1 (x0 : Int) (k0 : Bool → Option R) : Option R :=
brB (decide (x0 ≥ (48 : Int))) (k0 (decide (x0 ≤ (57 : Int)))) (k0 false)
theorem t87_1 (x0) : exec cl N c87_1 [(0, .v U1 x0)] K = (g87_1 x0 (fun y0 => K .normal [(2, .v .bool y0)])) := by
  kernel_rfl
def g87_2 (x0 : Int) (k0 : Bool → Option R) : Option R :=
(g87_0 x0 (fun y0 => (g87_1 y0 (fun y0 => (k0 y0)))))
theorem t87_2 (x0) : exec cl N c87_2 [(0, .v U1 x0)] K = (g87_2 x0 (fun y0 => K .ret [(2, .v .bool y0)])) := by
  simp only [c87_2, exec_seq, seqK_normal, seqK_exit, seqK_ret, t87_0, t87_1, exec_ret]
  rfl
theorem rk87_0 (y0) : retK d87 .ret [(2, .v .bool y0)] = some [.v .bool y0] := by kernel_rfl
def g87 (x0 : Int) (k : Bool → Option R) : Option R :=
(g87_2 x0 (fun y0 => k y0))
theorem gen87 {N : Nat} {cl : Cal} (x0 : Int) {R : Type} (k : List E → Option R) : exec cl N c87 (params 0 [.v U1 x0]) (fun e env => (retK d87 e env).bind k) = g87 x0 (fun (r0 : Bool) => k [.v .bool r0]) := by
  have e0 : params 0 [.v U1 x0] = [(0, .v U1 x0)] := by kernel_rfl
  simp only [c87, e0, t87_2, rk87_0, Option.bind_some]
  rfl
def ctr87 (S : Int → Option (Bool)) : Ctr := { A := Int × Unit, B := Bool, f := 87, enc := fun a => [.v U1 a.1], dec := (decC (decV U1) dec0), S := fun a => S a.1, ent := fun b => [.v .bool b], ok := (decV_cons (T := U1) (fun es b h => dec0_some h)) }
def S87 (N : Nat) (x0 : Int) : Option (Bool) := g87 x0 (fun (r0 : Bool) => some (r0))
def g72_0 (x0 : V1) (k0 : V1 → Option R) : Option R :=
k0 x0
theorem t72_0 (x0) : exec cl N c72_0 [(0, .v .str x0)] K = (g72_0 x0 (fun y0 => K .normal [(0, .v .str y0)])) := by
  kernel_rfl
def g72_1 (S86 : Int → Option (Bool)) (x0 : V1) (k0 : V1 → Bool → Option R) : Option R :=
brB (x0 == ([] : List UInt8)) (k0 x0 true) (if 0 ≤ (0 : Int) ∧ (0 : Int) < (x0.length : Int) then
(S86 ((x0.getD (0 : Int).toNat 0).toNat : Int)).bind fun r269 =>
k0 x0 (!r269)
else none)
theorem t72_1 (S86) (h86 : (ctr86 S86).holds cl) (x0) : exec cl N c72_1 [(0, .v .str x0)] K = (g72_1 S86 x0 (fun y0 y1 => K .normal (e64 y0 y1))) := by
  rw [← put_eq h86]
  kernel_rfl
def g72_2 (x0 : V1) (x1 : Bool) (k0 : Int → Option R) : Option R :=
k0 (0 : Int)
theorem t72_2 (x0 x1) : exec cl N c72_2 (e64 x0 x1) K = (g72_2 x0 x1 (fun y0 => K .normal [(2, .v U2 y0)])) := by
  kernel_rfl
theorem kp72_0 (x0) : keep [0, 2] [(2, .v U2 x0)] = (e11 x0) := by kernel_rfl
theorem kp72_1 (x0 x1) : keep [0, 2] (e64 x0 x1) = (e12 x0) := by kernel_rfl
theorem hb72_0 (x0 x1) : boolOf? (ent (e64 x0 x1) (.t 12)) = some x1 := by kernel_rfl
def g72_4 (x0 : V1) (k0 : V1 → Int → Option R) : Option R :=
k0 x0 (1 : Int)
theorem t72_4 (x0) : exec cl N c72_4 (e12 x0) K = (g72_4 x0 (fun y0 y1 => K .normal (e13 y0 y1))) := by
  kernel_rfl
theorem kp72_2 (x0 x1) : keep [0, 3] (e13 x0 x1) = (e13 x0 x1) := by kernel_rfl
def g72_5 (x0 : V1) (x1 : Int) (k0 : V1 → Int → Bool → Option R) : Option R :=
k0 x0 x1 (decide (x1 < (x0.length : Int)))
theorem t72_5 (x0 x1) : exec cl N c72_5 (e13 x0 x1) K = (g72_5 x0 x1 (fun y0 y1 y2 => K .normal (e65 y0 y1 y2))) := by
  kernel_rfl
theorem kp72_3 (x0 x1 x2) : keep [0, 3] (e65 x0 x1 x2) = (e13 x0 x1) := by kernel_rfl
theorem hb72_1 (x0 x1 x2) : boolOf? (ent (e65 x0 x1 x2) (.t 16)) = some x2 := by kernel_rfl
def g72_7 (x0 : V1) (x1 : Int) (k0 : V1 → Int → Int → Option R) : Option R :=
if 0 ≤ x1 ∧ x1 < (x0.length : Int) then
k0 x0 x1 ((x0.getD x1.toNat 0).toNat : Int)
else none
theorem t72_7 (x0 x1) : exec cl N c72_7 (e13 x0 x1) K = (g72_7 x0 x1 (fun y0 y1 y2 => K .normal [(0, .v .str y0), (3, .v U2 y1), (4, .v U1 y2)])) := by
  kernel_rfl
def g72_8 (S86 : Int → Option (Bool)) (S87 : Int → Option (Bool)) (x0 : V1) (x1 x2 : Int) (k0 : V1 → Int → Int → Bool → Option R) : Option R :=
(S86 x2).bind fun r272 =>
brB r272 (k0 x0 x1 x2 true) ((S87 x2).bind fun r273 =>
k0 x0 x1 x2 r273)
theorem t72_8 (S86) (S87) (h86 : (ctr86 S86).holds cl) (h87 : (ctr87 S87).holds cl) (x0 x1 x2) : exec cl N c72_8 [(0, .v .str x0), (3, .v U2 x1), (4, .v U1 x2)] K = (g72_8 S86 S87 x0 x1 x2 (fun y0 y1 y2 y3 => K .normal (e66 y0 y1 y2 y3))) := by
  rw [← put_eq h86]
  rw [← put_eq h87]
  kernel_rfl
def g72_9 (x0 : V1) (x1 x2 : Int) (x3 : Bool) (k0 : V1 → Int → Option R) : Option R :=
k0 x0 (IntKind.i64.wrap (x1 + (1 : Int)))
theorem t72_9 (x0 x1 x2 x3) : exec cl N c72_9 (e66 x0 x1 x2 x3) K = (g72_9 x0 x1 x2 x3 (fun y0 y1 => K .normal (e13 y0 y1))) := by
  kernel_rfl
theorem kp72_4 (x0 x1) : keep [0, 2, 3] (e13 x0 x1) = (e31 x0 x1) := by kernel_rfl
def g72_10 (S86 : Int → Option (Bool)) (S87 : Int → Option (Bool)) (x0 : V1) (x1 x2 : Int) (x3 : Bool) (k0 : V1 → Int → Bool → Option R) : Option R :=
brB (x2 == (45 : Int)) (brB (decide ((IntKind.i64.wrap (x1 + (1 : Int))) < (x0.length : Int))) (let v278 : Int := (IntKind.i64.wrap (x1 + (1 : Int)))
if 0 ≤ v278 ∧ v278 < (x0.length : Int) then
(S86 ((x0.getD v278.toNat 0).toNat : Int)).bind fun r280 =>
brB r280 (k0 x0 x1 true) (let v281 : Int := (IntKind.i64.wrap (x1 + (1 : Int)))
if 0 ≤ v281 ∧ v281 < (x0.length : Int) then
(S87 ((x0.getD v281.toNat 0).toNat : Int)).bind fun r283 =>
k0 x0 x1 r283
else none)
else none) (k0 x0 x1 false)) (k0 x0 x1 false)
theorem t72_10 (S86) (S87) (h86 : (ctr86 S86).holds cl) (h87 : (ctr87 S87).holds cl) (x0 x1 x2 x3) : exec cl N c72_10 (e66 x0 x1 x2 x3) K = (g72_10 S86 S87 x0 x1 x2 x3 (fun y0 y1 y2 => K .normal (e67 y0 y1 y2))) := by
  rw [← put_eq h86]
  rw [← put_eq h87]
  kernel_rfl
def g72_11 (x0 : V1) (x1 : Int) (x2 : Bool) (k0 : V1 → Int → Option R) : Option R :=
k0 x0 (IntKind.i64.wrap (x1 + (2 : Int)))
theorem t72_11 (x0 x1 x2) : exec cl N c72_11 (e67 x0 x1 x2) K = (g72_11 x0 x1 x2 (fun y0 y1 => K .normal (e13 y0 y1))) := by
  kernel_rfl
def g72_12 (x0 : V1) (x1 : Int) (x2 : Bool) (k0 : Int → Option R) : Option R :=
k0 x1
theorem t72_12 (x0 x1 x2) : exec cl N c72_12 (e67 x0 x1 x2) K = (g72_12 x0 x1 x2 (fun y0 => K .normal [(2, .v U2 y0)])) := by
  kernel_rfl
theorem kp72_5 (x0) : keep [0, 2, 3] [(2, .v U2 x0)] = (e30 x0) := by kernel_rfl
theorem hb72_2 (x0 x1 x2) : boolOf? (ent (e67 x0 x1 x2) (.t 30)) = some x2 := by kernel_rfl
theorem kp72_6 (x0 x1) : keep [0, 2, 3] (e31 x0 x1) = (e31 x0 x1) := by kernel_rfl
theorem kp72_7 (x0) : keep [0, 2, 3] (e30 x0) = (e30 x0) := by kernel_rfl
theorem hb72_3 (x0 x1 x2 x3) : boolOf? (ent (e66 x0 x1 x2 x3) (.t 21)) = some x3 := by kernel_rfl
def g72_17 (S86 : Int → Option (Bool)) (S87 : Int → Option (Bool)) (x0 : V1) (x1 : Int) (k0 : V1 → Int → Option R) (k1 : Int → Option R) (k2 : V1 → Int → Option R) : Option R :=
(g72_5 x0 x1 (fun y0 y1 y2 => brB y2 ((fun y0 y1 => (g72_7 y0 y1 (fun y0 y1 y2 => (g72_8 S86 S87 y0 y1 y2 (fun y0 y1 y2 y3 => brB y3 (g72_9 y0 y1 y2 y3 (fun y0 y1 => (k0 y0 y1))) (g72_10 S86 S87 y0 y1 y2 y3 (fun y0 y1 y2 => brB y2 (g72_11 y0 y1 y2 (fun y0 y1 => (k0 y0 y1))) (g72_12 y0 y1 y2 (fun y0 => ((fun y0 => (k1 y0)) y0)))))))))) y0 y1) (k2 y0 y1)))
theorem t72_17 (S86) (S87) (h86 : (ctr86 S86).holds cl) (h87 : (ctr87 S87).holds cl) (x0 x1) : exec cl N c72_17 (e13 x0 x1) K = (g72_17 S86 S87 x0 x1 (fun y0 y1 => K .normal (e31 y0 y1)) (fun y0 => K .ret (e30 y0)) (fun y0 y1 => K (.exit 0) (e13 y0 y1))) := by
  simp only [c72_17, exec_seq, seqK_normal, seqK_exit, seqK_ret, t72_5, c72_6, exec_out, exec_cond', hb72_1, Option.bind_some, brB_true, brB_false, exec_skip, exec_exit, kp72_3, c72_16, exec_block, t72_7, c72_15, t72_8 S86 S87 h86 h87, c72_14, hb72_3, t72_9, t72_10 S86 S87 h86 h87, c72_13, hb72_2, t72_11, t72_12, exec_ret, kp72_4, kp72_5, kp72_6, kp72_7, blockK_normal, blockK_ret, blockK_eq]
  rfl
theorem kp72_8 (x0 x1) : keep [0, 3] (e31 x0 x1) = (e13 x0 x1) := by kernel_rfl
def l72_18 {R : Type} (S86 : Int → Option (Bool)) (S87 : Int → Option (Bool)) (k0 : Int → Option R) (k1 : V1 → Int → Option R) : Nat → V1 → Int → Option R
  | 0, _, _ => none
  | m + 1, x0, x1 => (g72_17 S86 S87 x0 x1 (fun y0 y1 => l72_18 S86 S87 k0 k1 m y0 y1) k0 k1)
theorem lt72_18 (S86) (S87) (h86 : (ctr86 S86).holds cl) (h87 : (ctr87 S87).holds cl) : ∀ (m) (x0 x1), iter [0, 3] (fun env K => exec cl N c72_17 env K) K m (e13 x0 x1) = l72_18 S86 S87 (fun y0 => K .ret (e30 y0)) (fun y0 y1 => K (.exit 0) (e13 y0 y1)) m x0 x1 := by
  intro m
  induction m with
  | zero => intros; rfl
  | succ m ih =>
    intro x0 x1
    simp only [iter_succ, t72_17 S86 S87 h86 h87, loopK_normal, loopK_exit, loopK_ret, kp72_8, ih]
    rfl
theorem kp72_9 (x0) : keep [2, 3] (e30 x0) = (e68 x0) := by kernel_rfl
theorem kp72_10 (x0 x1) : keep [2, 3] (e13 x0 x1) = (e69 x1) := by kernel_rfl
def g72_18 (N : Nat) (S86 : Int → Option (Bool)) (S87 : Int → Option (Bool)) (x0 : V1) (x1 : Int) (k0 : Int → Option R) (k1 : Int → Option R) : Option R :=
l72_18 S86 S87 (fun y0 => k0 y0) (fun y0 y1 => k1 y1) N x0 x1
theorem t72_18 (S86) (S87) (h86 : (ctr86 S86).holds cl) (h87 : (ctr87 S87).holds cl) (x0 x1) : exec cl N c72_18 (e13 x0 x1) K = (g72_18 N S86 S87 x0 x1 (fun y0 => K .ret (e68 y0)) (fun y0 => K (.exit 0) (e69 y0))) := by
  simp only [c72_18, exec_out, exec_loop, kp72_2, lt72_18 S86 S87 h86 h87, kp72_10, kp72_9]
  rfl
theorem kp72_11 (x0) : keep [2, 3] (e68 x0) = (e68 x0) := by kernel_rfl
theorem kp72_12 (x0) : keep [2, 3] (e69 x0) = (e69 x0) := by kernel_rfl
def g72_20 (x0 : Int) (k0 : Int → Option R) : Option R :=
k0 x0
theorem t72_20 (x0) : exec cl N c72_20 (e69 x0) K = (g72_20 x0 (fun y0 => K .normal [(2, .v U2 y0)])) := by
  kernel_rfl
def g72_21 (N : Nat) (S86 : Int → Option (Bool)) (S87 : Int → Option (Bool)) (x0 : V1) (k0 : Int → Option R) (k1 : Int → Option R) (k2 : Int → Option R) : Option R :=
(g72_0 x0 (fun y0 => (g72_1 S86 y0 (fun y0 y1 => brB y1 (g72_2 y0 y1 (fun y0 => ((fun y0 => (k0 y0)) y0))) ((fun y0 => (g72_4 y0 (fun y0 y1 => (g72_18 N S86 S87 y0 y1 (fun y0 => (k1 y0)) (fun y0 => ((fun y0 => (g72_20 y0 (fun y0 => (k2 y0)))) y0)))))) y0)))))
theorem t72_21 (S86) (S87) (h86 : (ctr86 S86).holds cl) (h87 : (ctr87 S87).holds cl) (x0) : exec cl N c72_21 [(0, .v .str x0)] K = (g72_21 N S86 S87 x0 (fun y0 => K .ret (e11 y0)) (fun y0 => K .ret (e68 y0)) (fun y0 => K .ret [(2, .v U2 y0)])) := by
  simp only [c72_21, exec_seq, seqK_normal, seqK_exit, seqK_ret, t72_0, t72_1 S86 h86, c72_3, exec_out, exec_cond', hb72_0, Option.bind_some, brB_true, brB_false, t72_2, exec_ret, exec_skip, kp72_0, kp72_1, t72_4, c72_19, exec_block, t72_18 S86 S87 h86 h87, blockK_normal, blockK_ret, blockK_eq, kp72_11, kp72_12, t72_20]
  rfl
theorem rk72_0 (y0) : retK d72 .ret (e11 y0) = some [.v U2 y0] := by kernel_rfl
theorem rk72_1 (y0) : retK d72 .ret (e68 y0) = some [.v U2 y0] := by kernel_rfl
theorem rk72_2 (y0) : retK d72 .ret [(2, .v U2 y0)] = some [.v U2 y0] := by kernel_rfl
def g72 (N : Nat) (S86 : Int → Option (Bool)) (S87 : Int → Option (Bool)) (x0 : V1) (k : Int → Option R) : Option R :=
(g72_21 N S86 S87 x0 (fun y0 => k y0) (fun y0 => k y0) (fun y0 => k y0))
theorem gen72 {N : Nat} {cl : Cal} (S86 : Int → Option (Bool)) (S87 : Int → Option (Bool)) (h86 : (ctr86 S86).holds cl) (h87 : (ctr87 S87).holds cl) (x0 : V1) {R : Type} (k : List E → Option R) : exec cl N c72 (params 0 [.v .str x0]) (fun e env => (retK d72 e env).bind k) = g72 N S86 S87 x0 (fun (r0 : Int) => k [.v U2 r0]) := by
  have e0 : params 0 [.v .str x0] = [(0, .v .str x0)] := by kernel_rfl
  simp only [c72, e0, t72_21 S86 S87 h86 h87, rk72_0, rk72_1, rk72_2, Option.bind_some]
  rfl
def ctr72 (S : V1 → Option (Int)) : Ctr := { A := V1 × Unit, B := Int, f := 72, enc := fun a => [.v .str a.1], dec := (decC (decV .str) dec0), S := fun a => S a.1, ent := fun b => [.v U2 b], ok := (decV_cons (T := .str) (fun es b h => dec0_some h)) }
def S72 (N : Nat) (x0 : V1) : Option (Int) := g72 N (S86 N) (S87 N) x0 (fun (r0 : Int) => some (r0))
def g53_0 (x0 : V1) (k0 : V1 → Option R) : Option R :=
k0 x0
theorem t53_0 (x0) : exec cl N c53_0 [(0, .v .str x0)] K = (g53_0 x0 (fun y0 => K .normal [(0, .v .str y0)])) := by
  kernel_rfl
def g53_1 (S72 : V1 → Option (Int)) (x0 : V1) (k0 : Bool → Option R) : Option R :=
brB (x0 != ([] : List UInt8)) (brB (decide ((x0.length : Int) ≤ (20 : Int))) ((S72 x0).bind fun r289 =>
k0 (r289 == (x0.length : Int))) (k0 false)) (k0 false)
theorem t53_1 (S72) (h72 : (ctr72 S72).holds cl) (x0) : exec cl N c53_1 [(0, .v .str x0)] K = (g53_1 S72 x0 (fun y0 => K .normal [(2, .v .bool y0)])) := by
  rw [← put_eq h72]
  kernel_rfl
def g53_2 (S72 : V1 → Option (Int)) (x0 : V1) (k0 : Bool → Option R) : Option R :=
(g53_0 x0 (fun y0 => (g53_1 S72 y0 (fun y0 => (k0 y0)))))
theorem t53_2 (S72) (h72 : (ctr72 S72).holds cl) (x0) : exec cl N c53_2 [(0, .v .str x0)] K = (g53_2 S72 x0 (fun y0 => K .ret [(2, .v .bool y0)])) := by
  simp only [c53_2, exec_seq, seqK_normal, seqK_exit, seqK_ret, t53_0, t53_1 S72 h72, exec_ret]
  rfl
theorem rk53_0 (y0) : retK d53 .ret [(2, .v .bool y0)] = some [.v .bool y0] := by kernel_rfl
def g53 (S72 : V1 → Option (Int)) (x0 : V1) (k : Bool → Option R) : Option R :=
(g53_2 S72 x0 (fun y0 => k y0))
theorem gen53 {N : Nat} {cl : Cal} (S72 : V1 → Option (Int)) (h72 : (ctr72 S72).holds cl) (x0 : V1) {R : Type} (k : List E → Option R) : exec cl N c53 (params 0 [.v .str x0]) (fun e env => (retK d53 e env).bind k) = g53 S72 x0 (fun (r0 : Bool) => k [.v .bool r0]) := by
  have e0 : params 0 [.v .str x0] = [(0, .v .str x0)] := by kernel_rfl
  simp only [c53, e0, t53_2 S72 h72, rk53_0, Option.bind_some]
  rfl
def ctr53 (S : V1 → Option (Bool)) : Ctr := { A := V1 × Unit, B := Bool, f := 53, enc := fun a => [.v .str a.1], dec := (decC (decV .str) dec0), S := fun a => S a.1, ent := fun b => [.v .bool b], ok := (decV_cons (T := .str) (fun es b h => dec0_some h)) }
def S53 (N : Nat) (x0 : V1) : Option (Bool) := g53 (S72 N) x0 (fun (r0 : Bool) => some (r0))
def g104_0 (x0 : V1) (x1 : Int) (k0 : V1 → Int → Option R) : Option R :=
k0 x0 x1
theorem t104_0 (x0 x1) : exec cl N c104_0 (e70 x0 x1) K = (g104_0 x0 x1 (fun y0 y1 => K .normal (e70 y0 y1))) := by
  kernel_rfl
def g104_1 (S109 : V1 → Int → Option (Int)) (x0 : V1) (x1 : Int) (k0 : Int → Option R) : Option R :=
(S109 x0 x1).bind fun r306 =>
k0 r306
theorem t104_1 (S109) (h109 : (ctr109 S109).holds cl) (x0 x1) : exec cl N c104_1 (e70 x0 x1) K = (g104_1 S109 x0 x1 (fun y0 => K .normal [(4, .v U2 y0)])) := by
  rw [← put_eq h109]
  kernel_rfl
def g104_2 (S109 : V1 → Int → Option (Int)) (x0 : V1) (x1 : Int) (k0 : Int → Option R) : Option R :=
(g104_0 x0 x1 (fun y0 y1 => (g104_1 S109 y0 y1 (fun y0 => (k0 y0)))))
theorem t104_2 (S109) (h109 : (ctr109 S109).holds cl) (x0 x1) : exec cl N c104_2 (e70 x0 x1) K = (g104_2 S109 x0 x1 (fun y0 => K .ret [(4, .v U2 y0)])) := by
  simp only [c104_2, exec_seq, seqK_normal, seqK_exit, seqK_ret, t104_0, t104_1 S109 h109, exec_ret]
  rfl
theorem rk104_0 (y0) : retK d104 .ret [(4, .v U2 y0)] = some [.v U2 y0] := by kernel_rfl
def g104 (S109 : V1 → Int → Option (Int)) (x0 : V1) (x1 : Int) (k : Int → Option R) : Option R :=
(g104_2 S109 x0 x1 (fun y0 => k y0))
theorem gen104 {N : Nat} {cl : Cal} (S109 : V1 → Int → Option (Int)) (h109 : (ctr109 S109).holds cl) (x0 : V1) (x1 : Int) {R : Type} (k : List E → Option R) : exec cl N c104 (params 0 [.v .str x0, .v U1 x1]) (fun e env => (retK d104 e env).bind k) = g104 S109 x0 x1 (fun (r0 : Int) => k [.v U2 r0]) := by
  have e0 : params 0 [.v .str x0, .v U1 x1] = (e70 x0 x1) := by kernel_rfl
  simp only [c104, e0, t104_2 S109 h109, rk104_0, Option.bind_some]
  rfl
def ctr104 (S : V1 → Int → Option (Int)) : Ctr := { A := V1 × Int × Unit, B := Int, f := 104, enc := fun a => [.v .str a.1, .v U1 a.2.1], dec := (decC (decV .str) (decC (decV U1) dec0)), S := fun a => S a.1 a.2.1, ent := fun b => [.v U2 b], ok := (decV_cons (T := .str) (decV_cons (T := U1) (fun es b h => dec0_some h))) }
def S104 (N : Nat) (x0 : V1) (x1 : Int) : Option (Int) := g104 (S109 N) x0 x1 (fun (r0 : Int) => some (r0))
def g99_0 (x0 : Int) (k0 : Int → Option R) : Option R :=
k0 x0
theorem t99_0 (x0) : exec cl N c99_0 [(0, .v U1 x0)] K = (g99_0 x0 (fun y0 => K .normal [(0, .v U1 y0)])) := by
  kernel_rfl
def g99_1 (S104 : V1 → Int → Option (Int)) (x0 : Int) (k0 : Bool → Option R) : Option R :=
brB (decide (x0 ≥ (32 : Int))) (brB (decide (x0 ≤ (126 : Int))) ((S104 ([32, 46, 44, 59, 58, 33, 63, 34, 45, 91, 93, 60, 62, 123, 125] : List UInt8) x0).bind fun r311 =>
k0 (decide (r311 < (0 : Int)))) (k0 false)) (k0 false)
theorem t99_1 (S104) (h104 : (ctr104 S104).holds cl) (x0) : exec cl N c99_1 [(0, .v U1 x0)] K = (g99_1 S104 x0 (fun y0 => K .normal [(2, .v .bool y0)])) := by
  rw [← put_eq h104]
  kernel_rfl
def g99_2 (S104 : V1 → Int → Option (Int)) (x0 : Int) (k0 : Bool → Option R) : Option R :=
(g99_0 x0 (fun y0 => (g99_1 S104 y0 (fun y0 => (k0 y0)))))
theorem t99_2 (S104) (h104 : (ctr104 S104).holds cl) (x0) : exec cl N c99_2 [(0, .v U1 x0)] K = (g99_2 S104 x0 (fun y0 => K .ret [(2, .v .bool y0)])) := by
  simp only [c99_2, exec_seq, seqK_normal, seqK_exit, seqK_ret, t99_0, t99_1 S104 h104, exec_ret]
  rfl
theorem rk99_0 (y0) : retK d99 .ret [(2, .v .bool y0)] = some [.v .bool y0] := by kernel_rfl
def g99 (S104 : V1 → Int → Option (Int)) (x0 : Int) (k : Bool → Option R) : Option R :=
(g99_2 S104 x0 (fun y0 => k y0))
theorem gen99 {N : Nat} {cl : Cal} (S104 : V1 → Int → Option (Int)) (h104 : (ctr104 S104).holds cl) (x0 : Int) {R : Type} (k : List E → Option R) : exec cl N c99 (params 0 [.v U1 x0]) (fun e env => (retK d99 e env).bind k) = g99 S104 x0 (fun (r0 : Bool) => k [.v .bool r0]) := by
  have e0 : params 0 [.v U1 x0] = [(0, .v U1 x0)] := by kernel_rfl
  simp only [c99, e0, t99_2 S104 h104, rk99_0, Option.bind_some]
  rfl
def ctr99 (S : Int → Option (Bool)) : Ctr := { A := Int × Unit, B := Bool, f := 99, enc := fun a => [.v U1 a.1], dec := (decC (decV U1) dec0), S := fun a => S a.1, ent := fun b => [.v .bool b], ok := (decV_cons (T := U1) (fun es b h => dec0_some h)) }
def S99 (N : Nat) (x0 : Int) : Option (Bool) := g99 (S104 N) x0 (fun (r0 : Bool) => some (r0))
def g98_0 (x0 : Int) (k0 : Int → Option R) : Option R :=
k0 x0
theorem t98_0 (x0) : exec cl N c98_0 [(0, .v U1 x0)] K = (g98_0 x0 (fun y0 => K .normal [(0, .v U1 y0)])) := by
  kernel_rfl
def g98_1 (S99 : Int → Option (Bool)) (x0 : Int) (k0 : Bool → Option R) : Option R :=
(S99 x0).bind fun r314 =>
k0 (!r314)
theorem t98_1 (S99) (h99 : (ctr99 S99).holds cl) (x0) : exec cl N c98_1 [(0, .v U1 x0)] K = (g98_1 S99 x0 (fun y0 => K .normal [(2, .v .bool y0)])) := by
  rw [← put_eq h99]
  kernel_rfl
def g98_2 (S99 : Int → Option (Bool)) (x0 : Int) (k0 : Bool → Option R) : Option R :=
(g98_0 x0 (fun y0 => (g98_1 S99 y0 (fun y0 => (k0 y0)))))
theorem t98_2 (S99) (h99 : (ctr99 S99).holds cl) (x0) : exec cl N c98_2 [(0, .v U1 x0)] K = (g98_2 S99 x0 (fun y0 => K .ret [(2, .v .bool y0)])) := by
  simp only [c98_2, exec_seq, seqK_normal, seqK_exit, seqK_ret, t98_0, t98_1 S99 h99, exec_ret]
  rfl
theorem rk98_0 (y0) : retK d98 .ret [(2, .v .bool y0)] = some [.v .bool y0] := by kernel_rfl
def g98 (S99 : Int → Option (Bool)) (x0 : Int) (k : Bool → Option R) : Option R :=
(g98_2 S99 x0 (fun y0 => k y0))
theorem gen98 {N : Nat} {cl : Cal} (S99 : Int → Option (Bool)) (h99 : (ctr99 S99).holds cl) (x0 : Int) {R : Type} (k : List E → Option R) : exec cl N c98 (params 0 [.v U1 x0]) (fun e env => (retK d98 e env).bind k) = g98 S99 x0 (fun (r0 : Bool) => k [.v .bool r0]) := by
  have e0 : params 0 [.v U1 x0] = [(0, .v U1 x0)] := by kernel_rfl
  simp only [c98, e0, t98_2 S99 h99, rk98_0, Option.bind_some]
  rfl
def ctr98 (S : Int → Option (Bool)) : Ctr := { A := Int × Unit, B := Bool, f := 98, enc := fun a => [.v U1 a.1], dec := (decC (decV U1) dec0), S := fun a => S a.1, ent := fun b => [.v .bool b], ok := (decV_cons (T := U1) (fun es b h => dec0_some h)) }
def S98 (N : Nat) (x0 : Int) : Option (Bool) := g98 (S99 N) x0 (fun (r0 : Bool) => some (r0))
def g103_0 (x0 : V0) (x1 : V13) (k0 : V0 → V13 → Option R) : Option R :=
k0 x0 x1
theorem t103_0 (x0 x1) : exec cl N c103_0 (e71 x0 x1) K = (g103_0 x0 x1 (fun y0 y1 => K .normal (e71 y0 y1))) := by
  kernel_rfl
def g103_1 (x0 : V0) (x1 : V13) (k0 : V0 → V13 → Int → Int → Option R) : Option R :=
k0 x0 x1 (x0.length : Int) (0 : Int)
theorem t103_1 (x0 x1) : exec cl N c103_1 (e71 x0 x1) K = (g103_1 x0 x1 (fun y0 y1 y2 y3 => K .normal (e72 y0 y1 y2 y3))) := by
  kernel_rfl
theorem kp103_0 (x0 x1 x2 x3) : keep [0, 1, 7, 8] (e72 x0 x1 x2 x3) = (e72 x0 x1 x2 x3) := by kernel_rfl
def g103_2 (x0 : V0) (x1 : V13) (x2 x3 : Int) (k0 : V0 → V13 → Int → Int → Bool → Option R) : Option R :=
k0 x0 x1 x2 x3 (decide (x3 < x2))
theorem t103_2 (x0 x1 x2 x3) : exec cl N c103_2 (e72 x0 x1 x2 x3) K = (g103_2 x0 x1 x2 x3 (fun y0 y1 y2 y3 y4 => K .normal (e73 y0 y1 y2 y3 y4))) := by
  kernel_rfl
theorem kp103_1 (x0 x1 x2 x3 x4) : keep [0, 1, 7, 8] (e73 x0 x1 x2 x3 x4) = (e72 x0 x1 x2 x3) := by kernel_rfl
theorem hb103_0 (x0 x1 x2 x3 x4) : boolOf? (ent (e73 x0 x1 x2 x3 x4) (.t 9)) = some x4 := by kernel_rfl
def g103_4 (x0 : V0) (x1 : V13) (x2 x3 : Int) (k0 : V0 → V13 → Int → Int → Int → Option R) : Option R :=
k0 x0 x1 x3 x2 x3
theorem t103_4 (x0 x1 x2 x3) : exec cl N c103_4 (e72 x0 x1 x2 x3) K = (g103_4 x0 x1 x2 x3 (fun y0 y1 y2 y3 y4 => K .normal [(0, .v U4 y0), (1, .v U11 y1), (5, .v U2 y2), (7, .v U2 y3), (8, .v U2 y4)])) := by
  kernel_rfl
def g103_5 (x0 : V0) (x1 : V13) (x2 x3 x4 : Int) (k0 : V0 → V13 → Int → Int → Int → Bool → Option R) : Option R :=
if 0 ≤ x2 ∧ x2 < (x0.length : Int) then
(x1 ((x0.getD x2.toNat (0 : Int)), ())).bind fun r321 =>
k0 x0 x1 x2 x3 x4 r321
else none
theorem t103_5 (x0 x1 x2 x3 x4) : exec cl N c103_5 [(0, .v U4 x0), (1, .v U11 x1), (5, .v U2 x2), (7, .v U2 x3), (8, .v U2 x4)] K = (g103_5 x0 x1 x2 x3 x4 (fun y0 y1 y2 y3 y4 y5 => K .normal (e74 y0 y1 y2 y3 y4 y5))) := by
  kernel_rfl
def g103_6 (x0 : V0) (x1 : V13) (x2 x3 x4 : Int) (x5 : Bool) (k0 : Int → Option R) : Option R :=
k0 x2
theorem t103_6 (x0 x1 x2 x3 x4 x5) : exec cl N c103_6 (e74 x0 x1 x2 x3 x4 x5) K = (g103_6 x0 x1 x2 x3 x4 x5 (fun y0 => K .normal [(4, .v U2 y0)])) := by
  kernel_rfl
theorem kp103_2 (x0) : keep [0, 1, 4, 7, 8] [(4, .v U2 x0)] = (e75 x0) := by kernel_rfl
theorem kp103_3 (x0 x1 x2 x3 x4 x5) : keep [0, 1, 4, 7, 8] (e74 x0 x1 x2 x3 x4 x5) = (e76 x0 x1 x3 x4) := by kernel_rfl
theorem hb103_1 (x0 x1 x2 x3 x4 x5) : boolOf? (ent (e74 x0 x1 x2 x3 x4 x5) (.t 16)) = some x5 := by kernel_rfl
theorem kp103_4 (x0) : keep [0, 1, 4, 7, 8] (e75 x0) = (e75 x0) := by kernel_rfl
theorem kp103_5 (x0 x1 x2 x3) : keep [0, 1, 4, 7, 8] (e76 x0 x1 x2 x3) = (e76 x0 x1 x2 x3) := by kernel_rfl
def g103_9 (x0 : V0) (x1 : V13) (x2 x3 : Int) (k0 : V0 → V13 → Int → Int → Option R) : Option R :=
k0 x0 x1 x2 (IntKind.i64.wrap (x3 + (1 : Int)))
theorem t103_9 (x0 x1 x2 x3) : exec cl N c103_9 (e76 x0 x1 x2 x3) K = (g103_9 x0 x1 x2 x3 (fun y0 y1 y2 y3 => K .normal (e72 y0 y1 y2 y3))) := by
  kernel_rfl
def g103_10 (x0 : V0) (x1 : V13) (x2 x3 : Int) (k0 : Int → Option R) (k1 : V0 → V13 → Int → Int → Option R) (k2 : V0 → V13 → Int → Int → Option R) : Option R :=
(g103_2 x0 x1 x2 x3 (fun y0 y1 y2 y3 y4 => brB y4 ((fun y0 y1 y2 y3 => (g103_4 y0 y1 y2 y3 (fun y0 y1 y2 y3 y4 => (g103_5 y0 y1 y2 y3 y4 (fun y0 y1 y2 y3 y4 y5 => brB y5 (g103_6 y0 y1 y2 y3 y4 y5 (fun y0 => ((fun y0 => (k0 y0)) y0))) (g103_9 y0 y1 y3 y4 k1)))))) y0 y1 y2 y3) (k2 y0 y1 y2 y3)))
theorem t103_10 (x0 x1 x2 x3) : exec cl N c103_10 (e72 x0 x1 x2 x3) K = (g103_10 x0 x1 x2 x3 (fun y0 => K .ret (e75 y0)) (fun y0 y1 y2 y3 => K .normal (e72 y0 y1 y2 y3)) (fun y0 y1 y2 y3 => K (.exit 0) (e72 y0 y1 y2 y3))) := by
  simp only [c103_10, exec_seq, seqK_normal, seqK_exit, seqK_ret, t103_2, c103_3, exec_out, exec_cond', hb103_0, Option.bind_some, brB_true, brB_false, exec_skip, exec_exit, kp103_1, c103_8, exec_block, t103_4, t103_5, c103_7, hb103_1, t103_6, exec_ret, kp103_2, kp103_3, blockK_normal, blockK_ret, blockK_eq, kp103_4, kp103_5, t103_9]
  rfl
def l103_11 {R : Type} (k0 : Int → Option R) (k1 : V0 → V13 → Int → Int → Option R) : Nat → V0 → V13 → Int → Int → Option R
  | 0, _, _, _, _ => none
  | m + 1, x0, x1, x2, x3 => (g103_10 x0 x1 x2 x3 k0 (fun y0 y1 y2 y3 => l103_11 k0 k1 m y0 y1 y2 y3) k1)
theorem lt103_11 : ∀ (m) (x0 x1 x2 x3), iter [0, 1, 7, 8] (fun env K => exec cl N c103_10 env K) K m (e72 x0 x1 x2 x3) = l103_11 (fun y0 => K .ret (e75 y0)) (fun y0 y1 y2 y3 => K (.exit 0) (e72 y0 y1 y2 y3)) m x0 x1 x2 x3 := by
  intro m
  induction m with
  | zero => intros; rfl
  | succ m ih =>
    intro x0 x1 x2 x3
    simp only [iter_succ, t103_10, loopK_normal, loopK_exit, loopK_ret, kp103_0, ih]
    rfl
theorem kp103_6 (x0) : keep [4] (e75 x0) = [(4, .v U2 x0)] := by kernel_rfl
theorem kp103_7 (x0 x1 x2 x3) : keep [4] (e72 x0 x1 x2 x3) = [(4, .dead)] := by kernel_rfl
def g103_11 (N : Nat) (x0 : V0) (x1 : V13) (x2 x3 : Int) (k0 : Int → Option R) (k1 : Option R) : Option R :=
l103_11 (fun y0 => k0 y0) (fun y0 y1 y2 y3 => k1) N x0 x1 x2 x3
theorem t103_11 (x0 x1 x2 x3) : exec cl N c103_11 (e72 x0 x1 x2 x3) K = (g103_11 N x0 x1 x2 x3 (fun y0 => K .ret [(4, .v U2 y0)]) (K (.exit 0) [(4, .dead)])) := by
  simp only [c103_11, exec_out, exec_loop, kp103_0, lt103_11, kp103_6, kp103_7]
  rfl
theorem kp103_8 (x0) : keep [4] [(4, .v U2 x0)] = [(4, .v U2 x0)] := by kernel_rfl
theorem kp103_9 : keep [4] [(4, .dead)] = [(4, .dead)] := by kernel_rfl
def g103_13 (k0 : Int → Option R) : Option R :=
k0 (-1 : Int)
theorem t103_13 : exec cl N c103_13 [(4, .dead)] K = (g103_13 (fun y0 => K .normal [(4, .v U2 y0)])) := by
  kernel_rfl
def g103_14 (N : Nat) (x0 : V0) (x1 : V13) (k0 : Int → Option R) : Option R :=
(g103_0 x0 x1 (fun y0 y1 => (g103_1 y0 y1 (fun y0 y1 y2 y3 => (g103_11 N y0 y1 y2 y3 (fun y0 => (k0 y0)) (g103_13 (fun y0 => (k0 y0))))))))
theorem t103_14 (x0 x1) : exec cl N c103_14 (e71 x0 x1) K = (g103_14 N x0 x1 (fun y0 => K .ret [(4, .v U2 y0)])) := by
  simp only [c103_14, exec_seq, seqK_normal, seqK_exit, seqK_ret, t103_0, t103_1, c103_12, exec_out, exec_block, t103_11, blockK_normal, blockK_ret, blockK_eq, kp103_8, kp103_9, t103_13, exec_ret]
  rfl
theorem rk103_0 (y0) : retK d103 .ret [(4, .v U2 y0)] = some [.v U2 y0] := by kernel_rfl
def g103 (N : Nat) (x0 : V0) (x1 : V13) (k : Int → Option R) : Option R :=
(g103_14 N x0 x1 (fun y0 => k y0))
theorem gen103 {N : Nat} {cl : Cal} (x0 : V0) (x1 : V13) {R : Type} (k : List E → Option R) : exec cl N c103 (params 0 [.v U4 x0, .v U11 x1]) (fun e env => (retK d103 e env).bind k) = g103 N x0 x1 (fun (r0 : Int) => k [.v U2 r0]) := by
  have e0 : params 0 [.v U4 x0, .v U11 x1] = (e71 x0 x1) := by kernel_rfl
  simp only [c103, e0, t103_14, rk103_0, Option.bind_some]
  rfl
def ctr103 (S : V0 → V13 → Option (Int)) : Ctr := { A := V0 × V13 × Unit, B := Int, f := 103, enc := fun a => [.v U4 a.1, .v U11 a.2.1], dec := (decC (decV U4) (decC (decV U11) dec0)), S := fun a => S a.1 a.2.1, ent := fun b => [.v U2 b], ok := (decV_cons (T := U4) (decV_cons (T := U11) (fun es b h => dec0_some h))) }
def S103 (N : Nat) (x0 : V0) (x1 : V13) : Option (Int) := g103 N x0 x1 (fun (r0 : Int) => some (r0))
def g97_0 (x0 : V0) (x1 : V13) (k0 : V0 → V13 → Option R) : Option R :=
k0 x0 x1
theorem t97_0 (x0 x1) : exec cl N c97_0 (e71 x0 x1) K = (g97_0 x0 x1 (fun y0 y1 => K .normal (e71 y0 y1))) := by
  kernel_rfl
def g97_1 (S103 : V0 → V13 → Option (Int)) (x0 : V0) (x1 : V13) (k0 : Bool → Option R) : Option R :=
(S103 x0 x1).bind fun r325 =>
k0 (decide (r325 ≥ (0 : Int)))
theorem t97_1 (S103) (h103 : (ctr103 S103).holds cl) (x0 x1) : exec cl N c97_1 (e71 x0 x1) K = (g97_1 S103 x0 x1 (fun y0 => K .normal [(4, .v .bool y0)])) := by
  rw [← put_eq h103]
  kernel_rfl
def g97_2 (S103 : V0 → V13 → Option (Int)) (x0 : V0) (x1 : V13) (k0 : Bool → Option R) : Option R :=
(g97_0 x0 x1 (fun y0 y1 => (g97_1 S103 y0 y1 (fun y0 => (k0 y0)))))
theorem t97_2 (S103) (h103 : (ctr103 S103).holds cl) (x0 x1) : exec cl N c97_2 (e71 x0 x1) K = (g97_2 S103 x0 x1 (fun y0 => K .ret [(4, .v .bool y0)])) := by
  simp only [c97_2, exec_seq, seqK_normal, seqK_exit, seqK_ret, t97_0, t97_1 S103 h103, exec_ret]
  rfl
theorem rk97_0 (y0) : retK d97 .ret [(4, .v .bool y0)] = some [.v .bool y0] := by kernel_rfl
def g97 (S103 : V0 → V13 → Option (Int)) (x0 : V0) (x1 : V13) (k : Bool → Option R) : Option R :=
(g97_2 S103 x0 x1 (fun y0 => k y0))
theorem gen97 {N : Nat} {cl : Cal} (S103 : V0 → V13 → Option (Int)) (h103 : (ctr103 S103).holds cl) (x0 : V0) (x1 : V13) {R : Type} (k : List E → Option R) : exec cl N c97 (params 0 [.v U4 x0, .v U11 x1]) (fun e env => (retK d97 e env).bind k) = g97 S103 x0 x1 (fun (r0 : Bool) => k [.v .bool r0]) := by
  have e0 : params 0 [.v U4 x0, .v U11 x1] = (e71 x0 x1) := by kernel_rfl
  simp only [c97, e0, t97_2 S103 h103, rk97_0, Option.bind_some]
  rfl
def ctr97 (S : V0 → V13 → Option (Bool)) : Ctr := { A := V0 × V13 × Unit, B := Bool, f := 97, enc := fun a => [.v U4 a.1, .v U11 a.2.1], dec := (decC (decV U4) (decC (decV U11) dec0)), S := fun a => S a.1 a.2.1, ent := fun b => [.v .bool b], ok := (decV_cons (T := U4) (decV_cons (T := U11) (fun es b h => dec0_some h))) }
def S97 (N : Nat) (x0 : V0) (x1 : V13) : Option (Bool) := g97 (S103 N) x0 x1 (fun (r0 : Bool) => some (r0))
def g100_0 (x0 : V7) (x1 : V1) (k0 : V7 → V1 → Option R) : Option R :=
k0 x0 x1
theorem t100_0 (x0 x1) : exec cl N c100_0 (e32 x0 x1) K = (g100_0 x0 x1 (fun y0 y1 => K .normal (e32 y0 y1))) := by
  kernel_rfl
def g100_1 (x0 : V7) (x1 : V1) (k0 : V7 → V1 → Int → Option R) : Option R :=
k0 x0 x1 (x0.length : Int)
theorem t100_1 (x0 x1) : exec cl N c100_1 (e32 x0 x1) K = (g100_1 x0 x1 (fun y0 y1 y2 => K .normal [(0, .v U0 y0), (1, .v .str y1), (12, .v U2 y2)])) := by
  kernel_rfl
def g100_2 (x0 : V7) (x1 : V1) (x2 : Int) (k0 : V7 → V1 → Int → Bool → Option R) : Option R :=
k0 x0 x1 x2 (x2 == (0 : Int))
theorem t100_2 (x0 x1 x2) : exec cl N c100_2 [(0, .v U0 x0), (1, .v .str x1), (12, .v U2 x2)] K = (g100_2 x0 x1 x2 (fun y0 y1 y2 y3 => K .normal (e77 y0 y1 y2 y3))) := by
  kernel_rfl
def g100_3 (x0 : V7) (x1 : V1) (x2 : Int) (x3 : Bool) (k0 : V1 → Option R) : Option R :=
k0 ([] : List UInt8)
theorem t100_3 (x0 x1 x2 x3) : exec cl N c100_3 (e77 x0 x1 x2 x3) K = (g100_3 x0 x1 x2 x3 (fun y0 => K .normal [(4, .v .str y0)])) := by
  kernel_rfl
theorem kp100_0 (x0) : keep [0, 1, 4] [(4, .v .str x0)] = (e78 x0) := by kernel_rfl
def g100_4 (x0 : V7) (x1 : V1) (x2 : Int) (x3 : Bool) (k0 : V7 → V1 → Bool → Option R) : Option R :=
k0 x0 x1 (x2 == (1 : Int))
theorem t100_4 (x0 x1 x2 x3) : exec cl N c100_4 (e77 x0 x1 x2 x3) K = (g100_4 x0 x1 x2 x3 (fun y0 y1 y2 => K .normal (e79 y0 y1 y2))) := by
  kernel_rfl
def g100_5 (x0 : V7) (x1 : V1) (x2 : Bool) (k0 : V1 → Option R) : Option R :=
if 0 ≤ (0 : Int) ∧ (0 : Int) < (x0.length : Int) then
k0 (x0.getD (0 : Int).toNat [])
else none
theorem t100_5 (x0 x1 x2) : exec cl N c100_5 (e79 x0 x1 x2) K = (g100_5 x0 x1 x2 (fun y0 => K .normal [(4, .v .str y0)])) := by
  kernel_rfl
theorem kp100_1 (x0 x1 x2) : keep [0, 1, 4] (e79 x0 x1 x2) = (e80 x0 x1) := by kernel_rfl
theorem hb100_0 (x0 x1 x2) : boolOf? (ent (e79 x0 x1 x2) (.t 15)) = some x2 := by kernel_rfl
theorem kp100_2 (x0) : keep [0, 1, 4] (e78 x0) = (e78 x0) := by kernel_rfl
theorem kp100_3 (x0 x1) : keep [0, 1, 4] (e80 x0 x1) = (e80 x0 x1) := by kernel_rfl
theorem hb100_1 (x0 x1 x2 x3) : boolOf? (ent (e77 x0 x1 x2 x3) (.t 13)) = some x3 := by kernel_rfl
def g100_9 (x0 : V7) (x1 : V1) (k0 : V7 → V1 → Int → Option R) : Option R :=
k0 x0 x1 (0 : Int)
theorem t100_9 (x0 x1) : exec cl N c100_9 (e80 x0 x1) K = (g100_9 x0 x1 (fun y0 y1 y2 => K .normal (e33 y0 y1 y2))) := by
  kernel_rfl
def g100_10 (x0 : V7) (x1 : V1) (x2 : Int) (k0 : V7 → V1 → Int → Bool → Option R) : Option R :=
k0 x0 x1 x2 (decide ((x1.length : Int) > (0 : Int)))
theorem t100_10 (x0 x1 x2) : exec cl N c100_10 (e33 x0 x1 x2) K = (g100_10 x0 x1 x2 (fun y0 y1 y2 y3 => K .normal (e81 y0 y1 y2 y3))) := by
  kernel_rfl
def g100_11 (x0 : V7) (x1 : V1) (x2 : Int) (x3 : Bool) (k0 : V7 → V1 → Int → Bool → Option R) : Option R :=
let v346 : Int := (IntKind.i64.wrap ((x0.length : Int) - (1 : Int)))
if v346 = 0 then none else
k0 x0 x1 x2 (decide ((x1.length : Int) ≥ (IntKind.i64.wrap (Int.tdiv (9223372036854775807 : Int) v346))))
theorem t100_11 (x0 x1 x2 x3) : exec cl N c100_11 (e81 x0 x1 x2 x3) K = (g100_11 x0 x1 x2 x3 (fun y0 y1 y2 y3 => K .normal (e82 y0 y1 y2 y3))) := by
  kernel_rfl
def g100_12 (x0 : V7) (x1 : V1) (x2 : Int) (x3 : Bool) : Option R :=
none /- operation makeInterface -/
theorem t100_12 (x0 x1 x2 x3) : exec cl N c100_12 (e82 x0 x1 x2 x3) K = (g100_12 x0 x1 x2 x3) := by
  kernel_rfl
theorem kp100_4 (x0 x1 x2 x3) : keep [0, 1, 5] (e82 x0 x1 x2 x3) = (e33 x0 x1 x2) := by kernel_rfl
theorem hb100_2 (x0 x1 x2 x3) : boolOf? (ent (e82 x0 x1 x2 x3) (.t 29)) = some x3 := by kernel_rfl
def g100_14 (x0 : V7) (x1 : V1) (x2 : Int) (k0 : V7 → V1 → Int → Option R) : Option R :=
k0 x0 x1 (IntKind.i64.wrap (x2 + (IntKind.i64.wrap ((x1.length : Int) * (IntKind.i64.wrap ((x0.length : Int) - (1 : Int)))))))
theorem t100_14 (x0 x1 x2) : exec cl N c100_14 (e33 x0 x1 x2) K = (g100_14 x0 x1 x2 (fun y0 y1 y2 => K .normal (e33 y0 y1 y2))) := by
  kernel_rfl
theorem kp100_5 (x0 x1 x2) : keep [0, 1, 5] (e33 x0 x1 x2) = (e33 x0 x1 x2) := by kernel_rfl
theorem kp100_6 (x0 x1 x2 x3) : keep [0, 1, 5] (e81 x0 x1 x2 x3) = (e33 x0 x1 x2) := by kernel_rfl
theorem hb100_3 (x0 x1 x2 x3) : boolOf? (ent (e81 x0 x1 x2 x3) (.t 22)) = some x3 := by kernel_rfl
def g100_16 (x0 : V7) (x1 : V1) (x2 : Int) (k0 : V7 → V1 → Int → Option R) : Option R :=
(g100_10 x0 x1 x2 (fun y0 y1 y2 y3 => brB y3 (g100_11 y0 y1 y2 y3 (fun y0 y1 y2 y3 => brB y3 (g100_12 y0 y1 y2 y3) ((fun y0 y1 y2 => (g100_14 y0 y1 y2 (fun y0 y1 y2 => (k0 y0 y1 y2)))) y0 y1 y2))) (k0 y0 y1 y2)))
theorem t100_16 (x0 x1 x2) : exec cl N c100_16 (e33 x0 x1 x2) K = (g100_16 x0 x1 x2 (fun y0 y1 y2 => K .normal (e33 y0 y1 y2))) := by
  simp only [c100_16, exec_seq, seqK_normal, seqK_exit, seqK_ret, t100_10, c100_15, exec_out, exec_cond', hb100_3, Option.bind_some, brB_true, brB_false, t100_11, c100_13, hb100_2, t100_12, exec_skip, kp100_4, t100_14, kp100_5, kp100_6]
  rfl
def g100_17 (x0 : V7) (x1 : V1) (x2 : Int) (k0 : V7 → V1 → Int → V7 → Int → Int → Option R) : Option R :=
k0 x0 x1 x2 x0 (x0.length : Int) (0 : Int)
theorem t100_17 (x0 x1 x2) : exec cl N c100_17 (e33 x0 x1 x2) K = (g100_17 x0 x1 x2 (fun y0 y1 y2 y3 y4 y5 => K .normal (e83 y0 y1 y2 y3 y4 y5))) := by
  kernel_rfl
theorem kp100_7 (x0 x1 x2 x3 x4 x5) : keep [0, 1, 5, 39, 40, 41] (e83 x0 x1 x2 x3 x4 x5) = (e83 x0 x1 x2 x3 x4 x5) := by kernel_rfl
def g100_18 (x0 : V7) (x1 : V1) (x2 : Int) (x3 : V7) (x4 x5 : Int) (k0 : V7 → V1 → Int → V7 → Int → Int → Bool → Option R) : Option R :=
k0 x0 x1 x2 x3 x4 x5 (decide (x5 < x4))
theorem t100_18 (x0 x1 x2 x3 x4 x5) : exec cl N c100_18 (e83 x0 x1 x2 x3 x4 x5) K = (g100_18 x0 x1 x2 x3 x4 x5 (fun y0 y1 y2 y3 y4 y5 y6 => K .normal (e84 y0 y1 y2 y3 y4 y5 y6))) := by
  kernel_rfl
theorem kp100_8 (x0 x1 x2 x3 x4 x5 x6) : keep [0, 1, 5, 39, 40, 41] (e84 x0 x1 x2 x3 x4 x5 x6) = (e83 x0 x1 x2 x3 x4 x5) := by kernel_rfl
theorem hb100_4 (x0 x1 x2 x3 x4 x5 x6) : boolOf? (ent (e84 x0 x1 x2 x3 x4 x5 x6) (.t 42)) = some x6 := by kernel_rfl
def g100_20 (x0 : V7) (x1 : V1) (x2 : Int) (x3 : V7) (x4 x5 : Int) (k0 : V7 → V1 → Int → V1 → V7 → Int → Int → Option R) : Option R :=
if 0 ≤ x5 ∧ x5 < (x3.length : Int) then
k0 x0 x1 x2 (x3.getD x5.toNat []) x3 x4 x5
else none
theorem t100_20 (x0 x1 x2 x3 x4 x5) : exec cl N c100_20 (e83 x0 x1 x2 x3 x4 x5) K = (g100_20 x0 x1 x2 x3 x4 x5 (fun y0 y1 y2 y3 y4 y5 y6 => K .normal (e85 y0 y1 y2 y3 y4 y5 y6))) := by
  kernel_rfl
def g100_21 (x0 : V7) (x1 : V1) (x2 : Int) (x3 : V1) (x4 : V7) (x5 x6 : Int) (k0 : V7 → V1 → Int → V1 → V7 → Int → Int → Bool → Option R) : Option R :=
k0 x0 x1 x2 x3 x4 x5 x6 (decide ((x3.length : Int) > (IntKind.i64.wrap ((9223372036854775807 : Int) - x2))))
theorem t100_21 (x0 x1 x2 x3 x4 x5 x6) : exec cl N c100_21 (e85 x0 x1 x2 x3 x4 x5 x6) K = (g100_21 x0 x1 x2 x3 x4 x5 x6 (fun y0 y1 y2 y3 y4 y5 y6 y7 => K .normal (e86 y0 y1 y2 y3 y4 y5 y6 y7))) := by
  kernel_rfl
def g100_22 (x0 : V7) (x1 : V1) (x2 : Int) (x3 : V1) (x4 : V7) (x5 x6 : Int) (x7 : Bool) : Option R :=
none /- operation makeInterface -/
theorem t100_22 (x0 x1 x2 x3 x4 x5 x6 x7) : exec cl N c100_22 (e86 x0 x1 x2 x3 x4 x5 x6 x7) K = (g100_22 x0 x1 x2 x3 x4 x5 x6 x7) := by
  kernel_rfl
theorem kp100_9 (x0 x1 x2 x3 x4 x5 x6 x7) : keep [0, 1, 5, 7, 39, 40, 41] (e86 x0 x1 x2 x3 x4 x5 x6 x7) = (e85 x0 x1 x2 x3 x4 x5 x6) := by kernel_rfl
theorem hb100_5 (x0 x1 x2 x3 x4 x5 x6 x7) : boolOf? (ent (e86 x0 x1 x2 x3 x4 x5 x6 x7) (.t 49)) = some x7 := by kernel_rfl
def g100_24 (x0 : V7) (x1 : V1) (x2 : Int) (x3 : V1) (x4 : V7) (x5 x6 : Int) (k0 : V7 → V1 → Int → V7 → Int → Int → Option R) : Option R :=
k0 x0 x1 (IntKind.i64.wrap (x2 + (x3.length : Int))) x4 x5 x6
theorem t100_24 (x0 x1 x2 x3 x4 x5 x6) : exec cl N c100_24 (e85 x0 x1 x2 x3 x4 x5 x6) K = (g100_24 x0 x1 x2 x3 x4 x5 x6 (fun y0 y1 y2 y3 y4 y5 => K .normal (e83 y0 y1 y2 y3 y4 y5))) := by
  kernel_rfl
def g100_26 (x0 : V7) (x1 : V1) (x2 : Int) (x3 : V7) (x4 x5 : Int) (k0 : V7 → V1 → Int → V7 → Int → Int → Option R) : Option R :=
k0 x0 x1 x2 x3 x4 (IntKind.i64.wrap (x5 + (1 : Int)))
theorem t100_26 (x0 x1 x2 x3 x4 x5) : exec cl N c100_26 (e83 x0 x1 x2 x3 x4 x5) K = (g100_26 x0 x1 x2 x3 x4 x5 (fun y0 y1 y2 y3 y4 y5 => K .normal (e83 y0 y1 y2 y3 y4 y5))) := by
  kernel_rfl
def g100_27 (x0 : V7) (x1 : V1) (x2 : Int) (x3 : V7) (x4 x5 : Int) (k0 : V7 → V1 → Int → V7 → Int → Int → Option R) (k1 : V7 → V1 → Int → V7 → Int → Int → Option R) : Option R :=
(g100_18 x0 x1 x2 x3 x4 x5 (fun y0 y1 y2 y3 y4 y5 y6 => brB y6 ((fun y0 y1 y2 y3 y4 y5 => (g100_20 y0 y1 y2 y3 y4 y5 (fun y0 y1 y2 y3 y4 y5 y6 => (g100_21 y0 y1 y2 y3 y4 y5 y6 (fun y0 y1 y2 y3 y4 y5 y6 y7 => brB y7 (g100_22 y0 y1 y2 y3 y4 y5 y6 y7) ((fun y0 y1 y2 y3 y4 y5 y6 => (g100_24 y0 y1 y2 y3 y4 y5 y6 (fun y0 y1 y2 y3 y4 y5 => (g100_26 y0 y1 y2 y3 y4 y5 k0)))) y0 y1 y2 y3 y4 y5 y6)))))) y0 y1 y2 y3 y4 y5) (k1 y0 y1 y2 y3 y4 y5)))
theorem t100_27 (x0 x1 x2 x3 x4 x5) : exec cl N c100_27 (e83 x0 x1 x2 x3 x4 x5) K = (g100_27 x0 x1 x2 x3 x4 x5 (fun y0 y1 y2 y3 y4 y5 => K .normal (e83 y0 y1 y2 y3 y4 y5)) (fun y0 y1 y2 y3 y4 y5 => K (.exit 1) (e83 y0 y1 y2 y3 y4 y5))) := by
  simp only [c100_27, exec_seq, seqK_normal, seqK_exit, seqK_ret, t100_18, c100_19, exec_out, exec_cond', hb100_4, Option.bind_some, brB_true, brB_false, exec_skip, exec_exit, kp100_8, c100_25, exec_block, t100_20, t100_21, c100_23, hb100_5, t100_22, kp100_9, t100_24, blockK_normal, blockK_ret, blockK_eq, kp100_7, t100_26]
  rfl
def l100_28 {R : Type} (k0 : V7 → V1 → Int → V7 → Int → Int → Option R) : Nat → V7 → V1 → Int → V7 → Int → Int → Option R
  | 0, _, _, _, _, _, _ => none
  | m + 1, x0, x1, x2, x3, x4, x5 => (g100_27 x0 x1 x2 x3 x4 x5 (fun y0 y1 y2 y3 y4 y5 => l100_28 k0 m y0 y1 y2 y3 y4 y5) k0)
theorem lt100_28 : ∀ (m) (x0 x1 x2 x3 x4 x5), iter [0, 1, 5, 39, 40, 41] (fun env K => exec cl N c100_27 env K) K m (e83 x0 x1 x2 x3 x4 x5) = l100_28 (fun y0 y1 y2 y3 y4 y5 => K (.exit 1) (e83 y0 y1 y2 y3 y4 y5)) m x0 x1 x2 x3 x4 x5 := by
  intro m
  induction m with
  | zero => intros; rfl
  | succ m ih =>
    intro x0 x1 x2 x3 x4 x5
    simp only [iter_succ, t100_27, loopK_normal, loopK_exit, loopK_ret, kp100_7, ih]
    rfl
theorem kp100_10 (x0 x1 x2 x3 x4 x5) : keep [0, 1, 5] (e83 x0 x1 x2 x3 x4 x5) = (e33 x0 x1 x2) := by kernel_rfl
def g100_28 (N : Nat) (x0 : V7) (x1 : V1) (x2 : Int) (x3 : V7) (x4 x5 : Int) (k0 : V7 → V1 → Int → Option R) : Option R :=
l100_28 (fun y0 y1 y2 y3 y4 y5 => k0 y0 y1 y2) N x0 x1 x2 x3 x4 x5
theorem t100_28 (x0 x1 x2 x3 x4 x5) : exec cl N c100_28 (e83 x0 x1 x2 x3 x4 x5) K = (g100_28 N x0 x1 x2 x3 x4 x5 (fun y0 y1 y2 => K (.exit 1) (e33 y0 y1 y2))) := by
  simp only [c100_28, exec_out, exec_loop, kp100_7, lt100_28, kp100_10]
  rfl
def g100_30 (x0 : V7) (x1 : V1) (x2 : Int) : Option R :=
none /- type ptr -/
theorem t100_30 (x0 x1 x2) : exec cl N c100_30 (e33 x0 x1 x2) K = (g100_30 x0 x1 x2) := by
  kernel_rfl
def g100_45 (N : Nat) (x0 : V7) (x1 : V1) (k0 : V1 → Option R) : Option R :=
(g100_0 x0 x1 (fun y0 y1 => (g100_1 y0 y1 (fun y0 y1 y2 => (g100_2 y0 y1 y2 (fun y0 y1 y2 y3 => brB y3 (g100_3 y0 y1 y2 y3 (fun y0 => ((fun y0 => (k0 y0)) y0))) (g100_4 y0 y1 y2 y3 (fun y0 y1 y2 => brB y2 (g100_5 y0 y1 y2 (fun y0 => ((fun y0 => (k0 y0)) y0))) ((fun y0 y1 => ((fun y0 y1 => ((fun y0 y1 => (g100_9 y0 y1 (fun y0 y1 y2 => (g100_16 y0 y1 y2 (fun y0 y1 y2 => (g100_17 y0 y1 y2 (fun y0 y1 y2 y3 y4 y5 => (g100_28 N y0 y1 y2 y3 y4 y5 (fun y0 y1 y2 => (g100_30 y0 y1 y2)))))))))) y0 y1)) y0 y1)) y0 y1)))))))))
theorem t100_45 (x0 x1) : exec cl N c100_45 (e32 x0 x1) K = (g100_45 N x0 x1 (fun y0 => K .ret (e78 y0))) := by
  simp only [c100_45, exec_seq, seqK_normal, seqK_exit, seqK_ret, t100_0, t100_1, c100_8, exec_out, exec_block, t100_2, c100_7, exec_cond', hb100_1, Option.bind_some, brB_true, brB_false, t100_3, exec_ret, t100_4, c100_6, hb100_0, t100_5, exec_skip, kp100_0, kp100_1, kp100_2, kp100_3, blockK_normal, blockK_ret, blockK_eq, t100_9, t100_16, t100_17, c100_29, t100_28, kp100_5, t100_30]
  rfl
theorem rk100_0 (y0) : retK d100 .ret (e78 y0) = some [.v .str y0] := by kernel_rfl
def g100 (N : Nat) (x0 : V7) (x1 : V1) (k : V1 → Option R) : Option R :=
(g100_45 N x0 x1 (fun y0 => k y0))
theorem gen100 {N : Nat} {cl : Cal} (x0 : V7) (x1 : V1) {R : Type} (k : List E → Option R) : exec cl N c100 (params 0 [.v U0 x0, .v .str x1]) (fun e env => (retK d100 e env).bind k) = g100 N x0 x1 (fun (r0 : V1) => k [.v .str r0]) := by
  have e0 : params 0 [.v U0 x0, .v .str x1] = (e32 x0 x1) := by kernel_rfl
  simp only [c100, e0, t100_45, rk100_0, Option.bind_some]
  rfl
def ctr100 (S : V7 → V1 → Option V5) : Ctr := { A := V7 × V1 × Unit, B := V1, f := 100, enc := fun a => [.v U0 a.1, .v .str a.2.1], dec := (decC (decV U0) (decC (decV .str) dec0)), S := fun a => S a.1 a.2.1, ent := fun b => [.v .str b], ok := (decV_cons (T := U0) (decV_cons (T := .str) (fun es b h => dec0_some h))) }
def S100 (N : Nat) (x0 : V7) (x1 : V1) : Option V5 := g100 N x0 x1 (fun (r0 : V1) => some (r0))
def g88_0 (x0 : V7) (k0 : V7 → Option R) : Option R :=
k0 x0
theorem t88_0 (x0) : exec cl N c88_0 [(0, .v U0 x0)] K = (g88_0 x0 (fun y0 => K .normal [(0, .v U0 y0)])) := by
  kernel_rfl
def g88_1 (x0 : V7) (k0 : V7 → V7 → Int → Int → Option R) : Option R :=
k0 x0 x0 (x0.length : Int) (0 : Int)
theorem t88_1 (x0) : exec cl N c88_1 [(0, .v U0 x0)] K = (g88_1 x0 (fun y0 y1 y2 y3 => K .normal (e87 y0 y1 y2 y3))) := by
  kernel_rfl
theorem kp88_0 (x0 x1 x2 x3) : keep [0, 7, 8, 9] (e87 x0 x1 x2 x3) = (e87 x0 x1 x2 x3) := by kernel_rfl
def g88_2 (x0 x1 : V7) (x2 x3 : Int) (k0 : V7 → V7 → Int → Int → Bool → Option R) : Option R :=
k0 x0 x1 x2 x3 (decide (x3 < x2))
theorem t88_2 (x0 x1 x2 x3) : exec cl N c88_2 (e87 x0 x1 x2 x3) K = (g88_2 x0 x1 x2 x3 (fun y0 y1 y2 y3 y4 => K .normal (e88 y0 y1 y2 y3 y4))) := by
  kernel_rfl
theorem kp88_1 (x0 x1 x2 x3 x4) : keep [0, 7, 8, 9] (e88 x0 x1 x2 x3 x4) = (e87 x0 x1 x2 x3) := by kernel_rfl
theorem hb88_0 (x0 x1 x2 x3 x4) : boolOf? (ent (e88 x0 x1 x2 x3 x4) (.t 10)) = some x4 := by kernel_rfl
def g88_4 (x0 x1 : V7) (x2 x3 : Int) (k0 : V7 → V1 → V7 → Int → Int → Option R) : Option R :=
if 0 ≤ x3 ∧ x3 < (x1.length : Int) then
k0 x0 (x1.getD x3.toNat []) x1 x2 x3
else none
theorem t88_4 (x0 x1 x2 x3) : exec cl N c88_4 (e87 x0 x1 x2 x3) K = (g88_4 x0 x1 x2 x3 (fun y0 y1 y2 y3 y4 => K .normal [(0, .v U0 y0), (5, .v .str y1), (7, .v U0 y2), (8, .v U2 y3), (9, .v U2 y4)])) := by
  kernel_rfl
def g88_5 (x0 : V7) (x1 : V1) (x2 : V7) (x3 x4 : Int) (k0 : V7 → V1 → V7 → Int → Int → Bool → Option R) : Option R :=
k0 x0 x1 x2 x3 x4 (x1 == ([] : List UInt8))
theorem t88_5 (x0 x1 x2 x3 x4) : exec cl N c88_5 [(0, .v U0 x0), (5, .v .str x1), (7, .v U0 x2), (8, .v U2 x3), (9, .v U2 x4)] K = (g88_5 x0 x1 x2 x3 x4 (fun y0 y1 y2 y3 y4 y5 => K .normal (e89 y0 y1 y2 y3 y4 y5))) := by
  kernel_rfl
def g88_6 (x0 : V7) (x1 : V1) (x2 : V7) (x3 x4 : Int) (x5 : Bool) (k0 : V1 → Int → Option R) : Option R :=
k0 ([] : List UInt8) (7 : Int)
theorem t88_6 (x0 x1 x2 x3 x4 x5) : exec cl N c88_6 (e89 x0 x1 x2 x3 x4 x5) K = (g88_6 x0 x1 x2 x3 x4 x5 (fun y0 y1 => K .normal (e90 y0 y1))) := by
  kernel_rfl
theorem kp88_2 (x0 x1) : keep [0, 2, 3, 5, 7, 8, 9] (e90 x0 x1) = (e91 x0 x1) := by kernel_rfl
theorem kp88_3 (x0 x1 x2 x3 x4 x5) : keep [0, 2, 3, 5, 7, 8, 9] (e89 x0 x1 x2 x3 x4 x5) = (e92 x0 x1 x2 x3 x4) := by kernel_rfl
theorem hb88_1 (x0 x1 x2 x3 x4 x5) : boolOf? (ent (e89 x0 x1 x2 x3 x4 x5) (.t 14)) = some x5 := by kernel_rfl
def g88_8 (S97 : V0 → V13 → Option (Bool)) (S98 : Int → Option (Bool)) (x0 : V7) (x1 : V1) (x2 : V7) (x3 x4 : Int) (k0 : V7 → V7 → Int → Int → Bool → Option R) : Option R :=
(S97 (x1.map fun b => (b.toNat : Int)) (fun (x361 : V2) => ((S98 x361.1).bind fun b362 => some [.v .bool b362]).bind (unE .bool))).bind fun r363 =>
k0 x0 x2 x3 x4 r363
theorem t88_8 (S97) (S98) (h97 : (ctr97 S97).holds cl) (h98 : (ctr98 S98).holds cl) (x0 x1 x2 x3 x4) : exec cl N c88_8 (e92 x0 x1 x2 x3 x4) K = (g88_8 S97 S98 x0 x1 x2 x3 x4 (fun y0 y1 y2 y3 y4 => K .normal (e93 y0 y1 y2 y3 y4))) := by
  rw [← put_eq h97]
  rw [← put_eq h98]
  kernel_rfl
def g88_9 (x0 x1 : V7) (x2 x3 : Int) (x4 : Bool) (k0 : V1 → Int → Option R) : Option R :=
k0 ([] : List UInt8) (2 : Int)
theorem t88_9 (x0 x1 x2 x3 x4) : exec cl N c88_9 (e93 x0 x1 x2 x3 x4) K = (g88_9 x0 x1 x2 x3 x4 (fun y0 y1 => K .normal (e90 y0 y1))) := by
  kernel_rfl
theorem kp88_4 (x0 x1) : keep [0, 2, 3, 7, 8, 9] (e90 x0 x1) = (e94 x0 x1) := by kernel_rfl
theorem kp88_5 (x0 x1 x2 x3 x4) : keep [0, 2, 3, 7, 8, 9] (e93 x0 x1 x2 x3 x4) = (e95 x0 x1 x2 x3) := by kernel_rfl
theorem hb88_2 (x0 x1 x2 x3 x4) : boolOf? (ent (e93 x0 x1 x2 x3 x4) (.t 17)) = some x4 := by kernel_rfl
theorem kp88_6 (x0 x1) : keep [0, 2, 3, 7, 8, 9] (e91 x0 x1) = (e94 x0 x1) := by kernel_rfl
theorem kp88_7 (x0 x1) : keep [0, 2, 3, 7, 8, 9] (e94 x0 x1) = (e94 x0 x1) := by kernel_rfl
theorem kp88_8 (x0 x1 x2 x3) : keep [0, 2, 3, 7, 8, 9] (e95 x0 x1 x2 x3) = (e95 x0 x1 x2 x3) := by kernel_rfl
def g88_12 (x0 x1 : V7) (x2 x3 : Int) (k0 : V7 → V7 → Int → Int → Option R) : Option R :=
k0 x0 x1 x2 (IntKind.i64.wrap (x3 + (1 : Int)))
theorem t88_12 (x0 x1 x2 x3) : exec cl N c88_12 (e95 x0 x1 x2 x3) K = (g88_12 x0 x1 x2 x3 (fun y0 y1 y2 y3 => K .normal (e87 y0 y1 y2 y3))) := by
  kernel_rfl
def g88_13 (S97 : V0 → V13 → Option (Bool)) (S98 : Int → Option (Bool)) (x0 x1 : V7) (x2 x3 : Int) (k0 : V1 → Int → Option R) (k1 : V7 → V7 → Int → Int → Option R) (k2 : V7 → V7 → Int → Int → Option R) : Option R :=
(g88_2 x0 x1 x2 x3 (fun y0 y1 y2 y3 y4 => brB y4 ((fun y0 y1 y2 y3 => (g88_4 y0 y1 y2 y3 (fun y0 y1 y2 y3 y4 => (g88_5 y0 y1 y2 y3 y4 (fun y0 y1 y2 y3 y4 y5 => brB y5 (g88_6 y0 y1 y2 y3 y4 y5 (fun y0 y1 => ((fun y0 y1 => (k0 y0 y1)) y0 y1))) ((fun y0 y1 y2 y3 y4 => (g88_8 S97 S98 y0 y1 y2 y3 y4 (fun y0 y1 y2 y3 y4 => brB y4 (g88_9 y0 y1 y2 y3 y4 (fun y0 y1 => ((fun y0 y1 => (k0 y0 y1)) y0 y1))) (g88_12 y0 y1 y2 y3 k1)))) y0 y1 y2 y3 y4)))))) y0 y1 y2 y3) (k2 y0 y1 y2 y3)))
theorem t88_13 (S97) (S98) (h97 : (ctr97 S97).holds cl) (h98 : (ctr98 S98).holds cl) (x0 x1 x2 x3) : exec cl N c88_13 (e87 x0 x1 x2 x3) K = (g88_13 S97 S98 x0 x1 x2 x3 (fun y0 y1 => K .ret (e94 y0 y1)) (fun y0 y1 y2 y3 => K .normal (e87 y0 y1 y2 y3)) (fun y0 y1 y2 y3 => K (.exit 0) (e87 y0 y1 y2 y3))) := by
  simp only [c88_13, exec_seq, seqK_normal, seqK_exit, seqK_ret, t88_2, c88_3, exec_out, exec_cond', hb88_0, Option.bind_some, brB_true, brB_false, exec_skip, exec_exit, kp88_1, c88_11, exec_block, t88_4, t88_5, c88_7, hb88_1, t88_6, exec_ret, kp88_2, kp88_3, t88_8 S97 S98 h97 h98, c88_10, hb88_2, t88_9, kp88_4, kp88_5, blockK_normal, blockK_ret, blockK_eq, kp88_6, kp88_7, kp88_8, t88_12]
  rfl
def l88_14 {R : Type} (S97 : V0 → V13 → Option (Bool)) (S98 : Int → Option (Bool)) (k0 : V1 → Int → Option R) (k1 : V7 → V7 → Int → Int → Option R) : Nat → V7 → V7 → Int → Int → Option R
  | 0, _, _, _, _ => none
  | m + 1, x0, x1, x2, x3 => (g88_13 S97 S98 x0 x1 x2 x3 k0 (fun y0 y1 y2 y3 => l88_14 S97 S98 k0 k1 m y0 y1 y2 y3) k1)
theorem lt88_14 (S97) (S98) (h97 : (ctr97 S97).holds cl) (h98 : (ctr98 S98).holds cl) : ∀ (m) (x0 x1 x2 x3), iter [0, 7, 8, 9] (fun env K => exec cl N c88_13 env K) K m (e87 x0 x1 x2 x3) = l88_14 S97 S98 (fun y0 y1 => K .ret (e94 y0 y1)) (fun y0 y1 y2 y3 => K (.exit 0) (e87 y0 y1 y2 y3)) m x0 x1 x2 x3 := by
  intro m
  induction m with
  | zero => intros; rfl
  | succ m ih =>
    intro x0 x1 x2 x3
    simp only [iter_succ, t88_13 S97 S98 h97 h98, loopK_normal, loopK_exit, loopK_ret, kp88_0, ih]
    rfl
theorem kp88_9 (x0 x1) : keep [0, 2, 3] (e94 x0 x1) = (e96 x0 x1) := by kernel_rfl
theorem kp88_10 (x0 x1 x2 x3) : keep [0, 2, 3] (e87 x0 x1 x2 x3) = (e97 x0) := by kernel_rfl
def g88_14 (N : Nat) (S97 : V0 → V13 → Option (Bool)) (S98 : Int → Option (Bool)) (x0 x1 : V7) (x2 x3 : Int) (k0 : V1 → Int → Option R) (k1 : V7 → Option R) : Option R :=
l88_14 S97 S98 (fun y0 y1 => k0 y0 y1) (fun y0 y1 y2 y3 => k1 y0) N x0 x1 x2 x3
theorem t88_14 (S97) (S98) (h97 : (ctr97 S97).holds cl) (h98 : (ctr98 S98).holds cl) (x0 x1 x2 x3) : exec cl N c88_14 (e87 x0 x1 x2 x3) K = (g88_14 N S97 S98 x0 x1 x2 x3 (fun y0 y1 => K .ret (e96 y0 y1)) (fun y0 => K (.exit 0) (e97 y0))) := by
  simp only [c88_14, exec_out, exec_loop, kp88_0, lt88_14 S97 S98 h97 h98, kp88_10, kp88_9]
  rfl
theorem kp88_11 (x0 x1) : keep [0, 2, 3] (e96 x0 x1) = (e96 x0 x1) := by kernel_rfl
theorem kp88_12 (x0) : keep [0, 2, 3] (e97 x0) = (e97 x0) := by kernel_rfl
def g88_16 (S100 : V7 → V1 → Option V5) (x0 : V7) (k0 : V1 → Option R) : Option R :=
(S100 x0 ([32] : List UInt8)).bind fun r365 =>
k0 r365
theorem t88_16 (S100) (h100 : (ctr100 S100).holds cl) (x0) : exec cl N c88_16 (e97 x0) K = (g88_16 S100 x0 (fun y0 => K .normal [(6, .v .str y0)])) := by
  rw [← put_eq h100]
  kernel_rfl
def g88_17 (x0 : V1) (k0 : V1 → Bool → Option R) : Option R :=
k0 x0 (decide ((x0.length : Int) > (120 : Int)))
theorem t88_17 (x0) : exec cl N c88_17 [(6, .v .str x0)] K = (g88_17 x0 (fun y0 y1 => K .normal (e98 y0 y1))) := by
  kernel_rfl
def g88_18 (x0 : V1) (x1 : Bool) (k0 : V1 → Int → Option R) : Option R :=
k0 ([] : List UInt8) (3 : Int)
theorem t88_18 (x0 x1) : exec cl N c88_18 (e98 x0 x1) K = (g88_18 x0 x1 (fun y0 y1 => K .normal (e90 y0 y1))) := by
  kernel_rfl
theorem kp88_13 (x0 x1) : keep [2, 3, 6] (e90 x0 x1) = (e99 x0 x1) := by kernel_rfl
theorem kp88_14 (x0 x1) : keep [2, 3, 6] (e98 x0 x1) = [(2, .dead), (3, .dead), (6, .v .str x0)] := by kernel_rfl
theorem hb88_3 (x0 x1) : boolOf? (ent (e98 x0 x1) (.t 23)) = some x1 := by kernel_rfl
def g88_20 (x0 : V1) (k0 : V1 → Int → Option R) : Option R :=
k0 x0 (0 : Int)
theorem t88_20 (x0) : exec cl N c88_20 [(2, .dead), (3, .dead), (6, .v .str x0)] K = (g88_20 x0 (fun y0 y1 => K .normal (e90 y0 y1))) := by
  kernel_rfl
def g88_21 (N : Nat) (S97 : V0 → V13 → Option (Bool)) (S98 : Int → Option (Bool)) (S100 : V7 → V1 → Option V5) (x0 : V7) (k0 : V1 → Int → Option R) (k1 : V1 → Int → Option R) (k2 : V1 → Int → Option R) : Option R :=
(g88_0 x0 (fun y0 => (g88_1 y0 (fun y0 y1 y2 y3 => (g88_14 N S97 S98 y0 y1 y2 y3 (fun y0 y1 => (k0 y0 y1)) (fun y0 => ((fun y0 => (g88_16 S100 y0 (fun y0 => (g88_17 y0 (fun y0 y1 => brB y1 (g88_18 y0 y1 (fun y0 y1 => ((fun y0 y1 => (k1 y0 y1)) y0 y1))) ((fun y0 => (g88_20 y0 (fun y0 y1 => (k2 y0 y1)))) y0)))))) y0)))))))
theorem t88_21 (S97) (S98) (S100) (h97 : (ctr97 S97).holds cl) (h98 : (ctr98 S98).holds cl) (h100 : (ctr100 S100).holds cl) (x0) : exec cl N c88_21 [(0, .v U0 x0)] K = (g88_21 N S97 S98 S100 x0 (fun y0 y1 => K .ret (e96 y0 y1)) (fun y0 y1 => K .ret (e99 y0 y1)) (fun y0 y1 => K .ret (e90 y0 y1))) := by
  simp only [c88_21, exec_seq, seqK_normal, seqK_exit, seqK_ret, t88_0, t88_1, c88_15, exec_out, exec_block, t88_14 S97 S98 h97 h98, blockK_normal, blockK_ret, blockK_eq, kp88_11, kp88_12, t88_16 S100 h100, t88_17, c88_19, exec_cond', hb88_3, Option.bind_some, brB_true, brB_false, t88_18, exec_ret, exec_skip, kp88_13, kp88_14, t88_20]
  rfl
theorem rk88_0 (y0 y1) : retK d88 .ret (e96 y0 y1) = some [.v .str y0, .v U2 y1] := by kernel_rfl
theorem rk88_1 (y0 y1) : retK d88 .ret (e99 y0 y1) = some [.v .str y0, .v U2 y1] := by kernel_rfl
theorem rk88_2 (y0 y1) : retK d88 .ret (e90 y0 y1) = some [.v .str y0, .v U2 y1] := by kernel_rfl
def g88 (N : Nat) (S97 : V0 → V13 → Option (Bool)) (S98 : Int → Option (Bool)) (S100 : V7 → V1 → Option V5) (x0 : V7) (k : V1 → Int → Option R) : Option R :=
(g88_21 N S97 S98 S100 x0 (fun y0 y1 => k y0 y1) (fun y0 y1 => k y0 y1) (fun y0 y1 => k y0 y1))
theorem gen88 {N : Nat} {cl : Cal} (S97 : V0 → V13 → Option (Bool)) (S98 : Int → Option (Bool)) (S100 : V7 → V1 → Option V5) (h97 : (ctr97 S97).holds cl) (h98 : (ctr98 S98).holds cl) (h100 : (ctr100 S100).holds cl) (x0 : V7) {R : Type} (k : List E → Option R) : exec cl N c88 (params 0 [.v U0 x0]) (fun e env => (retK d88 e env).bind k) = g88 N S97 S98 S100 x0 (fun (r0 : V1) (r1 : Int) => k [.v .str r0, .v U2 r1]) := by
  have e0 : params 0 [.v U0 x0] = [(0, .v U0 x0)] := by kernel_rfl
  simp only [c88, e0, t88_21 S97 S98 S100 h97 h98 h100, rk88_0, rk88_1, rk88_2, Option.bind_some]
  rfl
def ctr88 (S : V7 → Option V9) : Ctr := { A := V7 × Unit, B := V1 × Int, f := 88, enc := fun a => [.v U0 a.1], dec := (decC (decV U0) dec0), S := fun a => S a.1, ent := fun b => [.v .str b.1, .v U2 b.2], ok := (decV_cons (T := U0) (fun es b h => dec0_some h)) }
def S88 (N : Nat) (x0 : V7) : Option V9 := g88 N (S97 N) (S98 N) (S100 N) x0 (fun (r0 : V1) (r1 : Int) => some (r0, r1))
def g56_0 (x0 : V1) (k0 : V1 → Option R) : Option R :=
k0 x0
theorem t56_0 (x0) : exec cl N c56_0 [(0, .v .str x0)] K = (g56_0 x0 (fun y0 => K .normal [(0, .v .str y0)])) := by
  kernel_rfl
def g56_1 (x0 : V1) (k0 : V0 → Option R) : Option R :=
k0 (x0.map fun b => (b.toNat : Int))
theorem t56_1 (x0) : exec cl N c56_1 [(0, .v .str x0)] K = (g56_1 x0 (fun y0 => K .normal (e100 y0))) := by
  kernel_rfl
def g56_2 (x0 : V0) (k0 : V0 → Int → Int → Option R) : Option R :=
k0 x0 (x0.length : Int) (0 : Int)
theorem t56_2 (x0) : exec cl N c56_2 (e100 x0) K = (g56_2 x0 (fun y0 y1 y2 => K .normal (e101 y0 y1 y2))) := by
  kernel_rfl
theorem kp56_0 (x0 x1 x2) : keep [3, 8, 9, 10] (e101 x0 x1 x2) = (e101 x0 x1 x2) := by kernel_rfl
def g56_3 (x0 : V0) (x1 x2 : Int) (k0 : V0 → Int → Int → Bool → Option R) : Option R :=
k0 x0 x1 x2 (decide (x2 < x1))
theorem t56_3 (x0 x1 x2) : exec cl N c56_3 (e101 x0 x1 x2) K = (g56_3 x0 x1 x2 (fun y0 y1 y2 y3 => K .normal (e102 y0 y1 y2 y3))) := by
  kernel_rfl
theorem kp56_1 (x0 x1 x2 x3) : keep [3, 8, 9, 10] (e102 x0 x1 x2 x3) = (e101 x0 x1 x2) := by kernel_rfl
theorem hb56_0 (x0 x1 x2 x3) : boolOf? (ent (e102 x0 x1 x2 x3) (.t 11)) = some x3 := by kernel_rfl
def g56_5 (x0 : V0) (x1 x2 : Int) (k0 : V0 → Int → Int → Int → Int → Option R) : Option R :=
if 0 ≤ x2 ∧ x2 < (x0.length : Int) then
if x2.toNat < x0.length then
k0 x0 x2 (x0.getD x2.toNat (0 : Int)) x1 x2
else none
else none
theorem t56_5 (x0 x1 x2) : exec cl N c56_5 (e101 x0 x1 x2) K = (g56_5 x0 x1 x2 (fun y0 y1 y2 y3 y4 => K .normal (e103 y0 y1 y2 y3 y4))) := by
  kernel_rfl
def g56_6 (x0 : V0) (x1 x2 x3 x4 : Int) (k0 : V0 → Int → Int → Int → Int → Bool → Option R) : Option R :=
brB (decide (x2 ≥ (65 : Int))) (k0 x0 x1 x2 x3 x4 (decide (x2 ≤ (90 : Int)))) (k0 x0 x1 x2 x3 x4 false)
theorem t56_6 (x0 x1 x2 x3 x4) : exec cl N c56_6 (e103 x0 x1 x2 x3 x4) K = (g56_6 x0 x1 x2 x3 x4 (fun y0 y1 y2 y3 y4 y5 => K .normal (e104 y0 y1 y2 y3 y4 y5))) := by
  kernel_rfl
def g56_7 (x0 : V0) (x1 x2 x3 x4 : Int) (x5 : Bool) (k0 : V0 → Int → Int → Option R) : Option R :=
if 0 ≤ x1 ∧ x1 < (x0.length : Int) then
if x1.toNat < x0.length then
k0 (x0.set x1.toNat (IntKind.u8.wrap ((IntKind.u8.wrap (x2 - (65 : Int))) + (97 : Int)))) x3 x4
else none
else none
theorem t56_7 (x0 x1 x2 x3 x4 x5) : exec cl N c56_7 (e104 x0 x1 x2 x3 x4 x5) K = (g56_7 x0 x1 x2 x3 x4 x5 (fun y0 y1 y2 => K .normal (e101 y0 y1 y2))) := by
  kernel_rfl
theorem kp56_2 (x0 x1 x2 x3 x4 x5) : keep [3, 8, 9, 10] (e104 x0 x1 x2 x3 x4 x5) = (e101 x0 x3 x4) := by kernel_rfl
theorem hb56_1 (x0 x1 x2 x3 x4 x5) : boolOf? (ent (e104 x0 x1 x2 x3 x4 x5) (.t 20)) = some x5 := by kernel_rfl
def g56_9 (x0 : V0) (x1 x2 : Int) (k0 : V0 → Int → Int → Option R) : Option R :=
(g56_5 x0 x1 x2 (fun y0 y1 y2 y3 y4 => (g56_6 y0 y1 y2 y3 y4 (fun y0 y1 y2 y3 y4 y5 => brB y5 (g56_7 y0 y1 y2 y3 y4 y5 (fun y0 y1 y2 => (k0 y0 y1 y2))) (k0 y0 y3 y4)))))
theorem t56_9 (x0 x1 x2) : exec cl N c56_9 (e101 x0 x1 x2) K = (g56_9 x0 x1 x2 (fun y0 y1 y2 => K .normal (e101 y0 y1 y2))) := by
  simp only [c56_9, exec_out, exec_block, exec_seq, seqK_normal, seqK_exit, seqK_ret, t56_5, t56_6, c56_8, exec_cond', hb56_1, Option.bind_some, brB_true, brB_false, t56_7, exec_skip, kp56_0, kp56_2, blockK_normal, blockK_ret, blockK_eq]
  rfl
def g56_10 (x0 : V0) (x1 x2 : Int) (k0 : V0 → Int → Int → Option R) : Option R :=
k0 x0 x1 (IntKind.i64.wrap (x2 + (1 : Int)))
theorem t56_10 (x0 x1 x2) : exec cl N c56_10 (e101 x0 x1 x2) K = (g56_10 x0 x1 x2 (fun y0 y1 y2 => K .normal (e101 y0 y1 y2))) := by
  kernel_rfl
def g56_11 (x0 : V0) (x1 x2 : Int) (k0 : V0 → Int → Int → Option R) (k1 : V0 → Int → Int → Option R) : Option R :=
(g56_3 x0 x1 x2 (fun y0 y1 y2 y3 => brB y3 ((fun y0 y1 y2 => (g56_9 y0 y1 y2 (fun y0 y1 y2 => (g56_10 y0 y1 y2 k0)))) y0 y1 y2) (k1 y0 y1 y2)))
theorem t56_11 (x0 x1 x2) : exec cl N c56_11 (e101 x0 x1 x2) K = (g56_11 x0 x1 x2 (fun y0 y1 y2 => K .normal (e101 y0 y1 y2)) (fun y0 y1 y2 => K (.exit 0) (e101 y0 y1 y2))) := by
  simp only [c56_11, exec_seq, seqK_normal, seqK_exit, seqK_ret, t56_3, c56_4, exec_out, exec_cond', hb56_0, Option.bind_some, brB_true, brB_false, exec_skip, exec_exit, kp56_1, t56_9, t56_10]
  rfl
def l56_12 {R : Type} (k0 : V0 → Int → Int → Option R) : Nat → V0 → Int → Int → Option R
  | 0, _, _, _ => none
  | m + 1, x0, x1, x2 => (g56_11 x0 x1 x2 (fun y0 y1 y2 => l56_12 k0 m y0 y1 y2) k0)
theorem lt56_12 : ∀ (m) (x0 x1 x2), iter [3, 8, 9, 10] (fun env K => exec cl N c56_11 env K) K m (e101 x0 x1 x2) = l56_12 (fun y0 y1 y2 => K (.exit 0) (e101 y0 y1 y2)) m x0 x1 x2 := by
  intro m
  induction m with
  | zero => intros; rfl
  | succ m ih =>
    intro x0 x1 x2
    simp only [iter_succ, t56_11, loopK_normal, loopK_exit, loopK_ret, kp56_0, ih]
    rfl
theorem kp56_3 (x0 x1 x2) : keep [3] (e101 x0 x1 x2) = (e100 x0) := by kernel_rfl
def g56_12 (N : Nat) (x0 : V0) (x1 x2 : Int) (k0 : V0 → Option R) : Option R :=
l56_12 (fun y0 y1 y2 => k0 y0) N x0 x1 x2
theorem t56_12 (x0 x1 x2) : exec cl N c56_12 (e101 x0 x1 x2) K = (g56_12 N x0 x1 x2 (fun y0 => K (.exit 0) (e100 y0))) := by
  simp only [c56_12, exec_out, exec_loop, kp56_0, lt56_12, kp56_3]
  rfl
theorem kp56_4 (x0) : keep [3] (e100 x0) = (e100 x0) := by kernel_rfl
def g56_14 (x0 : V0) (k0 : V1 → Option R) : Option R :=
k0 (x0.map fun n => UInt8.ofNat n.toNat)
theorem t56_14 (x0) : exec cl N c56_14 (e100 x0) K = (g56_14 x0 (fun y0 => K .normal [(2, .v .str y0)])) := by
  kernel_rfl
def g56_15 (N : Nat) (x0 : V1) (k0 : V1 → Option R) : Option R :=
(g56_0 x0 (fun y0 => (g56_1 y0 (fun y0 => (g56_2 y0 (fun y0 y1 y2 => (g56_12 N y0 y1 y2 (fun y0 => ((fun y0 => (g56_14 y0 (fun y0 => (k0 y0)))) y0)))))))))
theorem t56_15 (x0) : exec cl N c56_15 [(0, .v .str x0)] K = (g56_15 N x0 (fun y0 => K .ret [(2, .v .str y0)])) := by
  simp only [c56_15, exec_seq, seqK_normal, seqK_exit, seqK_ret, t56_0, t56_1, t56_2, c56_13, exec_out, exec_block, t56_12, blockK_normal, blockK_ret, blockK_eq, kp56_4, t56_14, exec_ret]
  rfl
theorem rk56_0 (y0) : retK d56 .ret [(2, .v .str y0)] = some [.v .str y0] := by kernel_rfl
def g56 (N : Nat) (x0 : V1) (k : V1 → Option R) : Option R :=
(g56_15 N x0 (fun y0 => k y0))
theorem gen56 {N : Nat} {cl : Cal} (x0 : V1) {R : Type} (k : List E → Option R) : exec cl N c56 (params 0 [.v .str x0]) (fun e env => (retK d56 e env).bind k) = g56 N x0 (fun (r0 : V1) => k [.v .str r0]) := by
  have e0 : params 0 [.v .str x0] = [(0, .v .str x0)] := by kernel_rfl
  simp only [c56, e0, t56_15, rk56_0, Option.bind_some]
  rfl
def ctr56 (S : V1 → Option V5) : Ctr := { A := V1 × Unit, B := V1, f := 56, enc := fun a => [.v .str a.1], dec := (decC (decV .str) dec0), S := fun a => S a.1, ent := fun b => [.v .str b], ok := (decV_cons (T := .str) (fun es b h => dec0_some h)) }
def S56 (N : Nat) (x0 : V1) : Option V5 := g56 N x0 (fun (r0 : V1) => some (r0))
def g73_0 (x0 : V1) (k0 : V1 → Option R) : Option R :=
k0 x0
theorem t73_0 (x0) : exec cl N c73_0 [(0, .v .str x0)] K = (g73_0 x0 (fun y0 => K .normal [(0, .v .str y0)])) := by
  kernel_rfl
def g73_1 (x0 : V1) (k0 : V1 → Bool → Option R) : Option R :=
k0 x0 (decide ((x0.length : Int) > (16 : Int)))
theorem t73_1 (x0) : exec cl N c73_1 [(0, .v .str x0)] K = (g73_1 x0 (fun y0 y1 => K .normal (e105 y0 y1))) := by
  kernel_rfl
def g73_2 (x0 : V1) (x1 : Bool) (k0 : Int → Option R) : Option R :=
k0 (3 : Int)
theorem t73_2 (x0 x1) : exec cl N c73_2 (e105 x0 x1) K = (g73_2 x0 x1 (fun y0 => K .normal [(2, .v U2 y0)])) := by
  kernel_rfl
theorem kp73_0 (x0) : keep [0, 2] [(2, .v U2 x0)] = (e11 x0) := by kernel_rfl
theorem kp73_1 (x0 x1) : keep [0, 2] (e105 x0 x1) = (e12 x0) := by kernel_rfl
theorem hb73_0 (x0 x1) : boolOf? (ent (e105 x0 x1) (.t 7)) = some x1 := by kernel_rfl
def g73_4 (S88 : V7 → Option V9) (x0 : V1) (k0 : V1 → Int → Option R) : Option R :=
(S88 [x0]).bind fun r387 =>
k0 x0 r387.2
theorem t73_4 (S88) (h88 : (ctr88 S88).holds cl) (x0) : exec cl N c73_4 (e12 x0) K = (g73_4 S88 x0 (fun y0 y1 => K .normal [(0, .v .str y0), (4, .v U2 y1)])) := by
  rw [← put_eq h88]
  kernel_rfl
def g73_5 (S56 : V1 → Option V5) (x0 : V1) (x1 : Int) (k0 : Bool → Option R) : Option R :=
brB (x1 != (0 : Int)) (k0 true) ((S56 x0).bind fun r389 =>
k0 (r389 != x0))
theorem t73_5 (S56) (h56 : (ctr56 S56).holds cl) (x0 x1) : exec cl N c73_5 [(0, .v .str x0), (4, .v U2 x1)] K = (g73_5 S56 x0 x1 (fun y0 => K .normal [(21, .v .bool y0)])) := by
  rw [← put_eq h56]
  kernel_rfl
def g73_6 (x0 : Bool) (k0 : Int → Option R) : Option R :=
k0 (2 : Int)
theorem t73_6 (x0) : exec cl N c73_6 [(21, .v .bool x0)] K = (g73_6 x0 (fun y0 => K .normal [(2, .v U2 y0)])) := by
  kernel_rfl
theorem kp73_2 (x0) : keep [2] [(2, .v U2 x0)] = [(2, .v U2 x0)] := by kernel_rfl
theorem kp73_3 (x0) : keep [2] [(21, .v .bool x0)] = [(2, .dead)] := by kernel_rfl
theorem hb73_1 (x0) : boolOf? (ent [(21, .v .bool x0)] (.t 21)) = some x0 := by kernel_rfl
def g73_8 (k0 : Int → Option R) : Option R :=
k0 (0 : Int)
theorem t73_8 : exec cl N c73_8 [(2, .dead)] K = (g73_8 (fun y0 => K .normal [(2, .v U2 y0)])) := by
  kernel_rfl
def g73_9 (S56 : V1 → Option V5) (S88 : V7 → Option V9) (x0 : V1) (k0 : Int → Option R) (k1 : Int → Option R) : Option R :=
(g73_0 x0 (fun y0 => (g73_1 y0 (fun y0 y1 => brB y1 (g73_2 y0 y1 (fun y0 => ((fun y0 => (k0 y0)) y0))) ((fun y0 => (g73_4 S88 y0 (fun y0 y1 => (g73_5 S56 y0 y1 (fun y0 => brB y0 (g73_6 y0 (fun y0 => ((fun y0 => (k1 y0)) y0))) (g73_8 (fun y0 => (k1 y0)))))))) y0)))))
theorem t73_9 (S56) (S88) (h56 : (ctr56 S56).holds cl) (h88 : (ctr88 S88).holds cl) (x0) : exec cl N c73_9 [(0, .v .str x0)] K = (g73_9 S56 S88 x0 (fun y0 => K .ret (e11 y0)) (fun y0 => K .ret [(2, .v U2 y0)])) := by
  simp only [c73_9, exec_seq, seqK_normal, seqK_exit, seqK_ret, t73_0, t73_1, c73_3, exec_out, exec_cond', hb73_0, Option.bind_some, brB_true, brB_false, t73_2, exec_ret, exec_skip, kp73_0, kp73_1, t73_4 S88 h88, t73_5 S56 h56, c73_7, hb73_1, t73_6, kp73_2, kp73_3, t73_8]
  rfl
theorem rk73_0 (y0) : retK d73 .ret (e11 y0) = some [.v U2 y0] := by kernel_rfl
theorem rk73_1 (y0) : retK d73 .ret [(2, .v U2 y0)] = some [.v U2 y0] := by kernel_rfl
def g73 (S56 : V1 → Option V5) (S88 : V7 → Option V9) (x0 : V1) (k : Int → Option R) : Option R :=
(g73_9 S56 S88 x0 (fun y0 => k y0) (fun y0 => k y0))
theorem gen73 {N : Nat} {cl : Cal} (S56 : V1 → Option V5) (S88 : V7 → Option V9) (h56 : (ctr56 S56).holds cl) (h88 : (ctr88 S88).holds cl) (x0 : V1) {R : Type} (k : List E → Option R) : exec cl N c73 (params 0 [.v .str x0]) (fun e env => (retK d73 e env).bind k) = g73 S56 S88 x0 (fun (r0 : Int) => k [.v U2 r0]) := by
  have e0 : params 0 [.v .str x0] = [(0, .v .str x0)] := by kernel_rfl
  simp only [c73, e0, t73_9 S56 S88 h56 h88, rk73_0, rk73_1, Option.bind_some]
  rfl
def ctr73 (S : V1 → Option (Int)) : Ctr := { A := V1 × Unit, B := Int, f := 73, enc := fun a => [.v .str a.1], dec := (decC (decV .str) dec0), S := fun a => S a.1, ent := fun b => [.v U2 b], ok := (decV_cons (T := .str) (fun es b h => dec0_some h)) }
def S73 (N : Nat) (x0 : V1) : Option (Int) := g73 (S56 N) (S88 N) x0 (fun (r0 : Int) => some (r0))
def g89_0 (x0 : V7) (x1 : V1) (k0 : V7 → V1 → Option R) : Option R :=
k0 x0 x1
theorem t89_0 (x0 x1) : exec cl N c89_0 (e32 x0 x1) K = (g89_0 x0 x1 (fun y0 y1 => K .normal (e32 y0 y1))) := by
  kernel_rfl
def g89_1 (x0 : V7) (x1 : V1) (k0 : V7 → V1 → Int → Int → Option R) : Option R :=
k0 x0 x1 (x0.length : Int) (0 : Int)
theorem t89_1 (x0 x1) : exec cl N c89_1 (e32 x0 x1) K = (g89_1 x0 x1 (fun y0 y1 y2 y3 => K .normal (e106 y0 y1 y2 y3))) := by
  kernel_rfl
theorem kp89_0 (x0 x1 x2 x3) : keep [0, 1, 7, 8] (e106 x0 x1 x2 x3) = (e106 x0 x1 x2 x3) := by kernel_rfl
def g89_2 (x0 : V7) (x1 : V1) (x2 x3 : Int) (k0 : V7 → V1 → Int → Int → Bool → Option R) : Option R :=
k0 x0 x1 x2 x3 (decide (x3 < x2))
theorem t89_2 (x0 x1 x2 x3) : exec cl N c89_2 (e106 x0 x1 x2 x3) K = (g89_2 x0 x1 x2 x3 (fun y0 y1 y2 y3 y4 => K .normal (e107 y0 y1 y2 y3 y4))) := by
  kernel_rfl
theorem kp89_1 (x0 x1 x2 x3 x4) : keep [0, 1, 7, 8] (e107 x0 x1 x2 x3 x4) = (e106 x0 x1 x2 x3) := by kernel_rfl
theorem hb89_0 (x0 x1 x2 x3 x4) : boolOf? (ent (e107 x0 x1 x2 x3 x4) (.t 9)) = some x4 := by kernel_rfl
def g89_4 (x0 : V7) (x1 : V1) (x2 x3 : Int) (k0 : V7 → V1 → Int → Int → Int → Option R) : Option R :=
k0 x0 x1 x3 x2 x3
theorem t89_4 (x0 x1 x2 x3) : exec cl N c89_4 (e106 x0 x1 x2 x3) K = (g89_4 x0 x1 x2 x3 (fun y0 y1 y2 y3 y4 => K .normal [(0, .v U0 y0), (1, .v .str y1), (5, .v U2 y2), (7, .v U2 y3), (8, .v U2 y4)])) := by
  kernel_rfl
def g89_5 (x0 : V7) (x1 : V1) (x2 x3 x4 : Int) (k0 : V7 → V1 → Int → Int → Int → Bool → Option R) : Option R :=
if 0 ≤ x2 ∧ x2 < (x0.length : Int) then
k0 x0 x1 x2 x3 x4 (x1 == (x0.getD x2.toNat []))
else none
theorem t89_5 (x0 x1 x2 x3 x4) : exec cl N c89_5 [(0, .v U0 x0), (1, .v .str x1), (5, .v U2 x2), (7, .v U2 x3), (8, .v U2 x4)] K = (g89_5 x0 x1 x2 x3 x4 (fun y0 y1 y2 y3 y4 y5 => K .normal (e108 y0 y1 y2 y3 y4 y5))) := by
  kernel_rfl
def g89_6 (x0 : V7) (x1 : V1) (x2 x3 x4 : Int) (x5 : Bool) (k0 : Int → Option R) : Option R :=
k0 x2
theorem t89_6 (x0 x1 x2 x3 x4 x5) : exec cl N c89_6 (e108 x0 x1 x2 x3 x4 x5) K = (g89_6 x0 x1 x2 x3 x4 x5 (fun y0 => K .normal [(4, .v U2 y0)])) := by
  kernel_rfl
theorem kp89_2 (x0) : keep [0, 1, 4, 7, 8] [(4, .v U2 x0)] = (e75 x0) := by kernel_rfl
theorem kp89_3 (x0 x1 x2 x3 x4 x5) : keep [0, 1, 4, 7, 8] (e108 x0 x1 x2 x3 x4 x5) = (e109 x0 x1 x3 x4) := by kernel_rfl
theorem hb89_1 (x0 x1 x2 x3 x4 x5) : boolOf? (ent (e108 x0 x1 x2 x3 x4 x5) (.t 16)) = some x5 := by kernel_rfl
theorem kp89_4 (x0) : keep [0, 1, 4, 7, 8] (e75 x0) = (e75 x0) := by kernel_rfl
theorem kp89_5 (x0 x1 x2 x3) : keep [0, 1, 4, 7, 8] (e109 x0 x1 x2 x3) = (e109 x0 x1 x2 x3) := by kernel_rfl
def g89_9 (x0 : V7) (x1 : V1) (x2 x3 : Int) (k0 : V7 → V1 → Int → Int → Option R) : Option R :=
k0 x0 x1 x2 (IntKind.i64.wrap (x3 + (1 : Int)))
theorem t89_9 (x0 x1 x2 x3) : exec cl N c89_9 (e109 x0 x1 x2 x3) K = (g89_9 x0 x1 x2 x3 (fun y0 y1 y2 y3 => K .normal (e106 y0 y1 y2 y3))) := by
  kernel_rfl
def g89_10 (x0 : V7) (x1 : V1) (x2 x3 : Int) (k0 : Int → Option R) (k1 : V7 → V1 → Int → Int → Option R) (k2 : V7 → V1 → Int → Int → Option R) : Option R :=
(g89_2 x0 x1 x2 x3 (fun y0 y1 y2 y3 y4 => brB y4 ((fun y0 y1 y2 y3 => (g89_4 y0 y1 y2 y3 (fun y0 y1 y2 y3 y4 => (g89_5 y0 y1 y2 y3 y4 (fun y0 y1 y2 y3 y4 y5 => brB y5 (g89_6 y0 y1 y2 y3 y4 y5 (fun y0 => ((fun y0 => (k0 y0)) y0))) (g89_9 y0 y1 y3 y4 k1)))))) y0 y1 y2 y3) (k2 y0 y1 y2 y3)))
theorem t89_10 (x0 x1 x2 x3) : exec cl N c89_10 (e106 x0 x1 x2 x3) K = (g89_10 x0 x1 x2 x3 (fun y0 => K .ret (e75 y0)) (fun y0 y1 y2 y3 => K .normal (e106 y0 y1 y2 y3)) (fun y0 y1 y2 y3 => K (.exit 0) (e106 y0 y1 y2 y3))) := by
  simp only [c89_10, exec_seq, seqK_normal, seqK_exit, seqK_ret, t89_2, c89_3, exec_out, exec_cond', hb89_0, Option.bind_some, brB_true, brB_false, exec_skip, exec_exit, kp89_1, c89_8, exec_block, t89_4, t89_5, c89_7, hb89_1, t89_6, exec_ret, kp89_2, kp89_3, blockK_normal, blockK_ret, blockK_eq, kp89_4, kp89_5, t89_9]
  rfl
def l89_11 {R : Type} (k0 : Int → Option R) (k1 : V7 → V1 → Int → Int → Option R) : Nat → V7 → V1 → Int → Int → Option R
  | 0, _, _, _, _ => none
  | m + 1, x0, x1, x2, x3 => (g89_10 x0 x1 x2 x3 k0 (fun y0 y1 y2 y3 => l89_11 k0 k1 m y0 y1 y2 y3) k1)
theorem lt89_11 : ∀ (m) (x0 x1 x2 x3), iter [0, 1, 7, 8] (fun env K => exec cl N c89_10 env K) K m (e106 x0 x1 x2 x3) = l89_11 (fun y0 => K .ret (e75 y0)) (fun y0 y1 y2 y3 => K (.exit 0) (e106 y0 y1 y2 y3)) m x0 x1 x2 x3 := by
  intro m
  induction m with
  | zero => intros; rfl
  | succ m ih =>
    intro x0 x1 x2 x3
    simp only [iter_succ, t89_10, loopK_normal, loopK_exit, loopK_ret, kp89_0, ih]
    rfl
theorem kp89_6 (x0) : keep [4] (e75 x0) = [(4, .v U2 x0)] := by kernel_rfl
theorem kp89_7 (x0 x1 x2 x3) : keep [4] (e106 x0 x1 x2 x3) = [(4, .dead)] := by kernel_rfl
def g89_11 (N : Nat) (x0 : V7) (x1 : V1) (x2 x3 : Int) (k0 : Int → Option R) (k1 : Option R) : Option R :=
l89_11 (fun y0 => k0 y0) (fun y0 y1 y2 y3 => k1) N x0 x1 x2 x3
theorem t89_11 (x0 x1 x2 x3) : exec cl N c89_11 (e106 x0 x1 x2 x3) K = (g89_11 N x0 x1 x2 x3 (fun y0 => K .ret [(4, .v U2 y0)]) (K (.exit 0) [(4, .dead)])) := by
  simp only [c89_11, exec_out, exec_loop, kp89_0, lt89_11, kp89_6, kp89_7]
  rfl
theorem kp89_8 (x0) : keep [4] [(4, .v U2 x0)] = [(4, .v U2 x0)] := by kernel_rfl
theorem kp89_9 : keep [4] [(4, .dead)] = [(4, .dead)] := by kernel_rfl
def g89_13 (k0 : Int → Option R) : Option R :=
k0 (-1 : Int)
theorem t89_13 : exec cl N c89_13 [(4, .dead)] K = (g89_13 (fun y0 => K .normal [(4, .v U2 y0)])) := by
  kernel_rfl
def g89_14 (N : Nat) (x0 : V7) (x1 : V1) (k0 : Int → Option R) : Option R :=
(g89_0 x0 x1 (fun y0 y1 => (g89_1 y0 y1 (fun y0 y1 y2 y3 => (g89_11 N y0 y1 y2 y3 (fun y0 => (k0 y0)) (g89_13 (fun y0 => (k0 y0))))))))
theorem t89_14 (x0 x1) : exec cl N c89_14 (e32 x0 x1) K = (g89_14 N x0 x1 (fun y0 => K .ret [(4, .v U2 y0)])) := by
  simp only [c89_14, exec_seq, seqK_normal, seqK_exit, seqK_ret, t89_0, t89_1, c89_12, exec_out, exec_block, t89_11, blockK_normal, blockK_ret, blockK_eq, kp89_8, kp89_9, t89_13, exec_ret]
  rfl
theorem rk89_0 (y0) : retK d89 .ret [(4, .v U2 y0)] = some [.v U2 y0] := by kernel_rfl
def g89 (N : Nat) (x0 : V7) (x1 : V1) (k : Int → Option R) : Option R :=
(g89_14 N x0 x1 (fun y0 => k y0))
theorem gen89 {N : Nat} {cl : Cal} (x0 : V7) (x1 : V1) {R : Type} (k : List E → Option R) : exec cl N c89 (params 0 [.v U0 x0, .v .str x1]) (fun e env => (retK d89 e env).bind k) = g89 N x0 x1 (fun (r0 : Int) => k [.v U2 r0]) := by
  have e0 : params 0 [.v U0 x0, .v .str x1] = (e32 x0 x1) := by kernel_rfl
  simp only [c89, e0, t89_14, rk89_0, Option.bind_some]
  rfl
def ctr89 (S : V7 → V1 → Option (Int)) : Ctr := { A := V7 × V1 × Unit, B := Int, f := 89, enc := fun a => [.v U0 a.1, .v .str a.2.1], dec := (decC (decV U0) (decC (decV .str) dec0)), S := fun a => S a.1 a.2.1, ent := fun b => [.v U2 b], ok := (decV_cons (T := U0) (decV_cons (T := .str) (fun es b h => dec0_some h))) }
def S89 (N : Nat) (x0 : V7) (x1 : V1) : Option (Int) := g89 N x0 x1 (fun (r0 : Int) => some (r0))
def g74_0 (x0 : V7) (x1 : V1) (k0 : V7 → V1 → Option R) : Option R :=
k0 x0 x1
theorem t74_0 (x0 x1) : exec cl N c74_0 (e32 x0 x1) K = (g74_0 x0 x1 (fun y0 y1 => K .normal (e32 y0 y1))) := by
  kernel_rfl
def g74_1 (S89 : V7 → V1 → Option (Int)) (x0 : V7) (x1 : V1) (k0 : Bool → Option R) : Option R :=
(S89 x0 x1).bind fun r401 =>
k0 (decide (r401 ≥ (0 : Int)))
theorem t74_1 (S89) (h89 : (ctr89 S89).holds cl) (x0 x1) : exec cl N c74_1 (e32 x0 x1) K = (g74_1 S89 x0 x1 (fun y0 => K .normal [(4, .v .bool y0)])) := by
  rw [← put_eq h89]
  kernel_rfl
def g74_2 (S89 : V7 → V1 → Option (Int)) (x0 : V7) (x1 : V1) (k0 : Bool → Option R) : Option R :=
(g74_0 x0 x1 (fun y0 y1 => (g74_1 S89 y0 y1 (fun y0 => (k0 y0)))))
theorem t74_2 (S89) (h89 : (ctr89 S89).holds cl) (x0 x1) : exec cl N c74_2 (e32 x0 x1) K = (g74_2 S89 x0 x1 (fun y0 => K .ret [(4, .v .bool y0)])) := by
  simp only [c74_2, exec_seq, seqK_normal, seqK_exit, seqK_ret, t74_0, t74_1 S89 h89, exec_ret]
  rfl
theorem rk74_0 (y0) : retK d74 .ret [(4, .v .bool y0)] = some [.v .bool y0] := by kernel_rfl
def g74 (S89 : V7 → V1 → Option (Int)) (x0 : V7) (x1 : V1) (k : Bool → Option R) : Option R :=
(g74_2 S89 x0 x1 (fun y0 => k y0))
theorem gen74 {N : Nat} {cl : Cal} (S89 : V7 → V1 → Option (Int)) (h89 : (ctr89 S89).holds cl) (x0 : V7) (x1 : V1) {R : Type} (k : List E → Option R) : exec cl N c74 (params 0 [.v U0 x0, .v .str x1]) (fun e env => (retK d74 e env).bind k) = g74 S89 x0 x1 (fun (r0 : Bool) => k [.v .bool r0]) := by
  have e0 : params 0 [.v U0 x0, .v .str x1] = (e32 x0 x1) := by kernel_rfl
  simp only [c74, e0, t74_2 S89 h89, rk74_0, Option.bind_some]
  rfl
def ctr74 (S : V7 → V1 → Option (Bool)) : Ctr := { A := V7 × V1 × Unit, B := Bool, f := 74, enc := fun a => [.v U0 a.1, .v .str a.2.1], dec := (decC (decV U0) (decC (decV .str) dec0)), S := fun a => S a.1 a.2.1, ent := fun b => [.v .bool b], ok := (decV_cons (T := U0) (decV_cons (T := .str) (fun es b h => dec0_some h))) }
def S74 (N : Nat) (x0 : V7) (x1 : V1) : Option (Bool) := g74 (S89 N) x0 x1 (fun (r0 : Bool) => some (r0))
def g54_0 (x0 : V20) (k0 : V20 → Option R) : Option R :=
k0 x0
theorem t54_0 (x0) : exec cl N c54_0 [(0, .v U21 x0)] K = (g54_0 x0 (fun y0 => K .normal [(1, .loc U21 .no y0)])) := by
  kernel_rfl
def g54_1 (x0 : V20) (k0 : V20 → Bool → Option R) : Option R :=
brB (decide (x0.1 < (1 : Int))) (k0 x0 true) (brB (decide (x0.1 > (12 : Int))) (k0 x0 true) (brB (decide (x0.2.1 < (0 : Int))) (k0 x0 true) (k0 x0 (decide (x0.2.1 > (999 : Int))))))
theorem t54_1 (x0) : exec cl N c54_1 [(1, .loc U21 .no x0)] K = (g54_1 x0 (fun y0 y1 => K .normal (e110 y0 y1))) := by
  kernel_rfl
def g54_2 (x0 : V20) (x1 : Bool) (k0 : Int → Option R) : Option R :=
k0 (6 : Int)
theorem t54_2 (x0 x1) : exec cl N c54_2 (e110 x0 x1) K = (g54_2 x0 x1 (fun y0 => K .normal [(2, .v U2 y0)])) := by
  kernel_rfl
theorem kp54_0 (x0) : keep [1, 2] [(2, .v U2 x0)] = (e39 x0) := by kernel_rfl
def g54_3 (x0 : V20) (x1 : Bool) (k0 : V20 → Bool → Option R) : Option R :=
k0 x0 (decide ((x0.2.2.1.length : Int) > (20 : Int)))
theorem t54_3 (x0 x1) : exec cl N c54_3 (e110 x0 x1) K = (g54_3 x0 x1 (fun y0 y1 => K .normal (e111 y0 y1))) := by
  kernel_rfl
def g54_4 (x0 : V20) (x1 : Bool) (k0 : Int → Option R) : Option R :=
k0 (3 : Int)
theorem t54_4 (x0 x1) : exec cl N c54_4 (e111 x0 x1) K = (g54_4 x0 x1 (fun y0 => K .normal [(2, .v U2 y0)])) := by
  kernel_rfl
theorem kp54_1 (x0 x1) : keep [1, 2] (e111 x0 x1) = (e40 x0) := by kernel_rfl
theorem hb54_0 (x0 x1) : boolOf? (ent (e111 x0 x1) (.t 25)) = some x1 := by kernel_rfl
theorem kp54_2 (x0) : keep [1, 2] (e39 x0) = (e39 x0) := by kernel_rfl
theorem kp54_3 (x0) : keep [1, 2] (e40 x0) = (e40 x0) := by kernel_rfl
theorem hb54_1 (x0 x1) : boolOf? (ent (e110 x0 x1) (.t 6)) = some x1 := by kernel_rfl
def g54_8 (x0 : V20) (k0 : V20 → V7 → Int → Int → Option R) : Option R :=
k0 x0 x0.2.2.1 (x0.2.2.1.length : Int) (0 : Int)
theorem t54_8 (x0) : exec cl N c54_8 (e40 x0) K = (g54_8 x0 (fun y0 y1 y2 y3 => K .normal (e112 y0 y1 y2 y3))) := by
  kernel_rfl
theorem kp54_4 (x0 x1 x2 x3) : keep [1, 31, 32, 33] (e112 x0 x1 x2 x3) = (e112 x0 x1 x2 x3) := by kernel_rfl
def g54_9 (x0 : V20) (x1 : V7) (x2 x3 : Int) (k0 : V20 → V7 → Int → Int → Bool → Option R) : Option R :=
k0 x0 x1 x2 x3 (decide (x3 < x2))
theorem t54_9 (x0 x1 x2 x3) : exec cl N c54_9 (e112 x0 x1 x2 x3) K = (g54_9 x0 x1 x2 x3 (fun y0 y1 y2 y3 y4 => K .normal (e113 y0 y1 y2 y3 y4))) := by
  kernel_rfl
theorem kp54_5 (x0 x1 x2 x3 x4) : keep [1, 31, 32, 33] (e113 x0 x1 x2 x3 x4) = (e112 x0 x1 x2 x3) := by kernel_rfl
theorem hb54_2 (x0 x1 x2 x3 x4) : boolOf? (ent (e113 x0 x1 x2 x3 x4) (.t 34)) = some x4 := by kernel_rfl
def g54_11 (x0 : V20) (x1 : V7) (x2 x3 : Int) (k0 : V20 → Int → V1 → V7 → Int → Int → Option R) : Option R :=
if 0 ≤ x3 ∧ x3 < (x1.length : Int) then
k0 x0 x3 (x1.getD x3.toNat []) x1 x2 x3
else none
theorem t54_11 (x0 x1 x2 x3) : exec cl N c54_11 (e112 x0 x1 x2 x3) K = (g54_11 x0 x1 x2 x3 (fun y0 y1 y2 y3 y4 y5 => K .normal (e114 y0 y1 y2 y3 y4 y5))) := by
  kernel_rfl
def g54_12 (S73 : V1 → Option (Int)) (x0 : V20) (x1 : Int) (x2 : V1) (x3 : V7) (x4 x5 : Int) (k0 : V20 → Int → V1 → Int → V7 → Int → Int → Option R) : Option R :=
(S73 x2).bind fun r411 =>
k0 x0 x1 x2 r411 x3 x4 x5
theorem t54_12 (S73) (h73 : (ctr73 S73).holds cl) (x0 x1 x2 x3 x4 x5) : exec cl N c54_12 (e114 x0 x1 x2 x3 x4 x5) K = (g54_12 S73 x0 x1 x2 x3 x4 x5 (fun y0 y1 y2 y3 y4 y5 y6 => K .normal (e115 y0 y1 y2 y3 y4 y5 y6))) := by
  rw [← put_eq h73]
  kernel_rfl
def g54_13 (x0 : V20) (x1 : Int) (x2 : V1) (x3 : Int) (x4 : V7) (x5 x6 : Int) (k0 : V20 → Int → V1 → Int → V7 → Int → Int → Bool → Option R) : Option R :=
k0 x0 x1 x2 x3 x4 x5 x6 (x3 != (0 : Int))
theorem t54_13 (x0 x1 x2 x3 x4 x5 x6) : exec cl N c54_13 (e115 x0 x1 x2 x3 x4 x5 x6) K = (g54_13 x0 x1 x2 x3 x4 x5 x6 (fun y0 y1 y2 y3 y4 y5 y6 y7 => K .normal (e116 y0 y1 y2 y3 y4 y5 y6 y7))) := by
  kernel_rfl
def g54_14 (x0 : V20) (x1 : Int) (x2 : V1) (x3 : Int) (x4 : V7) (x5 x6 : Int) (x7 : Bool) (k0 : Int → Option R) : Option R :=
k0 x3
theorem t54_14 (x0 x1 x2 x3 x4 x5 x6 x7) : exec cl N c54_14 (e116 x0 x1 x2 x3 x4 x5 x6 x7) K = (g54_14 x0 x1 x2 x3 x4 x5 x6 x7 (fun y0 => K .normal [(2, .v U2 y0)])) := by
  kernel_rfl
theorem kp54_6 (x0) : keep [1, 2, 3, 4, 31, 32, 33] [(2, .v U2 x0)] = (e117 x0) := by kernel_rfl
theorem kp54_7 (x0 x1 x2 x3 x4 x5 x6 x7) : keep [1, 2, 3, 4, 31, 32, 33] (e116 x0 x1 x2 x3 x4 x5 x6 x7) = (e118 x0 x1 x2 x4 x5 x6) := by kernel_rfl
theorem hb54_3 (x0 x1 x2 x3 x4 x5 x6 x7) : boolOf? (ent (e116 x0 x1 x2 x3 x4 x5 x6 x7) (.t 41)) = some x7 := by kernel_rfl
def g54_16 (S74 : V7 → V1 → Option (Bool)) (x0 : V20) (x1 : Int) (x2 : V1) (x3 : V7) (x4 x5 : Int) (k0 : V20 → V7 → Int → Int → Bool → Option R) : Option R :=
if 0 ≤ (0 : Int) ∧ (0 : Int) ≤ x1 ∧ x1 ≤ (x0.2.2.1.length : Int) ∧ (x0.2.2.1.length : Int) ≤ (x0.2.2.1.length : Int) then
(S74 ((x0.2.2.1.drop (0 : Int).toNat).take (x1.toNat - (0 : Int).toNat)) x2).bind fun r414 =>
k0 x0 x3 x4 x5 r414
else none
theorem t54_16 (S74) (h74 : (ctr74 S74).holds cl) (x0 x1 x2 x3 x4 x5) : exec cl N c54_16 (e118 x0 x1 x2 x3 x4 x5) K = (g54_16 S74 x0 x1 x2 x3 x4 x5 (fun y0 y1 y2 y3 y4 => K .normal (e119 y0 y1 y2 y3 y4))) := by
  rw [← put_eq h74]
  kernel_rfl
def g54_17 (x0 : V20) (x1 : V7) (x2 x3 : Int) (x4 : Bool) (k0 : Int → Option R) : Option R :=
k0 (5 : Int)
theorem t54_17 (x0 x1 x2 x3 x4) : exec cl N c54_17 (e119 x0 x1 x2 x3 x4) K = (g54_17 x0 x1 x2 x3 x4 (fun y0 => K .normal [(2, .v U2 y0)])) := by
  kernel_rfl
theorem kp54_8 (x0) : keep [1, 2, 31, 32, 33] [(2, .v U2 x0)] = (e120 x0) := by kernel_rfl
theorem kp54_9 (x0 x1 x2 x3 x4) : keep [1, 2, 31, 32, 33] (e119 x0 x1 x2 x3 x4) = (e121 x0 x1 x2 x3) := by kernel_rfl
theorem hb54_4 (x0 x1 x2 x3 x4) : boolOf? (ent (e119 x0 x1 x2 x3 x4) (.t 48)) = some x4 := by kernel_rfl
theorem kp54_10 (x0) : keep [1, 2, 31, 32, 33] (e117 x0) = (e120 x0) := by kernel_rfl
theorem kp54_11 (x0) : keep [1, 2, 31, 32, 33] (e120 x0) = (e120 x0) := by kernel_rfl
theorem kp54_12 (x0 x1 x2 x3) : keep [1, 2, 31, 32, 33] (e121 x0 x1 x2 x3) = (e121 x0 x1 x2 x3) := by kernel_rfl
def g54_20 (x0 : V20) (x1 : V7) (x2 x3 : Int) (k0 : V20 → V7 → Int → Int → Option R) : Option R :=
k0 x0 x1 x2 (IntKind.i64.wrap (x3 + (1 : Int)))
theorem t54_20 (x0 x1 x2 x3) : exec cl N c54_20 (e121 x0 x1 x2 x3) K = (g54_20 x0 x1 x2 x3 (fun y0 y1 y2 y3 => K .normal (e112 y0 y1 y2 y3))) := by
  kernel_rfl
def g54_21 (S73 : V1 → Option (Int)) (S74 : V7 → V1 → Option (Bool)) (x0 : V20) (x1 : V7) (x2 x3 : Int) (k0 : Int → Option R) (k1 : V20 → V7 → Int → Int → Option R) (k2 : V20 → V7 → Int → Int → Option R) : Option R :=
(g54_9 x0 x1 x2 x3 (fun y0 y1 y2 y3 y4 => brB y4 ((fun y0 y1 y2 y3 => (g54_11 y0 y1 y2 y3 (fun y0 y1 y2 y3 y4 y5 => (g54_12 S73 y0 y1 y2 y3 y4 y5 (fun y0 y1 y2 y3 y4 y5 y6 => (g54_13 y0 y1 y2 y3 y4 y5 y6 (fun y0 y1 y2 y3 y4 y5 y6 y7 => brB y7 (g54_14 y0 y1 y2 y3 y4 y5 y6 y7 (fun y0 => ((fun y0 => (k0 y0)) y0))) ((fun y0 y1 y2 y3 y4 y5 => (g54_16 S74 y0 y1 y2 y3 y4 y5 (fun y0 y1 y2 y3 y4 => brB y4 (g54_17 y0 y1 y2 y3 y4 (fun y0 => ((fun y0 => (k0 y0)) y0))) (g54_20 y0 y1 y2 y3 k1)))) y0 y1 y2 y4 y5 y6)))))))) y0 y1 y2 y3) (k2 y0 y1 y2 y3)))
theorem t54_21 (S73) (S74) (h73 : (ctr73 S73).holds cl) (h74 : (ctr74 S74).holds cl) (x0 x1 x2 x3) : exec cl N c54_21 (e112 x0 x1 x2 x3) K = (g54_21 S73 S74 x0 x1 x2 x3 (fun y0 => K .ret (e120 y0)) (fun y0 y1 y2 y3 => K .normal (e112 y0 y1 y2 y3)) (fun y0 y1 y2 y3 => K (.exit 1) (e112 y0 y1 y2 y3))) := by
  simp only [c54_21, exec_seq, seqK_normal, seqK_exit, seqK_ret, t54_9, c54_10, exec_out, exec_cond', hb54_2, Option.bind_some, brB_true, brB_false, exec_skip, exec_exit, kp54_5, c54_19, exec_block, t54_11, t54_12 S73 h73, t54_13, c54_15, hb54_3, t54_14, exec_ret, kp54_6, kp54_7, t54_16 S74 h74, c54_18, hb54_4, t54_17, kp54_8, kp54_9, blockK_normal, blockK_ret, blockK_eq, kp54_10, kp54_11, kp54_12, t54_20]
  rfl
def l54_22 {R : Type} (S73 : V1 → Option (Int)) (S74 : V7 → V1 → Option (Bool)) (k0 : Int → Option R) (k1 : V20 → V7 → Int → Int → Option R) : Nat → V20 → V7 → Int → Int → Option R
  | 0, _, _, _, _ => none
  | m + 1, x0, x1, x2, x3 => (g54_21 S73 S74 x0 x1 x2 x3 k0 (fun y0 y1 y2 y3 => l54_22 S73 S74 k0 k1 m y0 y1 y2 y3) k1)
theorem lt54_22 (S73) (S74) (h73 : (ctr73 S73).holds cl) (h74 : (ctr74 S74).holds cl) : ∀ (m) (x0 x1 x2 x3), iter [1, 31, 32, 33] (fun env K => exec cl N c54_21 env K) K m (e112 x0 x1 x2 x3) = l54_22 S73 S74 (fun y0 => K .ret (e120 y0)) (fun y0 y1 y2 y3 => K (.exit 1) (e112 y0 y1 y2 y3)) m x0 x1 x2 x3 := by
  intro m
  induction m with
  | zero => intros; rfl
  | succ m ih =>
    intro x0 x1 x2 x3
    simp only [iter_succ, t54_21 S73 S74 h73 h74, loopK_normal, loopK_exit, loopK_ret, kp54_4, ih]
    rfl
theorem kp54_13 (x0) : keep [2] (e120 x0) = [(2, .v U2 x0)] := by kernel_rfl
theorem kp54_14 (x0 x1 x2 x3) : keep [2] (e112 x0 x1 x2 x3) = [(2, .dead)] := by kernel_rfl
def g54_22 (N : Nat) (S73 : V1 → Option (Int)) (S74 : V7 → V1 → Option (Bool)) (x0 : V20) (x1 : V7) (x2 x3 : Int) (k0 : Int → Option R) (k1 : Option R) : Option R :=
l54_22 S73 S74 (fun y0 => k0 y0) (fun y0 y1 y2 y3 => k1) N x0 x1 x2 x3
theorem t54_22 (S73) (S74) (h73 : (ctr73 S73).holds cl) (h74 : (ctr74 S74).holds cl) (x0 x1 x2 x3) : exec cl N c54_22 (e112 x0 x1 x2 x3) K = (g54_22 N S73 S74 x0 x1 x2 x3 (fun y0 => K .ret [(2, .v U2 y0)]) (K (.exit 1) [(2, .dead)])) := by
  simp only [c54_22, exec_out, exec_loop, kp54_4, lt54_22 S73 S74 h73 h74, kp54_13, kp54_14]
  rfl
theorem kp54_15 (x0) : keep [2] [(2, .v U2 x0)] = [(2, .v U2 x0)] := by kernel_rfl
theorem kp54_16 : keep [2] [(2, .dead)] = [(2, .dead)] := by kernel_rfl
def g54_24 (k0 : Int → Option R) : Option R :=
k0 (0 : Int)
theorem t54_24 : exec cl N c54_24 [(2, .dead)] K = (g54_24 (fun y0 => K .normal [(2, .v U2 y0)])) := by
  kernel_rfl
def g54_25 (N : Nat) (S73 : V1 → Option (Int)) (S74 : V7 → V1 → Option (Bool)) (x0 : V20) (k0 : Int → Option R) (k1 : Int → Option R) : Option R :=
(g54_0 x0 (fun y0 => (g54_1 y0 (fun y0 y1 => brB y1 (g54_2 y0 y1 (fun y0 => ((fun y0 => (k0 y0)) y0))) (g54_3 y0 y1 (fun y0 y1 => brB y1 (g54_4 y0 y1 (fun y0 => ((fun y0 => (k0 y0)) y0))) ((fun y0 => ((fun y0 => ((fun y0 => (g54_8 y0 (fun y0 y1 y2 y3 => (g54_22 N S73 S74 y0 y1 y2 y3 (fun y0 => (k1 y0)) (g54_24 (fun y0 => (k1 y0))))))) y0)) y0)) y0)))))))
theorem t54_25 (S73) (S74) (h73 : (ctr73 S73).holds cl) (h74 : (ctr74 S74).holds cl) (x0) : exec cl N c54_25 [(0, .v U21 x0)] K = (g54_25 N S73 S74 x0 (fun y0 => K .ret (e39 y0)) (fun y0 => K .ret [(2, .v U2 y0)])) := by
  simp only [c54_25, exec_seq, seqK_normal, seqK_exit, seqK_ret, t54_0, c54_7, exec_out, exec_block, t54_1, c54_6, exec_cond', hb54_1, Option.bind_some, brB_true, brB_false, t54_2, exec_ret, t54_3, c54_5, hb54_0, t54_4, exec_skip, kp54_0, kp54_1, kp54_2, kp54_3, blockK_normal, blockK_ret, blockK_eq, t54_8, c54_23, t54_22 S73 S74 h73 h74, kp54_15, kp54_16, t54_24]
  rfl
theorem rk54_0 (y0) : retK d54 .ret (e39 y0) = some [.v U2 y0] := by kernel_rfl
theorem rk54_1 (y0) : retK d54 .ret [(2, .v U2 y0)] = some [.v U2 y0] := by kernel_rfl
def g54 (N : Nat) (S73 : V1 → Option (Int)) (S74 : V7 → V1 → Option (Bool)) (x0 : V20) (k : Int → Option R) : Option R :=
(g54_25 N S73 S74 x0 (fun y0 => k y0) (fun y0 => k y0))
theorem gen54 {N : Nat} {cl : Cal} (S73 : V1 → Option (Int)) (S74 : V7 → V1 → Option (Bool)) (h73 : (ctr73 S73).holds cl) (h74 : (ctr74 S74).holds cl) (x0 : V20) {R : Type} (k : List E → Option R) : exec cl N c54 (params 0 [.v U21 x0]) (fun e env => (retK d54 e env).bind k) = g54 N S73 S74 x0 (fun (r0 : Int) => k [.v U2 r0]) := by
  have e0 : params 0 [.v U21 x0] = [(0, .v U21 x0)] := by kernel_rfl
  simp only [c54, e0, t54_25 S73 S74 h73 h74, rk54_0, rk54_1, Option.bind_some]
  rfl
def ctr54 (S : V20 → Option (Int)) : Ctr := { A := V20 × Unit, B := Int, f := 54, enc := fun a => [.v U21 a.1], dec := (decC (decV U21) dec0), S := fun a => S a.1, ent := fun b => [.v U2 b], ok := (decV_cons (T := U21) (fun es b h => dec0_some h)) }
def S54 (N : Nat) (x0 : V20) : Option (Int) := g54 N (S73 N) (S74 N) x0 (fun (r0 : Int) => some (r0))
def g35_0 (x0 : V26) (k0 : V26 → Option R) : Option R :=
k0 x0
theorem t35_0 (x0) : exec cl N c35_0 [(0, .v U28 x0)] K = (g35_0 x0 (fun y0 => K .normal [(1, .loc U28 .no y0)])) := by
  kernel_rfl
def g35_1 (S53 : V1 → Option (Bool)) (x0 : V26) (k0 : V26 → Bool → Option R) : Option R :=
(S53 x0.1).bind fun r419 =>
k0 x0 (!r419)
theorem t35_1 (S53) (h53 : (ctr53 S53).holds cl) (x0) : exec cl N c35_1 [(1, .loc U28 .no x0)] K = (g35_1 S53 x0 (fun y0 y1 => K .normal (e122 y0 y1))) := by
  rw [← put_eq h53]
  kernel_rfl
def g35_2 (x0 : V26) (x1 : Bool) (k0 : Int → Option R) : Option R :=
k0 (2 : Int)
theorem t35_2 (x0 x1) : exec cl N c35_2 (e122 x0 x1) K = (g35_2 x0 x1 (fun y0 => K .normal [(2, .v U2 y0)])) := by
  kernel_rfl
theorem kp35_0 (x0) : keep [1, 2] [(2, .v U2 x0)] = (e39 x0) := by kernel_rfl
def g35_3 (x0 : V26) (x1 : Bool) (k0 : V26 → Bool → Option R) : Option R :=
k0 x0 (decide ((x0.2.1.length : Int) > (30 : Int)))
theorem t35_3 (x0 x1) : exec cl N c35_3 (e122 x0 x1) K = (g35_3 x0 x1 (fun y0 y1 => K .normal (e123 y0 y1))) := by
  kernel_rfl
def g35_4 (x0 : V26) (x1 : Bool) (k0 : Int → Option R) : Option R :=
k0 (3 : Int)
theorem t35_4 (x0 x1) : exec cl N c35_4 (e123 x0 x1) K = (g35_4 x0 x1 (fun y0 => K .normal [(2, .v U2 y0)])) := by
  kernel_rfl
theorem kp35_1 (x0 x1) : keep [1, 2] (e123 x0 x1) = (e49 x0) := by kernel_rfl
theorem hb35_0 (x0 x1) : boolOf? (ent (e123 x0 x1) (.t 11)) = some x1 := by kernel_rfl
theorem kp35_2 (x0) : keep [1, 2] (e39 x0) = (e39 x0) := by kernel_rfl
theorem kp35_3 (x0) : keep [1, 2] (e49 x0) = (e49 x0) := by kernel_rfl
theorem hb35_1 (x0 x1) : boolOf? (ent (e122 x0 x1) (.t 6)) = some x1 := by kernel_rfl
def g35_8 (x0 : V26) (k0 : V23 → Int → Int → Option R) : Option R :=
k0 x0.2.1 (x0.2.1.length : Int) (0 : Int)
theorem t35_8 (x0) : exec cl N c35_8 (e49 x0) K = (g35_8 x0 (fun y0 y1 y2 => K .normal (e124 y0 y1 y2))) := by
  kernel_rfl
theorem kp35_4 (x0 x1 x2) : keep [17, 18, 19] (e124 x0 x1 x2) = (e124 x0 x1 x2) := by kernel_rfl
def g35_9 (x0 : V23) (x1 x2 : Int) (k0 : V23 → Int → Int → Bool → Option R) : Option R :=
k0 x0 x1 x2 (decide (x2 < x1))
theorem t35_9 (x0 x1 x2) : exec cl N c35_9 (e124 x0 x1 x2) K = (g35_9 x0 x1 x2 (fun y0 y1 y2 y3 => K .normal (e125 y0 y1 y2 y3))) := by
  kernel_rfl
theorem kp35_5 (x0 x1 x2 x3) : keep [17, 18, 19] (e125 x0 x1 x2 x3) = (e124 x0 x1 x2) := by kernel_rfl
theorem hb35_2 (x0 x1 x2 x3) : boolOf? (ent (e125 x0 x1 x2 x3) (.t 20)) = some x3 := by kernel_rfl
def g35_11 (x0 : V23) (x1 x2 : Int) (k0 : V20 → V23 → Int → Int → Option R) : Option R :=
if 0 ≤ x2 ∧ x2 < (x0.length : Int) then
k0 (x0.getD x2.toNat ((0 : Int), ((0 : Int), ([], ())))) x0 x1 x2
else none
theorem t35_11 (x0 x1 x2) : exec cl N c35_11 (e124 x0 x1 x2) K = (g35_11 x0 x1 x2 (fun y0 y1 y2 y3 => K .normal [(4, .loc U21 .no y0), (17, .v U23 y1), (18, .v U2 y2), (19, .v U2 y3)])) := by
  kernel_rfl
def g35_12 (S54 : V20 → Option (Int)) (x0 : V20) (x1 : V23) (x2 x3 : Int) (k0 : Int → V23 → Int → Int → Option R) : Option R :=
(S54 x0).bind fun r422 =>
k0 r422 x1 x2 x3
theorem t35_12 (S54) (h54 : (ctr54 S54).holds cl) (x0 x1 x2 x3) : exec cl N c35_12 [(4, .loc U21 .no x0), (17, .v U23 x1), (18, .v U2 x2), (19, .v U2 x3)] K = (g35_12 S54 x0 x1 x2 x3 (fun y0 y1 y2 y3 => K .normal [(5, .v U2 y0), (17, .v U23 y1), (18, .v U2 y2), (19, .v U2 y3)])) := by
  rw [← put_eq h54]
  kernel_rfl
def g35_13 (x0 : Int) (x1 : V23) (x2 x3 : Int) (k0 : Int → V23 → Int → Int → Bool → Option R) : Option R :=
k0 x0 x1 x2 x3 (x0 != (0 : Int))
theorem t35_13 (x0 x1 x2 x3) : exec cl N c35_13 [(5, .v U2 x0), (17, .v U23 x1), (18, .v U2 x2), (19, .v U2 x3)] K = (g35_13 x0 x1 x2 x3 (fun y0 y1 y2 y3 y4 => K .normal (e126 y0 y1 y2 y3 y4))) := by
  kernel_rfl
def g35_14 (x0 : Int) (x1 : V23) (x2 x3 : Int) (x4 : Bool) (k0 : Int → Option R) : Option R :=
k0 x0
theorem t35_14 (x0 x1 x2 x3 x4) : exec cl N c35_14 (e126 x0 x1 x2 x3 x4) K = (g35_14 x0 x1 x2 x3 x4 (fun y0 => K .normal [(2, .v U2 y0)])) := by
  kernel_rfl
theorem kp35_6 (x0) : keep [2, 17, 18, 19] [(2, .v U2 x0)] = (e127 x0) := by kernel_rfl
theorem kp35_7 (x0 x1 x2 x3 x4) : keep [2, 17, 18, 19] (e126 x0 x1 x2 x3 x4) = (e128 x1 x2 x3) := by kernel_rfl
theorem hb35_3 (x0 x1 x2 x3 x4) : boolOf? (ent (e126 x0 x1 x2 x3 x4) (.t 26)) = some x4 := by kernel_rfl
theorem kp35_8 (x0) : keep [2, 17, 18, 19] (e127 x0) = (e127 x0) := by kernel_rfl
theorem kp35_9 (x0 x1 x2) : keep [2, 17, 18, 19] (e128 x0 x1 x2) = (e128 x0 x1 x2) := by kernel_rfl
def g35_17 (x0 : V23) (x1 x2 : Int) (k0 : V23 → Int → Int → Option R) : Option R :=
k0 x0 x1 (IntKind.i64.wrap (x2 + (1 : Int)))
theorem t35_17 (x0 x1 x2) : exec cl N c35_17 (e128 x0 x1 x2) K = (g35_17 x0 x1 x2 (fun y0 y1 y2 => K .normal (e124 y0 y1 y2))) := by
  kernel_rfl
def g35_18 (S54 : V20 → Option (Int)) (x0 : V23) (x1 x2 : Int) (k0 : Int → Option R) (k1 : V23 → Int → Int → Option R) (k2 : V23 → Int → Int → Option R) : Option R :=
(g35_9 x0 x1 x2 (fun y0 y1 y2 y3 => brB y3 ((fun y0 y1 y2 => (g35_11 y0 y1 y2 (fun y0 y1 y2 y3 => (g35_12 S54 y0 y1 y2 y3 (fun y0 y1 y2 y3 => (g35_13 y0 y1 y2 y3 (fun y0 y1 y2 y3 y4 => brB y4 (g35_14 y0 y1 y2 y3 y4 (fun y0 => ((fun y0 => (k0 y0)) y0))) (g35_17 y1 y2 y3 k1)))))))) y0 y1 y2) (k2 y0 y1 y2)))
theorem t35_18 (S54) (h54 : (ctr54 S54).holds cl) (x0 x1 x2) : exec cl N c35_18 (e124 x0 x1 x2) K = (g35_18 S54 x0 x1 x2 (fun y0 => K .ret (e127 y0)) (fun y0 y1 y2 => K .normal (e124 y0 y1 y2)) (fun y0 y1 y2 => K (.exit 1) (e124 y0 y1 y2))) := by
  simp only [c35_18, exec_seq, seqK_normal, seqK_exit, seqK_ret, t35_9, c35_10, exec_out, exec_cond', hb35_2, Option.bind_some, brB_true, brB_false, exec_skip, exec_exit, kp35_5, c35_16, exec_block, t35_11, t35_12 S54 h54, t35_13, c35_15, hb35_3, t35_14, exec_ret, kp35_6, kp35_7, blockK_normal, blockK_ret, blockK_eq, kp35_8, kp35_9, t35_17]
  rfl
def l35_19 {R : Type} (S54 : V20 → Option (Int)) (k0 : Int → Option R) (k1 : V23 → Int → Int → Option R) : Nat → V23 → Int → Int → Option R
  | 0, _, _, _ => none
  | m + 1, x0, x1, x2 => (g35_18 S54 x0 x1 x2 k0 (fun y0 y1 y2 => l35_19 S54 k0 k1 m y0 y1 y2) k1)
theorem lt35_19 (S54) (h54 : (ctr54 S54).holds cl) : ∀ (m) (x0 x1 x2), iter [17, 18, 19] (fun env K => exec cl N c35_18 env K) K m (e124 x0 x1 x2) = l35_19 S54 (fun y0 => K .ret (e127 y0)) (fun y0 y1 y2 => K (.exit 1) (e124 y0 y1 y2)) m x0 x1 x2 := by
  intro m
  induction m with
  | zero => intros; rfl
  | succ m ih =>
    intro x0 x1 x2
    simp only [iter_succ, t35_18 S54 h54, loopK_normal, loopK_exit, loopK_ret, kp35_4, ih]
    rfl
theorem kp35_10 (x0) : keep [2] (e127 x0) = [(2, .v U2 x0)] := by kernel_rfl
theorem kp35_11 (x0 x1 x2) : keep [2] (e124 x0 x1 x2) = [(2, .dead)] := by kernel_rfl
def g35_19 (N : Nat) (S54 : V20 → Option (Int)) (x0 : V23) (x1 x2 : Int) (k0 : Int → Option R) (k1 : Option R) : Option R :=
l35_19 S54 (fun y0 => k0 y0) (fun y0 y1 y2 => k1) N x0 x1 x2
theorem t35_19 (S54) (h54 : (ctr54 S54).holds cl) (x0 x1 x2) : exec cl N c35_19 (e124 x0 x1 x2) K = (g35_19 N S54 x0 x1 x2 (fun y0 => K .ret [(2, .v U2 y0)]) (K (.exit 1) [(2, .dead)])) := by
  simp only [c35_19, exec_out, exec_loop, kp35_4, lt35_19 S54 h54, kp35_10, kp35_11]
  rfl
theorem kp35_12 (x0) : keep [2] [(2, .v U2 x0)] = [(2, .v U2 x0)] := by kernel_rfl
theorem kp35_13 : keep [2] [(2, .dead)] = [(2, .dead)] := by kernel_rfl
def g35_21 (k0 : Int → Option R) : Option R :=
k0 (0 : Int)
theorem t35_21 : exec cl N c35_21 [(2, .dead)] K = (g35_21 (fun y0 => K .normal [(2, .v U2 y0)])) := by
  kernel_rfl
def g35_22 (N : Nat) (S53 : V1 → Option (Bool)) (S54 : V20 → Option (Int)) (x0 : V26) (k0 : Int → Option R) (k1 : Int → Option R) : Option R :=
(g35_0 x0 (fun y0 => (g35_1 S53 y0 (fun y0 y1 => brB y1 (g35_2 y0 y1 (fun y0 => ((fun y0 => (k0 y0)) y0))) (g35_3 y0 y1 (fun y0 y1 => brB y1 (g35_4 y0 y1 (fun y0 => ((fun y0 => (k0 y0)) y0))) ((fun y0 => ((fun y0 => ((fun y0 => (g35_8 y0 (fun y0 y1 y2 => (g35_19 N S54 y0 y1 y2 (fun y0 => (k1 y0)) (g35_21 (fun y0 => (k1 y0))))))) y0)) y0)) y0)))))))
theorem t35_22 (S53) (S54) (h53 : (ctr53 S53).holds cl) (h54 : (ctr54 S54).holds cl) (x0) : exec cl N c35_22 [(0, .v U28 x0)] K = (g35_22 N S53 S54 x0 (fun y0 => K .ret (e39 y0)) (fun y0 => K .ret [(2, .v U2 y0)])) := by
  simp only [c35_22, exec_seq, seqK_normal, seqK_exit, seqK_ret, t35_0, c35_7, exec_out, exec_block, t35_1 S53 h53, c35_6, exec_cond', hb35_1, Option.bind_some, brB_true, brB_false, t35_2, exec_ret, t35_3, c35_5, hb35_0, t35_4, exec_skip, kp35_0, kp35_1, kp35_2, kp35_3, blockK_normal, blockK_ret, blockK_eq, t35_8, c35_20, t35_19 S54 h54, kp35_12, kp35_13, t35_21]
  rfl
theorem rk35_0 (y0) : retK d35 .ret (e39 y0) = some [.v U2 y0] := by kernel_rfl
theorem rk35_1 (y0) : retK d35 .ret [(2, .v U2 y0)] = some [.v U2 y0] := by kernel_rfl
def g35 (N : Nat) (S53 : V1 → Option (Bool)) (S54 : V20 → Option (Int)) (x0 : V26) (k : Int → Option R) : Option R :=
(g35_22 N S53 S54 x0 (fun y0 => k y0) (fun y0 => k y0))
theorem gen35 {N : Nat} {cl : Cal} (S53 : V1 → Option (Bool)) (S54 : V20 → Option (Int)) (h53 : (ctr53 S53).holds cl) (h54 : (ctr54 S54).holds cl) (x0 : V26) {R : Type} (k : List E → Option R) : exec cl N c35 (params 0 [.v U28 x0]) (fun e env => (retK d35 e env).bind k) = g35 N S53 S54 x0 (fun (r0 : Int) => k [.v U2 r0]) := by
  have e0 : params 0 [.v U28 x0] = [(0, .v U28 x0)] := by kernel_rfl
  simp only [c35, e0, t35_22 S53 S54 h53 h54, rk35_0, rk35_1, Option.bind_some]
  rfl
def ctr35 (S : V26 → Option (Int)) : Ctr := { A := V26 × Unit, B := Int, f := 35, enc := fun a => [.v U28 a.1], dec := (decC (decV U28) dec0), S := fun a => S a.1, ent := fun b => [.v U2 b], ok := (decV_cons (T := U28) (fun es b h => dec0_some h)) }
def S35 (N : Nat) (x0 : V26) : Option (Int) := g35 N (S53 N) (S54 N) x0 (fun (r0 : Int) => some (r0))
end Go.Fw.L19
