/- Printed by an own program for this claim: the machine's code of functions, or their typed forms with their equations; no conditions. -/
import Derived.Test.YtnobiophckdjfaaFwYhy51
import Derived.Test.YtnobiophckdjfaaFwB5
set_option linter.unusedVariables false
set_option linter.unusedSimpArgs false
namespace Go.Fw.L51
open Go Go.Fw
set_option maxRecDepth 100000
set_option linter.unusedVariables false
set_option linter.unusedSimpArgs false
abbrev e0 := fun x0 x1 x2 x3 => ([(0, .v U1 x0), (1, .v U1 x1), (2, .v U1 x2), (3, .v U1 x3)] : Env)
abbrev e1 := fun x0 x1 => ([(0, .v U2 x0), (14, .v .bool x1)] : Env)
abbrev e2 := fun x0 x1 => ([(0, .v U2 x0), (2, .loc U4 (.pair (.own true 3 .no) .no) x1)] : Env)
abbrev e3 := fun x0 x1 x2 => ([(0, .v U2 x0), (2, .loc U4 (.pair (.own true 3 .no) .no) x1), (7, .v .bool x2)] : Env)
abbrev e4 := fun x0 => ([(0, .dead), (2, .loc U4 (.pair (.own true 3 .no) .no) x0)] : Env)
abbrev e5 := fun x0 x1 => ([(0, .v U1 x0), (2, .loc U4 (.pair (.own true 3 .no) .no) x1)] : Env)
abbrev e6 := fun x0 x1 x2 => ([(0, .v U1 x0), (2, .loc U4 (.pair (.own true 3 .no) .no) x1), (6, .v .bool x2)] : Env)
abbrev e7 := fun x0 x1 => ([(2, .loc U4 (.pair (.own true 3 .no) .no) x0), (3, .v U1 x1)] : Env)
abbrev e8 := fun x0 x1 => ([(0, .dead), (2, .loc U4 (.pair (.own true 3 .no) .no) x0), (3, .v U1 x1)] : Env)
abbrev e9 := fun x0 x1 => ([(0, .v U1 x0), (2, .loc U4 (.pair (.own true 3 .no) .no) x1), (3, .dead)] : Env)
abbrev e10 := fun x0 x1 x2 => ([(0, .v U1 x0), (2, .loc U4 (.pair (.own true 3 .no) .no) x1), (4, .own true 3 U1 .no x2)] : Env)
abbrev e11 := fun x0 x1 x2 x3 => ([(0, .v U1 x0), (2, .loc U4 (.pair (.own true 3 .no) .no) x1), (4, .own true 3 U1 .no x2), (9, .v .bool x3)] : Env)
abbrev e12 := fun x0 x1 => ([(2, .loc U4 (.pair (.own true 3 .no) .no) x0), (4, .own true 3 U1 .no x1)] : Env)
abbrev e13 := fun x0 x1 => ([(2, .loc U4 .no x0), (3, .v U1 x1)] : Env)
abbrev e14 := fun x0 x1 => ([(0, .v U2 x0), (1, .v U2 x1)] : Env)
abbrev e15 := fun x0 x1 x2 => ([(0, .v U2 x0), (1, .v U2 x1), (5, .own true 3 U1 .no x2)] : Env)
abbrev e16 := fun x0 x1 x2 x3 x4 => ([(1, .v U2 x0), (5, .own true 3 U1 .no x1), (17, .v U2 x2), (18, .v U1 x3), (19, .v U1 x4)] : Env)
abbrev e17 := fun x0 x1 x2 x3 x4 x5 => ([(1, .v U2 x0), (5, .own true 3 U1 .no x1), (17, .v U2 x2), (18, .v U1 x3), (19, .v U1 x4), (20, .v .bool x5)] : Env)
abbrev e18 := fun x0 x1 x2 x3 x4 x5 x6 x7 => ([(1, .v U2 x0), (5, .own true 3 U1 .no x1), (6, .v U1 x2), (7, .v U1 x3), (8, .v U1 x4), (17, .v U2 x5), (18, .v U1 x6), (19, .v U1 x7)] : Env)
abbrev e19 := fun x0 x1 x2 x3 x4 x5 x6 x7 x8 x9 x10 => ([(1, .v U2 x0), (5, .own true 3 U1 .no x1), (6, .v U1 x2), (7, .v U1 x3), (8, .v U1 x4), (17, .v U2 x5), (18, .v U1 x6), (19, .v U1 x7), (24, .v U2 x8), (25, .v U1 x9), (26, .v U1 x10)] : Env)
abbrev e20 := fun x0 x1 x2 x3 x4 x5 x6 x7 x8 x9 x10 x11 => ([(1, .v U2 x0), (5, .own true 3 U1 .no x1), (6, .v U1 x2), (7, .v U1 x3), (8, .v U1 x4), (17, .v U2 x5), (18, .v U1 x6), (19, .v U1 x7), (24, .v U2 x8), (25, .v U1 x9), (26, .v U1 x10), (27, .v .bool x11)] : Env)
abbrev e21 := fun x0 x1 x2 x3 x4 x5 x6 => ([(1, .v U2 x0), (5, .own true 3 U1 .no x1), (6, .v U1 x2), (8, .v U1 x3), (17, .v U2 x4), (18, .v U1 x5), (19, .v U1 x6)] : Env)
abbrev e22 := fun x0 => ([(5, .own true 3 U1 .no x0)] : Env)
abbrev e23 := fun x0 x1 x2 => ([(0, .v U2 x0), (1, .v U2 x1), (10, .v .bool x2)] : Env)
abbrev e24 := fun x0 => ([(0, .dead), (1, .dead), (4, .v U1 x0)] : Env)
abbrev e25 := fun x0 x1 => ([(0, .v U2 x0), (1, .v U2 x1), (4, .dead)] : Env)
abbrev e26 := fun x0 x1 x2 => ([(0, .v U2 x0), (1, .v U2 x1), (5, .v U1 x2)] : Env)
abbrev e27 := fun x0 x1 x2 x3 => ([(0, .v U2 x0), (1, .v U2 x1), (5, .v U1 x2), (20, .v .bool x3)] : Env)
abbrev e28 := fun x0 x1 x2 x3 => ([(0, .v U2 x0), (1, .v U2 x1), (5, .v U1 x2), (31, .v .bool x3)] : Env)
abbrev e29 := fun x0 => ([(0, .dead), (1, .dead), (4, .v U1 x0), (5, .dead)] : Env)
abbrev e30 := fun x0 x1 x2 => ([(0, .v U2 x0), (1, .v U2 x1), (4, .dead), (5, .v U1 x2)] : Env)
abbrev e31 := fun x0 x1 x2 x3 x4 => ([(1, .v U2 x0), (5, .own true 3 U1 .no x1), (6, .v U1 x2), (11, .v U1 x3), (12, .v U1 x4)] : Env)
abbrev e32 := fun x0 x1 x2 x3 x4 x5 => ([(1, .v U2 x0), (5, .own true 3 U1 .no x1), (6, .v U1 x2), (11, .v U1 x3), (12, .v U1 x4), (13, .v .bool x5)] : Env)
abbrev e33 := fun x0 x1 x2 x3 x4 => ([(1, .v U2 x0), (5, .own true 3 U1 .no x1), (7, .v U1 x2), (11, .v U1 x3), (12, .v U1 x4)] : Env)
abbrev e34 := fun x0 x1 x2 x3 x4 x5 => ([(1, .v U2 x0), (5, .own true 3 U1 .no x1), (7, .v U1 x2), (11, .v U1 x3), (12, .v U1 x4), (25, .v .bool x5)] : Env)
abbrev e35 := fun x0 x1 x2 x3 x4 x5 x6 => ([(1, .v U2 x0), (5, .own true 3 U1 .no x1), (6, .v U1 x2), (7, .v U1 x3), (11, .v U1 x4), (12, .v U1 x5), (40, .v .bool x6)] : Env)
abbrev e36 := fun x0 x1 x2 x3 => ([(0, .v U2 x0), (1, .v U2 x1), (6, .own true 3 U1 .no x2), (7, .v U2 x3)] : Env)
abbrev e37 := fun x0 x1 x2 x3 x4 => ([(0, .v U2 x0), (1, .v U2 x1), (6, .own true 3 U1 .no x2), (7, .v U2 x3), (8, .v U1 x4)] : Env)
abbrev e38 := fun x0 x1 x2 x3 x4 x5 => ([(0, .v U2 x0), (1, .v U2 x1), (6, .own true 3 U1 .no x2), (7, .v U2 x3), (8, .v U1 x4), (16, .v .bool x5)] : Env)
abbrev e39 := fun x0 x1 x2 x3 x4 x5 x6 => ([(0, .v U2 x0), (1, .v U2 x1), (6, .own true 3 U1 .no x2), (7, .v U2 x3), (8, .v U1 x4), (9, .v U1 x5), (10, .v U1 x6)] : Env)
abbrev e40 := fun x0 x1 x2 x3 x4 x5 x6 x7 => ([(0, .v U2 x0), (1, .v U2 x1), (6, .own true 3 U1 .no x2), (7, .v U2 x3), (8, .v U1 x4), (9, .v U1 x5), (10, .v U1 x6), (29, .v .bool x7)] : Env)
abbrev e41 := fun x0 x1 x2 x3 x4 x5 x6 x7 x8 => ([(0, .v U2 x0), (1, .v U2 x1), (6, .own true 3 U1 .no x2), (7, .v U2 x3), (8, .v U1 x4), (9, .v U1 x5), (10, .v U1 x6), (11, .v U1 x7), (41, .v .bool x8)] : Env)
abbrev e42 := fun x0 x1 x2 x3 x4 x5 => ([(0, .v U2 x0), (1, .v U2 x1), (6, .own true 3 U1 .no x2), (7, .v U2 x3), (8, .v U1 x4), (9, .v U1 x5)] : Env)
abbrev e43 := fun x0 x1 x2 x3 x4 x5 x6 => ([(0, .v U2 x0), (1, .v U2 x1), (6, .own true 3 U1 .no x2), (7, .v U2 x3), (8, .v U1 x4), (9, .v U1 x5), (46, .v .bool x6)] : Env)
abbrev e44 := fun x0 x1 => ([(6, .own true 3 U1 .no x0), (7, .v U2 x1)] : Env)
abbrev e45 := fun x0 x1 => ([(4, .v U2 x0), (5, .v U2 x1)] : Env)
abbrev e46 := fun x0 x1 x2 => ([(0, .v U2 x0), (2, .loc U4 (.pair (.own true 3 .no) .no) x1), (6, .v .bool x2)] : Env)
abbrev e47 := fun x0 x1 => ([(0, .v U2 x0), (2, .loc U4 (.pair (.own true 3 .no) .no) x1), (3, .dead)] : Env)
abbrev e48 := fun x0 x1 => ([(0, .v U1 x0), (1, .v U1 x1)] : Env)
abbrev e49 := fun x0 x1 x2 => ([(0, .v U1 x0), (1, .v U1 x1), (4, .loc U4 (.pair (.own true 3 .no) .no) x2)] : Env)
abbrev e50 := fun x0 x1 x2 x3 => ([(0, .v U1 x0), (1, .v U1 x1), (4, .loc U4 (.pair (.own true 3 .no) .no) x2), (22, .v .bool x3)] : Env)
abbrev e51 := fun x0 x1 => ([(4, .loc U4 (.pair (.own true 3 .no) .no) x0), (5, .v U1 x1)] : Env)
abbrev e52 := fun x0 x1 => ([(0, .dead), (1, .dead), (4, .loc U4 (.pair (.own true 3 .no) .no) x0), (5, .v U1 x1)] : Env)
abbrev e53 := fun x0 x1 x2 => ([(0, .v U1 x0), (1, .v U1 x1), (4, .loc U4 (.pair (.own true 3 .no) .no) x2), (5, .dead)] : Env)
abbrev e54 := fun x0 x1 x2 x3 => ([(0, .v U1 x0), (1, .v U1 x1), (4, .loc U4 (.pair (.own true 3 .no) .no) x2), (6, .v U2 x3)] : Env)
abbrev e55 := fun x0 x1 x2 x3 x4 => ([(0, .v U1 x0), (1, .v U1 x1), (4, .loc U4 (.pair (.own true 3 .no) .no) x2), (6, .v U2 x3), (7, .v U1 x4)] : Env)
abbrev e56 := fun x0 x1 x2 x3 x4 x5 => ([(0, .v U1 x0), (1, .v U1 x1), (4, .loc U4 (.pair (.own true 3 .no) .no) x2), (6, .v U2 x3), (7, .v U1 x4), (31, .v .bool x5)] : Env)
abbrev e57 := fun x0 x1 => ([(4, .loc U4 (.pair (.own true 3 .no) .no) x0), (6, .v U2 x1)] : Env)
abbrev e58 := fun x0 x1 => ([(4, .loc U4 .no x0), (5, .v U1 x1)] : Env)
abbrev e59 := fun x0 x1 x2 x3 => ([(0, .v U1 x0), (1, .v U1 x1), (4, .loc U4 (.pair (.own true 3 .no) .no) x2), (13, .v .bool x3)] : Env)
abbrev e60 := fun x0 => ([(0, .dead), (1, .dead), (4, .loc U4 .no x0)] : Env)
abbrev e61 := fun x0 x1 => ([(0, .v U2 x0), (1, .v U5 x1)] : Env)
abbrev e62 := fun x0 x1 x2 x3 => ([(0, .v U2 x0), (1, .v U5 x1), (7, .v U1 x2), (8, .v U1 x3)] : Env)
abbrev e63 := fun x0 x1 x2 x3 x4 => ([(0, .v U2 x0), (1, .v U5 x1), (7, .v U1 x2), (8, .v U1 x3), (9, .v .bool x4)] : Env)
abbrev e64 := fun x0 x1 x2 x3 x4 x5 => ([(0, .v U2 x0), (1, .v U5 x1), (5, .v U1 x2), (7, .v U1 x3), (8, .v U1 x4), (16, .v .bool x5)] : Env)
abbrev e65 := fun x0 => ([(0, .dead), (1, .dead), (4, .v U1 x0), (7, .dead), (8, .dead)] : Env)
abbrev e66 := fun x0 x1 x2 x3 => ([(0, .v U2 x0), (1, .v U5 x1), (4, .dead), (7, .v U1 x2), (8, .v U1 x3)] : Env)
abbrev e67 := fun x0 x1 => ([(3, .v U2 x0), (22, .v .bool x1)] : Env)
abbrev e68 := fun x0 x1 => ([(0, .v U4 x0), (1, .v U4 x1)] : Env)
abbrev e69 := fun x0 x1 x2 => ([(2, .loc U4 .no x0), (3, .loc U4 .no x1), (4, .loc U4 (.pair (.own true 3 .no) .no) x2)] : Env)
abbrev e70 := fun x0 x1 x2 x3 => ([(2, .loc U4 .no x0), (3, .loc U4 .no x1), (4, .loc U4 (.pair (.own true 3 .no) .no) x2), (13, .v .bool x3)] : Env)
abbrev e71 := fun x0 x1 => ([(2, .dead), (3, .dead), (4, .loc U4 (.pair (.own true 3 .no) .no) x0), (5, .v U1 x1)] : Env)
abbrev e72 := fun x0 x1 x2 => ([(2, .loc U4 .no x0), (3, .loc U4 .no x1), (4, .loc U4 (.pair (.own true 3 .no) .no) x2), (5, .dead)] : Env)
abbrev e73 := fun x0 x1 x2 x3 => ([(2, .loc U4 .no x0), (3, .loc U4 .no x1), (4, .loc U4 (.pair (.own true 3 .no) .no) x2), (17, .v .bool x3)] : Env)
abbrev e74 := fun x0 x1 x2 => ([(4, .loc U4 (.pair (.own true 3 .no) .no) x0), (6, .v U2 x1), (7, .v U2 x2)] : Env)
abbrev e75 := fun x0 x1 x2 x3 => ([(4, .loc U4 (.pair (.own true 3 .no) .no) x0), (6, .v U2 x1), (7, .v U2 x2), (27, .v .bool x3)] : Env)
abbrev e76 := fun x0 x1 x2 x3 => ([(2, .loc U4 .no x0), (3, .loc U4 .no x1), (4, .loc U4 (.pair (.own true 3 .no) .no) x2), (5, .loc U4 (.pair (.own true 3 .no) .no) x3)] : Env)
abbrev e77 := fun x0 x1 x2 x3 x4 => ([(2, .loc U4 .no x0), (3, .loc U4 .no x1), (4, .loc U4 (.pair (.own true 3 .no) .no) x2), (5, .loc U4 (.pair (.own true 3 .no) .no) x3), (9, .v .bool x4)] : Env)
abbrev e78 := fun x0 x1 x2 => ([(4, .loc U4 (.pair (.own true 3 .no) .no) x0), (5, .loc U4 (.pair (.own true 3 .no) .no) x1), (6, .v U1 x2)] : Env)
abbrev e79 := fun x0 x1 x2 => ([(2, .dead), (3, .dead), (4, .loc U4 (.pair (.own true 3 .no) .no) x0), (5, .loc U4 (.pair (.own true 3 .no) .no) x1), (6, .v U1 x2)] : Env)
abbrev e80 := fun x0 x1 x2 x3 x4 => ([(2, .loc U4 .no x0), (3, .loc U4 .no x1), (4, .loc U4 (.pair (.own true 3 .no) .no) x2), (5, .loc U4 (.pair (.own true 3 .no) .no) x3), (20, .v .bool x4)] : Env)
abbrev e81 := fun x0 x1 x2 x3 => ([(2, .loc U4 .no x0), (3, .loc U4 .no x1), (4, .loc U4 (.pair (.own true 3 .no) .no) x2), (5, .loc U4 (.pair (.own true 3 .no) .no) x3), (6, .dead)] : Env)
abbrev e82 := fun x0 x1 x2 => ([(4, .loc U4 .no x0), (5, .loc U4 .no x1), (6, .v U1 x2)] : Env)
abbrev e83 := fun x0 x1 x2 => ([(0, .v .bool x0), (1, .v U4 x1), (2, .v U4 x2)] : Env)
abbrev e84 := fun x0 x1 x2 => ([(2, .loc U4 .no x0), (3, .loc U4 .no x1), (4, .loc U11 (.pair .no (.pair (.pair (.own true 3 .no) .no) (.pair (.pair (.own true 3 .no) .no) .no))) x2)] : Env)
abbrev e85 := fun x0 x1 x2 x3 => ([(2, .loc U4 .no x0), (3, .loc U4 .no x1), (4, .loc U11 (.pair .no (.pair (.pair (.own true 3 .no) .no) (.pair (.pair (.own true 3 .no) .no) .no))) x2), (13, .v .bool x3)] : Env)
abbrev e86 := fun x0 x1 => ([(4, .loc U11 .no x0), (5, .v U1 x1)] : Env)
abbrev e87 := fun x0 x1 => ([(2, .dead), (3, .dead), (4, .loc U11 .no x0), (5, .v U1 x1)] : Env)
abbrev e88 := fun x0 x1 x2 => ([(2, .loc U4 .no x0), (3, .loc U4 .no x1), (4, .loc U11 (.pair .no (.pair (.pair (.own true 3 .no) .no) (.pair (.pair (.own true 3 .no) .no) .no))) x2), (5, .dead)] : Env)
abbrev e89 := fun x0 x1 x2 x3 => ([(2, .loc U4 .no x0), (3, .loc U4 .no x1), (4, .loc U11 (.pair .no (.pair (.pair (.own true 3 .no) .no) (.pair (.pair (.own true 3 .no) .no) .no))) x2), (16, .v .bool x3)] : Env)
abbrev e90 := fun x0 x1 x2 x3 x4 => ([(0, .v U1 x0), (1, .v U1 x1), (2, .v U1 x2), (3, .v U1 x3), (8, .loc U11 (.pair .no (.pair (.pair (.own true 3 .no) .no) (.pair (.pair (.own true 3 .no) .no) .no))) x4)] : Env)
abbrev e91 := fun x0 x1 x2 x3 x4 x5 x6 => ([(0, .v U1 x0), (1, .v U1 x1), (2, .v U1 x2), (3, .v U1 x3), (8, .loc U11 (.pair .no (.pair (.pair (.own true 3 .no) .no) (.pair (.pair (.own true 3 .no) .no) .no))) x4), (10, .v U1 x5), (17, .v .bool x6)] : Env)
abbrev e92 := fun x0 x1 => ([(8, .loc U11 .no x0), (9, .v U1 x1)] : Env)
abbrev e93 := fun x0 x1 => ([(0, .dead), (1, .dead), (2, .dead), (3, .dead), (8, .loc U11 .no x0), (9, .v U1 x1)] : Env)
abbrev e94 := fun x0 x1 x2 x3 x4 => ([(0, .v U1 x0), (1, .v U1 x1), (2, .v U1 x2), (3, .v U1 x3), (8, .loc U11 (.pair .no (.pair (.pair (.own true 3 .no) .no) (.pair (.pair (.own true 3 .no) .no) .no))) x4), (9, .dead)] : Env)
abbrev e95 := fun x0 x1 => ([(0, .v U2 x0), (1, .v U1 x1)] : Env)
abbrev e96 := fun x0 x1 x2 => ([(0, .v U2 x0), (1, .v U1 x1), (8, .v .bool x2)] : Env)
abbrev e97 := fun x0 x1 x2 x3 => ([(0, .v U2 x0), (1, .v U2 x1), (5, .own true 3 U1 .no x2), (6, .v U1 x3)] : Env)
abbrev e98 := fun x0 x1 x2 x3 x4 => ([(0, .v U2 x0), (1, .v U2 x1), (5, .own true 3 U1 .no x2), (6, .v U1 x3), (20, .v .bool x4)] : Env)
abbrev e99 := fun x0 x1 x2 x3 x4 x5 => ([(0, .v U2 x0), (1, .v U2 x1), (5, .own true 3 U1 .no x2), (6, .v U1 x3), (7, .v U1 x4), (8, .v U1 x5)] : Env)
abbrev e100 := fun x0 x1 x2 x3 x4 x5 x6 => ([(0, .v U2 x0), (1, .v U2 x1), (5, .own true 3 U1 .no x2), (6, .v U1 x3), (7, .v U1 x4), (8, .v U1 x5), (30, .v .bool x6)] : Env)
abbrev e101 := fun x0 x1 x2 => ([(0, .v U2 x0), (1, .v U2 x1), (15, .v .bool x2)] : Env)
abbrev e102 := fun x0 x1 x2 x3 => ([(0, .v U2 x0), (1, .v U2 x1), (5, .v U1 x2), (40, .v .bool x3)] : Env)
abbrev e103 := fun x0 x1 x2 x3 x4 => ([(0, .v U2 x0), (1, .v U2 x1), (5, .own true 3 U1 .no x2), (6, .v U1 x3), (7, .v U1 x4)] : Env)
abbrev e104 := fun x0 x1 x2 x3 x4 x5 => ([(0, .v U2 x0), (1, .v U2 x1), (5, .own true 3 U1 .no x2), (6, .v U1 x3), (7, .v U1 x4), (12, .v .bool x5)] : Env)
abbrev e105 := fun x0 x1 x2 x3 x4 x5 x6 => ([(0, .v U2 x0), (1, .v U2 x1), (5, .own true 3 U1 .no x2), (6, .v U1 x3), (7, .v U1 x4), (8, .v U1 x5), (26, .v .bool x6)] : Env)
abbrev e106 := fun x0 x1 x2 x3 x4 x5 => ([(0, .v U2 x0), (1, .v U2 x1), (6, .own true 3 U1 .no x2), (7, .v U2 x3), (8, .v U1 x4), (19, .v .bool x5)] : Env)
abbrev e107 := fun x0 x1 x2 x3 x4 x5 x6 x7 => ([(0, .v U2 x0), (1, .v U2 x1), (6, .own true 3 U1 .no x2), (7, .v U2 x3), (8, .v U1 x4), (9, .v U1 x5), (10, .v U1 x6), (32, .v .bool x7)] : Env)
abbrev e108 := fun x0 x1 x2 x3 x4 x5 x6 x7 x8 => ([(0, .v U2 x0), (1, .v U2 x1), (6, .own true 3 U1 .no x2), (7, .v U2 x3), (8, .v U1 x4), (9, .v U1 x5), (10, .v U1 x6), (11, .v U1 x7), (44, .v .bool x8)] : Env)
abbrev e109 := fun x0 x1 x2 x3 x4 x5 => ([(0, .v U1 x0), (1, .v U1 x1), (4, .loc U4 (.pair (.own true 3 .no) .no) x2), (6, .v U2 x3), (7, .v U1 x4), (27, .v .bool x5)] : Env)
abbrev e110 := fun x0 x1 x2 => ([(1, .loc U4 .no x0), (3, .v U1 x1), (22, .v .bool x2)] : Env)
abbrev e111 := fun x0 => ([(1, .dead), (2, .v .bool x0), (3, .dead)] : Env)
abbrev e112 := fun x0 x1 x2 => ([(1, .loc U4 .no x0), (3, .v U1 x1), (4, .v U1 x2)] : Env)
abbrev e113 := fun x0 x1 x2 x3 => ([(1, .loc U4 .no x0), (3, .v U1 x1), (4, .v U1 x2), (25, .v .bool x3)] : Env)
abbrev e114 := fun x0 x1 x2 x3 => ([(1, .loc U4 .no x0), (3, .v U1 x1), (4, .v U1 x2), (41, .v .bool x3)] : Env)
abbrev e115 := fun x0 => ([(1, .dead), (2, .v .bool x0), (3, .dead), (4, .dead)] : Env)
abbrev e116 := fun x0 x1 x2 => ([(1, .loc U4 .no x0), (2, .dead), (3, .v U1 x1), (4, .v U1 x2)] : Env)
abbrev e117 := fun x0 x1 x2 x3 x4 x5 => ([(0, .v U2 x0), (1, .v U2 x1), (5, .own true 3 U1 .no x2), (6, .v U1 x3), (7, .v U1 x4), (18, .v .bool x5)] : Env)
abbrev e118 := fun x0 x1 => ([(5, .own true 3 U1 .no x0), (6, .v U1 x1)] : Env)
abbrev e119 := fun x0 x1 x2 x3 => ([(0, .v U2 x0), (3, .own true 3 U1 .no x1), (4, .v U1 x2), (5, .v U1 x3)] : Env)
abbrev e120 := fun x0 x1 x2 x3 x4 => ([(0, .v U2 x0), (3, .own true 3 U1 .no x1), (4, .v U1 x2), (5, .v U1 x3), (14, .v .bool x4)] : Env)
abbrev e121 := fun x0 => ([(3, .own true 3 U1 .no x0)] : Env)
abbrev e122 := fun x0 x1 x2 x3 => ([(2, .loc U4 .no x0), (3, .loc U4 .no x1), (4, .loc U4 (.pair (.own true 3 .no) .no) x2), (18, .v .bool x3)] : Env)
abbrev e123 := fun x0 x1 x2 x3 => ([(4, .loc U4 (.pair (.own true 3 .no) .no) x0), (6, .v U2 x1), (7, .v U2 x2), (26, .v .bool x3)] : Env)
abbrev e124 := fun x0 x1 => ([(4, .loc U4 .no x0), (5, .v U1 x1), (6, .dead), (7, .dead)] : Env)
abbrev e125 := fun x0 x1 x2 => ([(4, .loc U4 (.pair (.own true 3 .no) .no) x0), (5, .dead), (6, .v U2 x1), (7, .v U2 x2)] : Env)
abbrev e126 := fun x0 x1 x2 x3 => ([(4, .loc U4 (.pair (.own true 3 .no) .no) x0), (6, .v U2 x1), (7, .v U2 x2), (8, .v U1 x3)] : Env)
abbrev e127 := fun x0 x1 x2 x3 x4 => ([(4, .loc U4 (.pair (.own true 3 .no) .no) x0), (6, .v U2 x1), (7, .v U2 x2), (8, .v U1 x3), (33, .v .bool x4)] : Env)
abbrev e128 := fun x0 x1 x2 x3 x4 => ([(4, .loc U4 (.pair (.own true 3 .no) .no) x0), (6, .v U2 x1), (7, .v U2 x2), (8, .v U1 x3), (37, .v .bool x4)] : Env)
abbrev e129 := fun x0 x1 x2 x3 x4 => ([(4, .loc U4 (.pair (.own true 3 .no) .no) x0), (6, .v U2 x1), (7, .v U2 x2), (8, .v U1 x3), (50, .v .bool x4)] : Env)
abbrev e130 := fun x0 x1 x2 x3 x4 => ([(4, .loc U4 (.pair (.own true 3 .no) .no) x0), (6, .v U2 x1), (7, .v U2 x2), (8, .v U1 x3), (55, .v .bool x4)] : Env)
abbrev e131 := fun x0 x1 x2 x3 x4 => ([(4, .loc U4 (.pair (.own true 3 .no) .no) x0), (6, .v U2 x1), (7, .v U2 x2), (8, .v U1 x3), (60, .v .bool x4)] : Env)
abbrev e132 := fun x0 x1 x2 => ([(4, .loc U4 (.pair (.own true 3 .no) .no) x0), (6, .v U2 x1), (8, .v U1 x2)] : Env)
abbrev e133 := fun x0 x1 x2 => ([(4, .loc U4 (.pair (.own true 3 .no) .no) x0), (8, .v U1 x1), (9, .v U2 x2)] : Env)
abbrev e134 := fun x0 x1 x2 x3 => ([(4, .loc U4 (.pair (.own true 3 .no) .no) x0), (8, .v U1 x1), (9, .v U2 x2), (10, .v U1 x3)] : Env)
abbrev e135 := fun x0 x1 x2 x3 x4 => ([(4, .loc U4 (.pair (.own true 3 .no) .no) x0), (8, .v U1 x1), (9, .v U2 x2), (10, .v U1 x3), (74, .v .bool x4)] : Env)
abbrev e136 := fun x0 x1 => ([(4, .loc U4 (.pair (.own true 3 .no) .no) x0), (9, .v U2 x1)] : Env)
abbrev e137 := fun x0 x1 x2 x3 x4 => ([(2, .loc U4 .no x0), (3, .loc U4 .no x1), (4, .loc U4 (.pair (.own true 3 .no) .no) x2), (5, .loc U4 (.pair (.own true 3 .no) .no) x3), (16, .v .bool x4)] : Env)
abbrev e138 := fun x0 x1 x2 x3 x4 => ([(2, .loc U4 .no x0), (3, .loc U4 .no x1), (4, .loc U4 (.pair (.own true 3 .no) .no) x2), (5, .loc U4 (.pair (.own true 3 .no) .no) x3), (22, .v .bool x4)] : Env)
abbrev e139 := fun x0 x1 x2 x3 x4 => ([(0, .v U1 x0), (1, .v U1 x1), (2, .v U1 x2), (3, .v U1 x3), (4, .v U1 x4)] : Env)
abbrev e140 := fun x0 x1 x2 x3 x4 x5 x6 => ([(0, .v U1 x0), (1, .v U1 x1), (2, .v U1 x2), (3, .v U1 x3), (4, .v U1 x4), (10, .loc U11 (.pair .no (.pair (.pair (.own true 3 .no) .no) (.pair (.pair (.own true 3 .no) .no) .no))) x5), (11, .loc U4 .no x6)] : Env)
abbrev e141 := fun x0 x1 x2 x3 x4 x5 x6 => ([(0, .v U1 x0), (1, .v U1 x1), (2, .v U1 x2), (4, .v U1 x3), (10, .loc U11 (.pair .no (.pair (.pair (.own true 3 .no) .no) (.pair (.pair (.own true 3 .no) .no) .no))) x4), (11, .loc U4 .no x5), (12, .v U1 x6)] : Env)
abbrev e142 := fun x0 x1 x2 x3 x4 x5 x6 x7 => ([(0, .v U1 x0), (1, .v U1 x1), (2, .v U1 x2), (4, .v U1 x3), (10, .loc U11 (.pair .no (.pair (.pair (.own true 3 .no) .no) (.pair (.pair (.own true 3 .no) .no) .no))) x4), (11, .loc U4 .no x5), (12, .v U1 x6), (27, .v .bool x7)] : Env)
abbrev e143 := fun x0 x1 x2 x3 x4 x5 x6 x7 x8 x9 => ([(0, .v U1 x0), (1, .v U1 x1), (2, .v U1 x2), (4, .v U1 x3), (10, .loc U11 (.pair .no (.pair (.pair (.own true 3 .no) .no) (.pair (.pair (.own true 3 .no) .no) .no))) x4), (11, .loc U4 .no x5), (12, .v U1 x6), (13, .loc U4 .no x7), (15, .loc U4 .no x8), (51, .v .bool x9)] : Env)
abbrev e144 := fun x0 x1 x2 x3 => ([(0, .v U1 x0), (2, .v U1 x1), (10, .loc U11 (.pair .no (.pair (.pair (.own true 3 .no) .no) (.pair (.pair (.own true 3 .no) .no) .no))) x2), (11, .loc U4 .no x3)] : Env)
abbrev e145 := fun x0 x1 x2 => ([(0, .v U2 x0), (1, .v U2 x1), (13, .v .bool x2)] : Env)
abbrev e146 := fun x0 x1 x2 x3 x4 x5 => ([(1, .v U2 x0), (5, .own true 3 U1 .no x1), (6, .v U1 x2), (20, .v U2 x3), (21, .v U1 x4), (22, .v U1 x5)] : Env)
abbrev e147 := fun x0 x1 x2 x3 x4 x5 x6 => ([(1, .v U2 x0), (5, .own true 3 U1 .no x1), (6, .v U1 x2), (20, .v U2 x3), (21, .v U1 x4), (22, .v U1 x5), (23, .v .bool x6)] : Env)
abbrev e148 := fun x0 x1 x2 x3 x4 x5 x6 => ([(1, .v U2 x0), (5, .own true 3 U1 .no x1), (6, .v U1 x2), (7, .v U1 x3), (20, .v U2 x4), (21, .v U1 x5), (22, .v U1 x6)] : Env)
abbrev e149 := fun x0 x1 x2 x3 x4 x5 x6 x7 => ([(1, .v U2 x0), (5, .own true 3 U1 .no x1), (6, .v U1 x2), (7, .v U1 x3), (20, .v U2 x4), (21, .v U1 x5), (22, .v U1 x6), (33, .v .bool x7)] : Env)
abbrev e150 := fun x0 x1 x2 => ([(5, .own true 3 U1 .no x0), (6, .v U1 x1), (49, .v .bool x2)] : Env)
abbrev e151 := fun x0 => ([(4, .ref 5 []), (5, .own true 3 U1 .no x0)] : Env)
abbrev e152 := fun x0 x1 x2 x3 x4 x5 x6 => ([(0, .v U1 x0), (1, .v U1 x1), (2, .v U1 x2), (3, .v U1 x3), (8, .loc U11 (.pair .no (.pair (.pair (.own true 3 .no) .no) (.pair (.pair (.own true 3 .no) .no) .no))) x4), (10, .v U1 x5), (19, .v .bool x6)] : Env)
abbrev e153 := fun x0 x1 x2 x3 x4 x5 => ([(0, .v U1 x0), (1, .v U1 x1), (2, .v U1 x2), (3, .v U1 x3), (8, .loc U11 (.pair .no (.pair (.pair (.own true 3 .no) .no) (.pair (.pair (.own true 3 .no) .no) .no))) x4), (11, .loc U4 .no x5)] : Env)
abbrev e154 := fun x0 x1 x2 x3 x4 x5 => ([(0, .v U1 x0), (1, .v U1 x1), (2, .v U1 x2), (8, .loc U11 (.pair .no (.pair (.pair (.own true 3 .no) .no) (.pair (.pair (.own true 3 .no) .no) .no))) x3), (11, .loc U4 .no x4), (12, .v U1 x5)] : Env)
abbrev e155 := fun x0 x1 x2 x3 x4 x5 x6 => ([(0, .v U1 x0), (1, .v U1 x1), (2, .v U1 x2), (8, .loc U11 (.pair .no (.pair (.pair (.own true 3 .no) .no) (.pair (.pair (.own true 3 .no) .no) .no))) x3), (11, .loc U4 .no x4), (12, .v U1 x5), (26, .v .bool x6)] : Env)
abbrev e156 := fun x0 x1 x2 x3 => ([(0, .v U1 x0), (2, .v U1 x1), (8, .loc U11 (.pair .no (.pair (.pair (.own true 3 .no) .no) (.pair (.pair (.own true 3 .no) .no) .no))) x2), (11, .loc U4 .no x3)] : Env)
abbrev e157 := fun x0 x1 => ([(1, .loc U10 .no x0), (22, .v .bool x1)] : Env)
variable {N : Nat} {cl : Cal} {R : Type} {K : KE R}
def g62_0 (k0 : Int → Int → Int → Int → Option R) (x0 x1 x2 x3 : Int) : Option R :=
k0 x0 x1 x2 x3
theorem t62_0 (x0 x1 x2 x3) : exec cl N c62_0 (e0 x0 x1 x2 x3) K = (g62_0 (fun y0 y1 y2 y3 => K .normal (e0 y0 y1 y2 y3)) x0 x1 x2 x3) := by
  kernel_rfl
def g62_1 (k0 : Bool → Option R) (x0 x1 x2 x3 : Int) : Option R :=
brB (decide (x0 < (0 : Int))) (k0 true) (brB (decide (x0 > (400 : Int))) (k0 true) (brB (decide (x1 < (0 : Int))) (k0 true) (brB (decide (x1 > x0)) (k0 true) (brB (decide (x2 < (0 : Int))) (k0 true) (brB (decide (x2 > x0)) (k0 true) (brB (decide (x3 < (0 : Int))) (k0 true) (k0 (decide (x3 > x2)))))))))
theorem t62_1 (x0 x1 x2 x3) : exec cl N c62_1 (e0 x0 x1 x2 x3) K = (g62_1 (fun y0 => K .normal [(41, .v .bool y0)]) x0 x1 x2 x3) := by
  kernel_rfl
def g62_2 (k0 : Int → Option R) (x0 : Bool) : Option R :=
k0 (6 : Int)
theorem t62_2 (x0) : exec cl N c62_2 [(41, .v .bool x0)] K = (g62_2 (fun y0 => K .normal [(8, .v U1 y0)]) x0) := by
  kernel_rfl
theorem kp62_0 (x0) : keep [8] [(8, .v U1 x0)] = [(8, .v U1 x0)] := by kernel_rfl
theorem kp62_1 (x0) : keep [8] [(41, .v .bool x0)] = [(8, .dead)] := by kernel_rfl
theorem hb62_0 (x0) : boolOf? (ent [(41, .v .bool x0)] (.t 41)) = some x0 := by kernel_rfl
def g62_4 (k0 : Int → Option R) : Option R :=
k0 (0 : Int)
theorem t62_4 : exec cl N c62_4 [(8, .dead)] K = (g62_4 (fun y0 => K .normal [(8, .v U1 y0)])) := by
  kernel_rfl
def g62_5 (k0 : Int → Option R) (x0 x1 x2 x3 : Int) : Option R :=
(g62_0 (g62_1 (fun y0 => brB y0 (g62_2 k0 y0) (g62_4 k0))) x0 x1 x2 x3)
theorem t62_5 (x0 x1 x2 x3) : exec cl N c62_5 (e0 x0 x1 x2 x3) K = (g62_5 (fun y0 => K .ret [(8, .v U1 y0)]) x0 x1 x2 x3) := by
  simp only [c62_5, exec_seq, seqK_normal, seqK_exit, seqK_ret, t62_0, t62_1, c62_3, exec_out, exec_cond', hb62_0, Option.bind_some, brB_true, brB_false, t62_2, exec_ret, exec_skip, kp62_0, kp62_1, t62_4]
  rfl
theorem rk62_0 (y0) : retK d62 .ret [(8, .v U1 y0)] = some [.v U1 y0] := by kernel_rfl
def g62 (x0 x1 x2 x3 : Int) (k : Int → Option R) : Option R :=
(g62_5 k x0 x1 x2 x3)
theorem gen62 {N : Nat} {cl : Cal} (x0 : Int) (x1 : Int) (x2 : Int) (x3 : Int) {R : Type} (k : List E → Option R) : exec cl N c62 (params 0 [.v U1 x0, .v U1 x1, .v U1 x2, .v U1 x3]) (fun e env => (retK d62 e env).bind k) = g62 x0 x1 x2 x3 (fun (r0 : Int) => k [.v U1 r0]) := by
  have e0 : params 0 [.v U1 x0, .v U1 x1, .v U1 x2, .v U1 x3] = (e0 x0 x1 x2 x3) := by kernel_rfl
  simp only [c62, e0, t62_5, rk62_0, Option.bind_some]
  rfl
def ctr62 (S : Int → Int → Int → Int → Option (Int)) : Ctr := { A := Int × Int × Int × Int × Unit, B := Int, f := 62, enc := fun a => [.v U1 a.1, .v U1 a.2.1, .v U1 a.2.2.1, .v U1 a.2.2.2.1], dec := (decC (decV U1) (decC (decV U1) (decC (decV U1) (decC (decV U1) dec0)))), S := fun a => S a.1 a.2.1 a.2.2.1 a.2.2.2.1, ent := fun b => [.v U1 b], ok := (decV_cons (T := U1) (decV_cons (T := U1) (decV_cons (T := U1) (decV_cons (T := U1) (fun es b h => dec0_some h))))) }
def S62 (N : Nat) (x0 : Int) (x1 : Int) (x2 : Int) (x3 : Int) : Option (Int) := g62 x0 x1 x2 x3 (fun (r0 : Int) => some (r0))
def g118_0 (k0 : V0 → Option R) (x0 : V0) : Option R :=
k0 x0
theorem t118_0 (x0) : exec cl N c118_0 [(0, .v U2 x0)] K = (g118_0 (fun y0 => K .normal [(0, .v U2 y0)]) x0) := by
  kernel_rfl
theorem kp118_0 (x0) : keep [0] [(0, .v U2 x0)] = [(0, .v U2 x0)] := by kernel_rfl
def g118_1 (k0 : V0 → Bool → Option R) (x0 : V0) : Option R :=
brB (decide ((x0.length : Int) > (0 : Int))) (let v37 : Int := (IntKind.i64.wrap ((x0.length : Int) - (1 : Int)))
if 0 ≤ v37 ∧ v37 < (x0.length : Int) then
k0 x0 ((x0.getD v37.toNat (0 : Int)) == (0 : Int))
else none) (k0 x0 false)
theorem t118_1 (x0) : exec cl N c118_1 [(0, .v U2 x0)] K = (g118_1 (fun y0 y1 => K .normal (e1 y0 y1)) x0) := by
  kernel_rfl
theorem kp118_1 (x0 x1) : keep [0] (e1 x0 x1) = [(0, .v U2 x0)] := by kernel_rfl
theorem hb118_0 (x0 x1) : boolOf? (ent (e1 x0 x1) (.t 14)) = some x1 := by kernel_rfl
def g118_3 (k0 : V0 → Option R) (x0 : V0) : Option R :=
let v39 : Int := (IntKind.i64.wrap ((x0.length : Int) - (1 : Int)))
if 0 ≤ (0 : Int) ∧ (0 : Int) ≤ v39 ∧ v39 ≤ (x0.length : Int) ∧ (x0.length : Int) ≤ (x0.length : Int) then
k0 ((x0.drop (0 : Int).toNat).take (v39.toNat - (0 : Int).toNat))
else none
theorem t118_3 (x0) : exec cl N c118_3 [(0, .v U2 x0)] K = (g118_3 (fun y0 => K .normal [(0, .v U2 y0)]) x0) := by
  kernel_rfl
def g118_5 (k0 : V0 → Option R) (k1 : V0 → Option R) (x0 : V0) : Option R :=
(g118_1 (fun y0 y1 => brB y1 ((g118_3 k0) y0) (k1 y0)) x0)
theorem t118_5 (x0) : exec cl N c118_5 [(0, .v U2 x0)] K = (g118_5 (fun y0 => K .normal [(0, .v U2 y0)]) (fun y0 => K (.exit 0) [(0, .v U2 y0)]) x0) := by
  simp only [c118_5, exec_seq, seqK_normal, seqK_exit, seqK_ret, t118_1, c118_2, exec_out, exec_cond', hb118_0, Option.bind_some, brB_true, brB_false, exec_skip, exec_exit, kp118_1, c118_4, exec_block, t118_3, blockK_normal, blockK_ret, blockK_eq, kp118_0]
  rfl
def l118_6 {R : Type} (k0 : V0 → Option R) : Nat → V0 → Option R
  | 0, _ => none
  | m + 1, x0 => (g118_5 (l118_6 k0 m) k0 x0)
theorem lt118_6 : ∀ (m) (x0), iter [0] (fun env K => exec cl N c118_5 env K) K m [(0, .v U2 x0)] = l118_6 (fun y0 => K (.exit 0) [(0, .v U2 y0)]) m x0 := by
  intro m
  induction m with
  | zero => intros; rfl
  | succ m ih =>
    intro x0
    simp only [iter_succ, t118_5, loopK_normal, loopK_exit, loopK_ret, kp118_0, ih]
    rfl
def g118_6 (N : Nat) (k0 : V0 → Option R) (x0 : V0) : Option R :=
l118_6 k0 N x0
theorem t118_6 (x0) : exec cl N c118_6 [(0, .v U2 x0)] K = (g118_6 N (fun y0 => K (.exit 0) [(0, .v U2 y0)]) x0) := by
  simp only [c118_6, exec_out, exec_loop, kp118_0, lt118_6, kp118_0]
  rfl
def g118_8 (k0 : V0 → Option R) (x0 : V0) : Option R :=
k0 x0
theorem t118_8 (x0) : exec cl N c118_8 [(0, .v U2 x0)] K = (g118_8 (fun y0 => K .normal [(2, .v U2 y0)]) x0) := by
  kernel_rfl
def g118_9 (N : Nat) (k0 : V0 → Option R) (x0 : V0) : Option R :=
(g118_0 (g118_6 N ((g118_8 k0))) x0)
theorem t118_9 (x0) : exec cl N c118_9 [(0, .v U2 x0)] K = (g118_9 N (fun y0 => K .ret [(2, .v U2 y0)]) x0) := by
  simp only [c118_9, exec_seq, seqK_normal, seqK_exit, seqK_ret, t118_0, c118_7, exec_out, exec_block, t118_6, blockK_normal, blockK_ret, blockK_eq, kp118_0, t118_8, exec_ret]
  rfl
theorem rk118_0 (y0) : retK d118 .ret [(2, .v U2 y0)] = some [.v U2 y0] := by kernel_rfl
def g118 (N : Nat) (x0 : V0) (k : V0 → Option R) : Option R :=
(g118_9 N k x0)
theorem gen118 {N : Nat} {cl : Cal} (x0 : V0) {R : Type} (k : List E → Option R) : exec cl N c118 (params 0 [.v U2 x0]) (fun e env => (retK d118 e env).bind k) = g118 N x0 (fun (r0 : V0) => k [.v U2 r0]) := by
  have e0 : params 0 [.v U2 x0] = [(0, .v U2 x0)] := by kernel_rfl
  simp only [c118, e0, t118_9, rk118_0, Option.bind_some]
  rfl
def ctr118 (S : V0 → Option V1) : Ctr := { A := V0 × Unit, B := V0, f := 118, enc := fun a => [.v U2 a.1], dec := (decC (decV U2) dec0), S := fun a => S a.1, ent := fun b => [.v U2 b], ok := (decV_cons (T := U2) (fun es b h => dec0_some h)) }
def S118 (N : Nat) (x0 : V0) : Option V1 := g118 N x0 (fun (r0 : V0) => some (r0))
def g105_6 (S118 : V0 → Option V1) (k0 : V0 → V3 → Option R) (x0 : V0) : Option R :=
(S118 x0).bind fun r43 =>
k0 r43 ([], ())
theorem t105_6 (S118) (h118 : (ctr118 S118).holds cl) (x0) : exec cl N c105_6 [(0, .v U2 x0)] K = (g105_6 S118 (fun y0 y1 => exec cl N (.seq (.seq c105_2 c105_4) (.seq c105_5 .ret)) (e2 y0 y1) K) x0) := by
  rw [← put_eq h118]
  kernel_rfl
def g105_2 (k0 : V0 → V3 → Bool → Option R) (x0 : V0) (x1 : V3) : Option R :=
k0 x0 x1 ((x0.length : Int) == (0 : Int))
theorem t105_2 (x0 x1) : exec cl N c105_2 (e2 x0 x1) K = (g105_2 (fun y0 y1 y2 => K .normal (e3 y0 y1 y2)) x0 x1) := by
  kernel_rfl
def g105_3 (k0 : V3 → Option R) (x0 : V0) (x1 : V3) (x2 : Bool) : Option R :=
k0 ([], ())
theorem t105_3 (x0 x1 x2) : exec cl N c105_3 (e3 x0 x1 x2) K = (g105_3 (fun y0 => K .normal [(2, .loc U4 (.pair (.own true 3 .no) .no) y0)]) x0 x1 x2) := by
  kernel_rfl
theorem kp105_0 (x0) : keep [0, 2] [(2, .loc U4 (.pair (.own true 3 .no) .no) x0)] = (e4 x0) := by kernel_rfl
theorem kp105_1 (x0 x1 x2) : keep [0, 2] (e3 x0 x1 x2) = (e2 x0 x1) := by kernel_rfl
theorem hb105_0 (x0 x1 x2) : boolOf? (ent (e3 x0 x1 x2) (.t 7)) = some x2 := by kernel_rfl
def g105_5 (k0 : V3 → Option R) (x0 : V0) (x1 : V3) : Option R :=
k0 (x0, ())
theorem t105_5 (x0 x1) : exec cl N c105_5 (e2 x0 x1) K = (g105_5 (fun y0 => K .normal [(2, .loc U4 .no y0)]) x0 x1) := by
  kernel_rfl
def g105_6b (S118 : V0 → Option V1) (k0 : V3 → Option R) (k1 : V3 → Option R) (x0 : V0) : Option R :=
(g105_6 S118 (g105_2 (fun y0 y1 y2 => brB y2 (g105_3 k0 y0 y1 y2) ((g105_5 k1) y0 y1))) x0)
theorem t105_6b (S118) (h118 : (ctr118 S118).holds cl) (x0) : exec cl N c105_6 [(0, .v U2 x0)] K = (g105_6b S118 (fun y0 => K .ret (e4 y0)) (fun y0 => K .ret [(2, .loc U4 .no y0)]) x0) := by
  simp only [exec_seq, seqK_normal, seqK_exit, seqK_ret, t105_6 S118 h118, t105_2, c105_4, exec_out, exec_cond', hb105_0, Option.bind_some, brB_true, brB_false, t105_3, exec_ret, exec_skip, kp105_0, kp105_1, t105_5]
  rfl
theorem rk105_0 (y0) : retK d105 .ret (e4 y0) = some [.v U4 y0] := by kernel_rfl
theorem rk105_1 (y0) : retK d105 .ret [(2, .loc U4 .no y0)] = some [.v U4 y0] := by kernel_rfl
def g105 (S118 : V0 → Option V1) (x0 : V0) (k : V3 → Option R) : Option R :=
(g105_6b S118 k k x0)
theorem gen105 {N : Nat} {cl : Cal} (S118 : V0 → Option V1) (h118 : (ctr118 S118).holds cl) (x0 : V0) {R : Type} (k : List E → Option R) : exec cl N c105 (params 0 [.v U2 x0]) (fun e env => (retK d105 e env).bind k) = g105 S118 x0 (fun (r0 : V3) => k [.v U4 r0]) := by
  have e0 : params 0 [.v U2 x0] = [(0, .v U2 x0)] := by kernel_rfl
  simp only [c105, e0, t105_6b S118 h118, rk105_0, rk105_1, Option.bind_some]
  rfl
def ctr105 (S : V0 → Option V5) : Ctr := { A := V0 × Unit, B := V3, f := 105, enc := fun a => [.v U2 a.1], dec := (decC (decV U2) dec0), S := fun a => S a.1, ent := fun b => [.v U4 b], ok := (decV_cons (T := U2) (fun es b h => dec0_some h)) }
def S105 (N : Nat) (x0 : V0) : Option V5 := g105 (S118 N) x0 (fun (r0 : V3) => some (r0))
def g81_0 (k0 : Int → V3 → Option R) (x0 : Int) : Option R :=
k0 x0 ([], ())
theorem t81_0 (x0) : exec cl N c81_0 [(0, .v U1 x0)] K = (g81_0 (fun y0 y1 => K .normal (e5 y0 y1)) x0) := by
  kernel_rfl
def g81_1 (k0 : Int → V3 → Bool → Option R) (x0 : Int) (x1 : V3) : Option R :=
k0 x0 x1 (decide (x0 < (0 : Int)))
theorem t81_1 (x0 x1) : exec cl N c81_1 (e5 x0 x1) K = (g81_1 (fun y0 y1 y2 => K .normal (e6 y0 y1 y2)) x0 x1) := by
  kernel_rfl
def g81_2 (k0 : V3 → Int → Option R) (x0 : Int) (x1 : V3) (x2 : Bool) : Option R :=
k0 ([], ()) (6 : Int)
theorem t81_2 (x0 x1 x2) : exec cl N c81_2 (e6 x0 x1 x2) K = (g81_2 (fun y0 y1 => K .normal (e7 y0 y1)) x0 x1 x2) := by
  kernel_rfl
theorem kp81_0 (x0 x1) : keep [0, 2, 3] (e7 x0 x1) = (e8 x0 x1) := by kernel_rfl
theorem kp81_1 (x0 x1 x2) : keep [0, 2, 3] (e6 x0 x1 x2) = (e9 x0 x1) := by kernel_rfl
theorem hb81_0 (x0 x1 x2) : boolOf? (ent (e6 x0 x1 x2) (.t 6)) = some x2 := by kernel_rfl
def g81_4 (k0 : Int → V3 → V0 → Option R) (x0 : Int) (x1 : V3) : Option R :=
k0 x0 x1 []
theorem t81_4 (x0 x1) : exec cl N c81_4 (e9 x0 x1) K = (g81_4 (fun y0 y1 y2 => K .normal (e10 y0 y1 y2)) x0 x1) := by
  kernel_rfl
theorem kp81_2 (x0 x1 x2) : keep [0, 2, 4] (e10 x0 x1 x2) = (e10 x0 x1 x2) := by kernel_rfl
def g81_5 (k0 : Int → V3 → V0 → Bool → Option R) (x0 : Int) (x1 : V3) (x2 : V0) : Option R :=
k0 x0 x1 x2 (decide (x0 > (0 : Int)))
theorem t81_5 (x0 x1 x2) : exec cl N c81_5 (e10 x0 x1 x2) K = (g81_5 (fun y0 y1 y2 y3 => K .normal (e11 y0 y1 y2 y3)) x0 x1 x2) := by
  kernel_rfl
theorem kp81_3 (x0 x1 x2 x3) : keep [0, 2, 4] (e11 x0 x1 x2 x3) = (e10 x0 x1 x2) := by kernel_rfl
theorem hb81_1 (x0 x1 x2 x3) : boolOf? (ent (e11 x0 x1 x2 x3) (.t 9)) = some x3 := by kernel_rfl
def g81_7 (k0 : Int → V3 → V0 → Option R) (x0 : Int) (x1 : V3) (x2 : V0) : Option R :=
let v48 : Int := (Int.tmod x0 (10000 : Int))
if x2.length + [v48].length ≤ 17592186044416 then
k0 x0 x1 (x2 ++ [v48])
else none
theorem t81_7 (x0 x1 x2) : exec cl N c81_7 (e10 x0 x1 x2) K = (g81_7 (fun y0 y1 y2 => K .normal (e10 y0 y1 y2)) x0 x1 x2) := by
  kernel_rfl
def g81_9 (k0 : Int → V3 → V0 → Option R) (x0 : Int) (x1 : V3) (x2 : V0) : Option R :=
k0 (IntKind.i64.wrap (Int.tdiv x0 (10000 : Int))) x1 x2
theorem t81_9 (x0 x1 x2) : exec cl N c81_9 (e10 x0 x1 x2) K = (g81_9 (fun y0 y1 y2 => K .normal (e10 y0 y1 y2)) x0 x1 x2) := by
  kernel_rfl
def g81_10 (k0 : Int → V3 → V0 → Option R) (k1 : Int → V3 → V0 → Option R) (x0 : Int) (x1 : V3) (x2 : V0) : Option R :=
(g81_5 (fun y0 y1 y2 y3 => brB y3 ((g81_7 ((g81_9 k0))) y0 y1 y2) (k1 y0 y1 y2)) x0 x1 x2)
theorem t81_10 (x0 x1 x2) : exec cl N c81_10 (e10 x0 x1 x2) K = (g81_10 (fun y0 y1 y2 => K .normal (e10 y0 y1 y2)) (fun y0 y1 y2 => K (.exit 0) (e10 y0 y1 y2)) x0 x1 x2) := by
  simp only [c81_10, exec_seq, seqK_normal, seqK_exit, seqK_ret, t81_5, c81_6, exec_out, exec_cond', hb81_1, Option.bind_some, brB_true, brB_false, exec_skip, exec_exit, kp81_3, c81_8, exec_block, t81_7, blockK_normal, blockK_ret, blockK_eq, kp81_2, t81_9]
  rfl
def l81_11 {R : Type} (k0 : Int → V3 → V0 → Option R) : Nat → Int → V3 → V0 → Option R
  | 0, _, _, _ => none
  | m + 1, x0, x1, x2 => (g81_10 (l81_11 k0 m) k0 x0 x1 x2)
theorem lt81_11 : ∀ (m) (x0 x1 x2), iter [0, 2, 4] (fun env K => exec cl N c81_10 env K) K m (e10 x0 x1 x2) = l81_11 (fun y0 y1 y2 => K (.exit 0) (e10 y0 y1 y2)) m x0 x1 x2 := by
  intro m
  induction m with
  | zero => intros; rfl
  | succ m ih =>
    intro x0 x1 x2
    simp only [iter_succ, t81_10, loopK_normal, loopK_exit, loopK_ret, kp81_2, ih]
    rfl
theorem kp81_4 (x0 x1 x2) : keep [2, 4] (e10 x0 x1 x2) = (e12 x1 x2) := by kernel_rfl
def g81_11 (N : Nat) (k0 : V3 → V0 → Option R) (x0 : Int) (x1 : V3) (x2 : V0) : Option R :=
l81_11 (fun y0 y1 y2 => k0 y1 y2) N x0 x1 x2
theorem t81_11 (x0 x1 x2) : exec cl N c81_11 (e10 x0 x1 x2) K = (g81_11 N (fun y0 y1 => K (.exit 0) (e12 y0 y1)) x0 x1 x2) := by
  simp only [c81_11, exec_out, exec_loop, kp81_2, lt81_11, kp81_4]
  rfl
theorem kp81_5 (x0 x1) : keep [2, 4] (e12 x0 x1) = (e12 x0 x1) := by kernel_rfl
def g81_13 (S105 : V0 → Option V5) (k0 : V3 → Int → Option R) (x0 : V3) (x1 : V0) : Option R :=
(S105 x1).bind fun r50 =>
k0 r50 (0 : Int)
theorem t81_13 (S105) (h105 : (ctr105 S105).holds cl) (x0 x1) : exec cl N c81_13 (e12 x0 x1) K = (g81_13 S105 (fun y0 y1 => K .normal (e13 y0 y1)) x0 x1) := by
  rw [← put_eq h105]
  kernel_rfl
def g81_14 (N : Nat) (S105 : V0 → Option V5) (k0 : V3 → Int → Option R) (k1 : V3 → Int → Option R) (x0 : Int) : Option R :=
(g81_0 (g81_1 (fun y0 y1 y2 => brB y2 (g81_2 k0 y0 y1 y2) ((g81_4 (g81_11 N ((g81_13 S105 k1)))) y0 y1))) x0)
theorem t81_14 (S105) (h105 : (ctr105 S105).holds cl) (x0) : exec cl N c81_14 [(0, .v U1 x0)] K = (g81_14 N S105 (fun y0 y1 => K .ret (e8 y0 y1)) (fun y0 y1 => K .ret (e13 y0 y1)) x0) := by
  simp only [c81_14, exec_seq, seqK_normal, seqK_exit, seqK_ret, t81_0, t81_1, c81_3, exec_out, exec_cond', hb81_0, Option.bind_some, brB_true, brB_false, t81_2, exec_ret, exec_skip, kp81_0, kp81_1, t81_4, c81_12, exec_block, t81_11, blockK_normal, blockK_ret, blockK_eq, kp81_5, t81_13 S105 h105]
  rfl
theorem rk81_0 (y0 y1) : retK d81 .ret (e8 y0 y1) = some [.v U4 y0, .v U1 y1] := by kernel_rfl
theorem rk81_1 (y0 y1) : retK d81 .ret (e13 y0 y1) = some [.v U4 y0, .v U1 y1] := by kernel_rfl
def g81 (N : Nat) (S105 : V0 → Option V5) (x0 : Int) (k : V3 → Int → Option R) : Option R :=
(g81_14 N S105 k k x0)
theorem gen81 {N : Nat} {cl : Cal} (S105 : V0 → Option V5) (h105 : (ctr105 S105).holds cl) (x0 : Int) {R : Type} (k : List E → Option R) : exec cl N c81 (params 0 [.v U1 x0]) (fun e env => (retK d81 e env).bind k) = g81 N S105 x0 (fun (r0 : V3) (r1 : Int) => k [.v U4 r0, .v U1 r1]) := by
  have e0 : params 0 [.v U1 x0] = [(0, .v U1 x0)] := by kernel_rfl
  simp only [c81, e0, t81_14 S105 h105, rk81_0, rk81_1, Option.bind_some]
  rfl
def ctr81 (S : Int → Option V7) : Ctr := { A := Int × Unit, B := V3 × Int, f := 81, enc := fun a => [.v U1 a.1], dec := (decC (decV U1) dec0), S := fun a => S a.1, ent := fun b => [.v U4 b.1, .v U1 b.2], ok := (decV_cons (T := U1) (fun es b h => dec0_some h)) }
def S81 (N : Nat) (x0 : Int) : Option V7 := g81 N (S105 N) x0 (fun (r0 : V3) (r1 : Int) => some (r0, r1))
def g49_3 (S81 : Int → Option V7) (k0 : V3 → Option R) (x0 : Int) : Option R :=
(S81 x0).bind fun r54 =>
k0 r54.1
theorem t49_3 (S81) (h81 : (ctr81 S81).holds cl) (x0) : exec cl N c49_3 [(0, .v U1 x0)] K = (g49_3 S81 (fun y0 => exec cl N .ret [(2, .loc U4 .no y0)] K) x0) := by
  rw [← put_eq h81]
  kernel_rfl
def g49_3b (S81 : Int → Option V7) (k0 : V3 → Option R) (x0 : Int) : Option R :=
(g49_3 S81 k0 x0)
theorem t49_3b (S81) (h81 : (ctr81 S81).holds cl) (x0) : exec cl N c49_3 [(0, .v U1 x0)] K = (g49_3b S81 (fun y0 => K .ret [(2, .loc U4 .no y0)]) x0) := by
  simp only [exec_seq, seqK_normal, seqK_exit, seqK_ret, t49_3 S81 h81, exec_ret]
  rfl
theorem rk49_0 (y0) : retK d49 .ret [(2, .loc U4 .no y0)] = some [.v U4 y0] := by kernel_rfl
def g49 (S81 : Int → Option V7) (x0 : Int) (k : V3 → Option R) : Option R :=
(g49_3b S81 k x0)
theorem gen49 {N : Nat} {cl : Cal} (S81 : Int → Option V7) (h81 : (ctr81 S81).holds cl) (x0 : Int) {R : Type} (k : List E → Option R) : exec cl N c49 (params 0 [.v U1 x0]) (fun e env => (retK d49 e env).bind k) = g49 S81 x0 (fun (r0 : V3) => k [.v U4 r0]) := by
  have e0 : params 0 [.v U1 x0] = [(0, .v U1 x0)] := by kernel_rfl
  simp only [c49, e0, t49_3b S81 h81, rk49_0, Option.bind_some]
  rfl
def ctr49 (S : Int → Option V5) : Ctr := { A := Int × Unit, B := V3, f := 49, enc := fun a => [.v U1 a.1], dec := (decC (decV U1) dec0), S := fun a => S a.1, ent := fun b => [.v U4 b], ok := (decV_cons (T := U1) (fun es b h => dec0_some h)) }
def S49 (N : Nat) (x0 : Int) : Option V5 := g49 (S81 N) x0 (fun (r0 : V3) => some (r0))
def g114_28 (k0 : V0 → V0 → V0 → Option R) (x0 x1 : V0) : Option R :=
let v94 : Int := (IntKind.i64.wrap ((x0.length : Int) + (x1.length : Int)))
if 0 ≤ v94 ∧ v94 ≤ v94 ∧ v94 ≤ ((17592186044416 : Nat) : Int) then
k0 x0 x1 (List.replicate v94.toNat (0 : Int))
else none
theorem t114_28 (x0 x1) : exec cl N c114_28 (e14 x0 x1) K = (g114_28 (fun y0 y1 y2 => exec cl N (.seq (.seq c114_2 c114_26) (.seq c114_27 .ret)) (e15 y0 y1 y2) K) x0 x1) := by
  kernel_rfl
def g114_2 (k0 : V0 → V0 → V0 → Int → Int → Option R) (x0 x1 x2 : V0) : Option R :=
k0 x1 x2 x0 (x0.length : Int) (0 : Int)
theorem t114_2 (x0 x1 x2) : exec cl N c114_2 (e15 x0 x1 x2) K = (g114_2 (fun y0 y1 y2 y3 y4 => K .normal (e16 y0 y1 y2 y3 y4)) x0 x1 x2) := by
  kernel_rfl
theorem kp114_0 (x0 x1 x2 x3 x4) : keep [1, 5, 17, 18, 19] (e16 x0 x1 x2 x3 x4) = (e16 x0 x1 x2 x3 x4) := by kernel_rfl
def g114_3 (k0 : V0 → V0 → V0 → Int → Int → Bool → Option R) (x0 x1 x2 : V0) (x3 x4 : Int) : Option R :=
k0 x0 x1 x2 x3 x4 (decide (x4 < x3))
theorem t114_3 (x0 x1 x2 x3 x4) : exec cl N c114_3 (e16 x0 x1 x2 x3 x4) K = (g114_3 (fun y0 y1 y2 y3 y4 y5 => K .normal (e17 y0 y1 y2 y3 y4 y5)) x0 x1 x2 x3 x4) := by
  kernel_rfl
theorem kp114_1 (x0 x1 x2 x3 x4 x5) : keep [1, 5, 17, 18, 19] (e17 x0 x1 x2 x3 x4 x5) = (e16 x0 x1 x2 x3 x4) := by kernel_rfl
theorem hb114_0 (x0 x1 x2 x3 x4 x5) : boolOf? (ent (e17 x0 x1 x2 x3 x4 x5) (.t 20)) = some x5 := by kernel_rfl
def g114_21 (k0 : V0 → V0 → Int → Int → Int → V0 → Int → Int → Option R) (x0 x1 x2 : V0) (x3 x4 : Int) : Option R :=
if 0 ≤ x4 ∧ x4 < (x2.length : Int) then
k0 x0 x1 x4 (x2.getD x4.toNat (0 : Int)) (0 : Int) x2 x3 x4
else none
theorem t114_21 (x0 x1 x2 x3 x4) : exec cl N c114_21 (e16 x0 x1 x2 x3 x4) K = (g114_21 (fun y0 y1 y2 y3 y4 y5 y6 y7 => exec cl N (.seq (.seq c114_7 c114_19) c114_20) (e18 y0 y1 y2 y3 y4 y5 y6 y7) K) x0 x1 x2 x3 x4) := by
  kernel_rfl
def g114_7 (k0 : V0 → V0 → Int → Int → Int → V0 → Int → Int → V0 → Int → Int → Option R) (x0 x1 : V0) (x2 x3 x4 : Int) (x5 : V0) (x6 x7 : Int) : Option R :=
k0 x0 x1 x2 x3 x4 x5 x6 x7 x0 (x0.length : Int) (0 : Int)
theorem t114_7 (x0 x1 x2 x3 x4 x5 x6 x7) : exec cl N c114_7 (e18 x0 x1 x2 x3 x4 x5 x6 x7) K = (g114_7 (fun y0 y1 y2 y3 y4 y5 y6 y7 y8 y9 y10 => K .normal (e19 y0 y1 y2 y3 y4 y5 y6 y7 y8 y9 y10)) x0 x1 x2 x3 x4 x5 x6 x7) := by
  kernel_rfl
theorem kp114_2 (x0 x1 x2 x3 x4 x5 x6 x7 x8 x9 x10) : keep [1, 5, 6, 7, 8, 17, 18, 19, 24, 25, 26] (e19 x0 x1 x2 x3 x4 x5 x6 x7 x8 x9 x10) = (e19 x0 x1 x2 x3 x4 x5 x6 x7 x8 x9 x10) := by kernel_rfl
def g114_8 (k0 : V0 → V0 → Int → Int → Int → V0 → Int → Int → V0 → Int → Int → Bool → Option R) (x0 x1 : V0) (x2 x3 x4 : Int) (x5 : V0) (x6 x7 : Int) (x8 : V0) (x9 x10 : Int) : Option R :=
k0 x0 x1 x2 x3 x4 x5 x6 x7 x8 x9 x10 (decide (x10 < x9))
theorem t114_8 (x0 x1 x2 x3 x4 x5 x6 x7 x8 x9 x10) : exec cl N c114_8 (e19 x0 x1 x2 x3 x4 x5 x6 x7 x8 x9 x10) K = (g114_8 (fun y0 y1 y2 y3 y4 y5 y6 y7 y8 y9 y10 y11 => K .normal (e20 y0 y1 y2 y3 y4 y5 y6 y7 y8 y9 y10 y11)) x0 x1 x2 x3 x4 x5 x6 x7 x8 x9 x10) := by
  kernel_rfl
theorem kp114_3 (x0 x1 x2 x3 x4 x5 x6 x7 x8 x9 x10 x11) : keep [1, 5, 6, 7, 8, 17, 18, 19, 24, 25, 26] (e20 x0 x1 x2 x3 x4 x5 x6 x7 x8 x9 x10 x11) = (e19 x0 x1 x2 x3 x4 x5 x6 x7 x8 x9 x10) := by kernel_rfl
theorem hb114_1 (x0 x1 x2 x3 x4 x5 x6 x7 x8 x9 x10 x11) : boolOf? (ent (e20 x0 x1 x2 x3 x4 x5 x6 x7 x8 x9 x10 x11) (.t 27)) = some x11 := by kernel_rfl
def g114_14 (k0 : V0 → V0 → Int → Int → Int → V0 → Int → Int → V0 → Int → Int → Option R) (x0 x1 : V0) (x2 x3 x4 : Int) (x5 : V0) (x6 x7 : Int) (x8 : V0) (x9 x10 : Int) : Option R :=
if 0 ≤ x10 ∧ x10 < (x8.length : Int) then
let v109 : Int := (IntKind.i64.wrap (x2 + x10))
if 0 ≤ v109 ∧ v109 < (x1.length : Int) then
if v109.toNat < x1.length then
let v113 : Int := (IntKind.i64.wrap (x4 + (IntKind.i64.wrap ((x1.getD v109.toNat (0 : Int)) + (IntKind.i64.wrap (x3 * (x8.getD x10.toNat (0 : Int))))))))
let v114 : Int := (IntKind.i64.wrap (x2 + x10))
if 0 ≤ v114 ∧ v114 < (x1.length : Int) then
if v114.toNat < x1.length then
k0 x0 (x1.set v114.toNat (Int.tmod v113 (10000 : Int))) x2 x3 (IntKind.i64.wrap (Int.tdiv v113 (10000 : Int))) x5 x6 x7 x8 x9 x10
else none
else none
else none
else none
else none
theorem t114_14 (x0 x1 x2 x3 x4 x5 x6 x7 x8 x9 x10) : exec cl N c114_14 (e19 x0 x1 x2 x3 x4 x5 x6 x7 x8 x9 x10) K = (g114_14 (fun y0 y1 y2 y3 y4 y5 y6 y7 y8 y9 y10 => K .normal (e19 y0 y1 y2 y3 y4 y5 y6 y7 y8 y9 y10)) x0 x1 x2 x3 x4 x5 x6 x7 x8 x9 x10) := by
  kernel_rfl
def g114_16 (k0 : V0 → V0 → Int → Int → Int → V0 → Int → Int → V0 → Int → Int → Option R) (x0 x1 : V0) (x2 x3 x4 : Int) (x5 : V0) (x6 x7 : Int) (x8 : V0) (x9 x10 : Int) : Option R :=
k0 x0 x1 x2 x3 x4 x5 x6 x7 x8 x9 (IntKind.i64.wrap (x10 + (1 : Int)))
theorem t114_16 (x0 x1 x2 x3 x4 x5 x6 x7 x8 x9 x10) : exec cl N c114_16 (e19 x0 x1 x2 x3 x4 x5 x6 x7 x8 x9 x10) K = (g114_16 (fun y0 y1 y2 y3 y4 y5 y6 y7 y8 y9 y10 => K .normal (e19 y0 y1 y2 y3 y4 y5 y6 y7 y8 y9 y10)) x0 x1 x2 x3 x4 x5 x6 x7 x8 x9 x10) := by
  kernel_rfl
def g114_17 (k0 : V0 → V0 → Int → Int → Int → V0 → Int → Int → V0 → Int → Int → Option R) (k1 : V0 → V0 → Int → Int → Int → V0 → Int → Int → V0 → Int → Int → Option R) (x0 x1 : V0) (x2 x3 x4 : Int) (x5 : V0) (x6 x7 : Int) (x8 : V0) (x9 x10 : Int) : Option R :=
(g114_8 (fun y0 y1 y2 y3 y4 y5 y6 y7 y8 y9 y10 y11 => brB y11 ((g114_14 ((g114_16 k0))) y0 y1 y2 y3 y4 y5 y6 y7 y8 y9 y10) (k1 y0 y1 y2 y3 y4 y5 y6 y7 y8 y9 y10)) x0 x1 x2 x3 x4 x5 x6 x7 x8 x9 x10)
theorem t114_17 (x0 x1 x2 x3 x4 x5 x6 x7 x8 x9 x10) : exec cl N c114_17 (e19 x0 x1 x2 x3 x4 x5 x6 x7 x8 x9 x10) K = (g114_17 (fun y0 y1 y2 y3 y4 y5 y6 y7 y8 y9 y10 => K .normal (e19 y0 y1 y2 y3 y4 y5 y6 y7 y8 y9 y10)) (fun y0 y1 y2 y3 y4 y5 y6 y7 y8 y9 y10 => K (.exit 2) (e19 y0 y1 y2 y3 y4 y5 y6 y7 y8 y9 y10)) x0 x1 x2 x3 x4 x5 x6 x7 x8 x9 x10) := by
  simp only [c114_17, exec_seq, seqK_normal, seqK_exit, seqK_ret, t114_8, c114_9, exec_out, exec_cond', hb114_1, Option.bind_some, brB_true, brB_false, exec_skip, exec_exit, kp114_3, c114_15, exec_block, t114_14, blockK_normal, blockK_ret, blockK_eq, kp114_2, t114_16]
  rfl
def l114_18 {R : Type} (k0 : V0 → V0 → Int → Int → Int → V0 → Int → Int → V0 → Int → Int → Option R) : Nat → V0 → V0 → Int → Int → Int → V0 → Int → Int → V0 → Int → Int → Option R
  | 0, _, _, _, _, _, _, _, _, _, _, _ => none
  | m + 1, x0, x1, x2, x3, x4, x5, x6, x7, x8, x9, x10 => (g114_17 (l114_18 k0 m) k0 x0 x1 x2 x3 x4 x5 x6 x7 x8 x9 x10)
theorem lt114_18 : ∀ (m) (x0 x1 x2 x3 x4 x5 x6 x7 x8 x9 x10), iter [1, 5, 6, 7, 8, 17, 18, 19, 24, 25, 26] (fun env K => exec cl N c114_17 env K) K m (e19 x0 x1 x2 x3 x4 x5 x6 x7 x8 x9 x10) = l114_18 (fun y0 y1 y2 y3 y4 y5 y6 y7 y8 y9 y10 => K (.exit 2) (e19 y0 y1 y2 y3 y4 y5 y6 y7 y8 y9 y10)) m x0 x1 x2 x3 x4 x5 x6 x7 x8 x9 x10 := by
  intro m
  induction m with
  | zero => intros; rfl
  | succ m ih =>
    intro x0 x1 x2 x3 x4 x5 x6 x7 x8 x9 x10
    simp only [iter_succ, t114_17, loopK_normal, loopK_exit, loopK_ret, kp114_2, ih]
    rfl
theorem kp114_4 (x0 x1 x2 x3 x4 x5 x6 x7 x8 x9 x10) : keep [1, 5, 6, 8, 17, 18, 19] (e19 x0 x1 x2 x3 x4 x5 x6 x7 x8 x9 x10) = (e21 x0 x1 x2 x4 x5 x6 x7) := by kernel_rfl
def g114_18 (N : Nat) (k0 : V0 → V0 → Int → Int → V0 → Int → Int → Option R) (x0 x1 : V0) (x2 x3 x4 : Int) (x5 : V0) (x6 x7 : Int) (x8 : V0) (x9 x10 : Int) : Option R :=
l114_18 (fun y0 y1 y2 y3 y4 y5 y6 y7 y8 y9 y10 => k0 y0 y1 y2 y4 y5 y6 y7) N x0 x1 x2 x3 x4 x5 x6 x7 x8 x9 x10
theorem t114_18 (x0 x1 x2 x3 x4 x5 x6 x7 x8 x9 x10) : exec cl N c114_18 (e19 x0 x1 x2 x3 x4 x5 x6 x7 x8 x9 x10) K = (g114_18 N (fun y0 y1 y2 y3 y4 y5 y6 => K (.exit 2) (e21 y0 y1 y2 y3 y4 y5 y6)) x0 x1 x2 x3 x4 x5 x6 x7 x8 x9 x10) := by
  simp only [c114_18, exec_out, exec_loop, kp114_2, lt114_18, kp114_4]
  rfl
theorem kp114_5 (x0 x1 x2 x3 x4 x5 x6) : keep [1, 5, 6, 8, 17, 18, 19] (e21 x0 x1 x2 x3 x4 x5 x6) = (e21 x0 x1 x2 x3 x4 x5 x6) := by kernel_rfl
def g114_20 (k0 : V0 → V0 → V0 → Int → Int → Option R) (x0 x1 : V0) (x2 x3 : Int) (x4 : V0) (x5 x6 : Int) : Option R :=
let v118 : Int := (IntKind.i64.wrap (x2 + (x0.length : Int)))
if 0 ≤ v118 ∧ v118 < (x1.length : Int) then
if v118.toNat < x1.length then
if 0 ≤ v118 ∧ v118 < (x1.length : Int) then
if v118.toNat < x1.length then
k0 x0 (x1.set v118.toNat (IntKind.i64.wrap ((x1.getD v118.toNat (0 : Int)) + x3))) x4 x5 x6
else none
else none
else none
else none
theorem t114_20 (x0 x1 x2 x3 x4 x5 x6) : exec cl N c114_20 (e21 x0 x1 x2 x3 x4 x5 x6) K = (g114_20 (fun y0 y1 y2 y3 y4 => K .normal (e16 y0 y1 y2 y3 y4)) x0 x1 x2 x3 x4 x5 x6) := by
  kernel_rfl
def g114_23 (k0 : V0 → V0 → V0 → Int → Int → Option R) (x0 x1 x2 : V0) (x3 x4 : Int) : Option R :=
k0 x0 x1 x2 x3 (IntKind.i64.wrap (x4 + (1 : Int)))
theorem t114_23 (x0 x1 x2 x3 x4) : exec cl N c114_23 (e16 x0 x1 x2 x3 x4) K = (g114_23 (fun y0 y1 y2 y3 y4 => K .normal (e16 y0 y1 y2 y3 y4)) x0 x1 x2 x3 x4) := by
  kernel_rfl
def g114_24 (N : Nat) (k0 : V0 → V0 → V0 → Int → Int → Option R) (k1 : V0 → V0 → V0 → Int → Int → Option R) (x0 x1 x2 : V0) (x3 x4 : Int) : Option R :=
(g114_3 (fun y0 y1 y2 y3 y4 y5 => brB y5 ((g114_21 (g114_7 (g114_18 N ((g114_20 ((g114_23 k0))))))) y0 y1 y2 y3 y4) (k1 y0 y1 y2 y3 y4)) x0 x1 x2 x3 x4)
theorem t114_24 (x0 x1 x2 x3 x4) : exec cl N c114_24 (e16 x0 x1 x2 x3 x4) K = (g114_24 N (fun y0 y1 y2 y3 y4 => K .normal (e16 y0 y1 y2 y3 y4)) (fun y0 y1 y2 y3 y4 => K (.exit 0) (e16 y0 y1 y2 y3 y4)) x0 x1 x2 x3 x4) := by
  simp only [c114_24, exec_seq, seqK_normal, seqK_exit, seqK_ret, t114_3, c114_4, exec_out, exec_cond', hb114_0, Option.bind_some, brB_true, brB_false, exec_skip, exec_exit, kp114_1, c114_22, exec_block, t114_21, t114_7, c114_19, t114_18, blockK_normal, blockK_ret, blockK_eq, kp114_5, t114_20, kp114_0, t114_23]
  rfl
def l114_25 {R : Type} (N : Nat) (k0 : V0 → V0 → V0 → Int → Int → Option R) : Nat → V0 → V0 → V0 → Int → Int → Option R
  | 0, _, _, _, _, _ => none
  | m + 1, x0, x1, x2, x3, x4 => (g114_24 N (l114_25 N k0 m) k0 x0 x1 x2 x3 x4)
theorem lt114_25 : ∀ (m) (x0 x1 x2 x3 x4), iter [1, 5, 17, 18, 19] (fun env K => exec cl N c114_24 env K) K m (e16 x0 x1 x2 x3 x4) = l114_25 N (fun y0 y1 y2 y3 y4 => K (.exit 0) (e16 y0 y1 y2 y3 y4)) m x0 x1 x2 x3 x4 := by
  intro m
  induction m with
  | zero => intros; rfl
  | succ m ih =>
    intro x0 x1 x2 x3 x4
    simp only [iter_succ, t114_24, loopK_normal, loopK_exit, loopK_ret, kp114_0, ih]
    rfl
theorem kp114_6 (x0 x1 x2 x3 x4) : keep [5] (e16 x0 x1 x2 x3 x4) = (e22 x1) := by kernel_rfl
def g114_25 (N : Nat) (k0 : V0 → Option R) (x0 x1 x2 : V0) (x3 x4 : Int) : Option R :=
l114_25 N (fun y0 y1 y2 y3 y4 => k0 y1) N x0 x1 x2 x3 x4
theorem t114_25 (x0 x1 x2 x3 x4) : exec cl N c114_25 (e16 x0 x1 x2 x3 x4) K = (g114_25 N (fun y0 => K (.exit 0) (e22 y0)) x0 x1 x2 x3 x4) := by
  simp only [c114_25, exec_out, exec_loop, kp114_0, lt114_25, kp114_6]
  rfl
theorem kp114_7 (x0) : keep [5] (e22 x0) = (e22 x0) := by kernel_rfl
def g114_27 (S118 : V0 → Option V1) (k0 : V0 → Option R) (x0 : V0) : Option R :=
(S118 x0).bind fun r122 =>
k0 r122
theorem t114_27 (S118) (h118 : (ctr118 S118).holds cl) (x0) : exec cl N c114_27 (e22 x0) K = (g114_27 S118 (fun y0 => K .normal [(4, .v U2 y0)]) x0) := by
  rw [← put_eq h118]
  kernel_rfl
def g114_28b (N : Nat) (S118 : V0 → Option V1) (k0 : V0 → Option R) (x0 x1 : V0) : Option R :=
(g114_28 (g114_2 (g114_25 N ((g114_27 S118 k0)))) x0 x1)
theorem t114_28b (S118) (h118 : (ctr118 S118).holds cl) (x0 x1) : exec cl N c114_28 (e14 x0 x1) K = (g114_28b N S118 (fun y0 => K .ret [(4, .v U2 y0)]) x0 x1) := by
  simp only [exec_seq, seqK_normal, seqK_exit, seqK_ret, t114_28, t114_2, c114_26, exec_out, exec_block, t114_25, blockK_normal, blockK_ret, blockK_eq, kp114_7, t114_27 S118 h118, exec_ret]
  rfl
theorem rk114_0 (y0) : retK d114 .ret [(4, .v U2 y0)] = some [.v U2 y0] := by kernel_rfl
def g114 (N : Nat) (S118 : V0 → Option V1) (x0 x1 : V0) (k : V0 → Option R) : Option R :=
(g114_28b N S118 k x0 x1)
theorem gen114 {N : Nat} {cl : Cal} (S118 : V0 → Option V1) (h118 : (ctr118 S118).holds cl) (x0 : V0) (x1 : V0) {R : Type} (k : List E → Option R) : exec cl N c114 (params 0 [.v U2 x0, .v U2 x1]) (fun e env => (retK d114 e env).bind k) = g114 N S118 x0 x1 (fun (r0 : V0) => k [.v U2 r0]) := by
  have e0 : params 0 [.v U2 x0, .v U2 x1] = (e14 x0 x1) := by kernel_rfl
  simp only [c114, e0, t114_28b S118 h118, rk114_0, Option.bind_some]
  rfl
def ctr114 (S : V0 → V0 → Option V1) : Ctr := { A := V0 × V0 × Unit, B := V0, f := 114, enc := fun a => [.v U2 a.1, .v U2 a.2.1], dec := (decC (decV U2) (decC (decV U2) dec0)), S := fun a => S a.1 a.2.1, ent := fun b => [.v U2 b], ok := (decV_cons (T := U2) (decV_cons (T := U2) (fun es b h => dec0_some h))) }
def S114 (N : Nat) (x0 : V0) (x1 : V0) : Option V1 := g114 N (S118 N) x0 x1 (fun (r0 : V0) => some (r0))
def g96_0 (k0 : V0 → V0 → Option R) (x0 x1 : V0) : Option R :=
k0 x0 x1
theorem t96_0 (x0 x1) : exec cl N c96_0 (e14 x0 x1) K = (g96_0 (fun y0 y1 => K .normal (e14 y0 y1)) x0 x1) := by
  kernel_rfl
def g96_1 (k0 : V0 → V0 → Bool → Option R) (x0 x1 : V0) : Option R :=
k0 x0 x1 ((x0.length : Int) != (x1.length : Int))
theorem t96_1 (x0 x1) : exec cl N c96_1 (e14 x0 x1) K = (g96_1 (fun y0 y1 y2 => K .normal (e23 y0 y1 y2)) x0 x1) := by
  kernel_rfl
def g96_2 (k0 : Bool → Option R) (x0 x1 : V0) (x2 : Bool) : Option R :=
k0 (decide ((x0.length : Int) < (x1.length : Int)))
theorem t96_2 (x0 x1 x2) : exec cl N c96_2 (e23 x0 x1 x2) K = (g96_2 (fun y0 => K .normal [(15, .v .bool y0)]) x0 x1 x2) := by
  kernel_rfl
def g96_3 (k0 : Int → Option R) (x0 : Bool) : Option R :=
k0 (-1 : Int)
theorem t96_3 (x0) : exec cl N c96_3 [(15, .v .bool x0)] K = (g96_3 (fun y0 => K .normal [(4, .v U1 y0)]) x0) := by
  kernel_rfl
theorem kp96_0 (x0) : keep [4] [(4, .v U1 x0)] = [(4, .v U1 x0)] := by kernel_rfl
theorem kp96_1 (x0) : keep [4] [(15, .v .bool x0)] = [(4, .dead)] := by kernel_rfl
theorem hb96_0 (x0) : boolOf? (ent [(15, .v .bool x0)] (.t 15)) = some x0 := by kernel_rfl
def g96_5 (k0 : Int → Option R) : Option R :=
k0 (1 : Int)
theorem t96_5 : exec cl N c96_5 [(4, .dead)] K = (g96_5 (fun y0 => K .normal [(4, .v U1 y0)])) := by
  kernel_rfl
theorem kp96_2 (x0) : keep [0, 1, 4] [(4, .v U1 x0)] = (e24 x0) := by kernel_rfl
theorem kp96_3 (x0 x1 x2) : keep [0, 1, 4] (e23 x0 x1 x2) = (e25 x0 x1) := by kernel_rfl
theorem hb96_1 (x0 x1 x2) : boolOf? (ent (e23 x0 x1 x2) (.t 10)) = some x2 := by kernel_rfl
def g96_7 (k0 : V0 → V0 → Int → Option R) (x0 x1 : V0) : Option R :=
k0 x0 x1 (IntKind.i64.wrap ((x0.length : Int) - (1 : Int)))
theorem t96_7 (x0 x1) : exec cl N c96_7 (e25 x0 x1) K = (g96_7 (fun y0 y1 y2 => K .normal (e26 y0 y1 y2)) x0 x1) := by
  kernel_rfl
theorem kp96_4 (x0 x1 x2) : keep [0, 1, 5] (e26 x0 x1 x2) = (e26 x0 x1 x2) := by kernel_rfl
def g96_8 (k0 : V0 → V0 → Int → Bool → Option R) (x0 x1 : V0) (x2 : Int) : Option R :=
k0 x0 x1 x2 (decide (x2 ≥ (0 : Int)))
theorem t96_8 (x0 x1 x2) : exec cl N c96_8 (e26 x0 x1 x2) K = (g96_8 (fun y0 y1 y2 y3 => K .normal (e27 y0 y1 y2 y3)) x0 x1 x2) := by
  kernel_rfl
theorem kp96_5 (x0 x1 x2 x3) : keep [0, 1, 5] (e27 x0 x1 x2 x3) = (e26 x0 x1 x2) := by kernel_rfl
theorem hb96_2 (x0 x1 x2 x3) : boolOf? (ent (e27 x0 x1 x2 x3) (.t 20)) = some x3 := by kernel_rfl
def g96_10 (k0 : V0 → V0 → Int → Bool → Option R) (x0 x1 : V0) (x2 : Int) : Option R :=
if 0 ≤ x2 ∧ x2 < (x0.length : Int) then
if 0 ≤ x2 ∧ x2 < (x1.length : Int) then
k0 x0 x1 x2 ((x0.getD x2.toNat (0 : Int)) != (x1.getD x2.toNat (0 : Int)))
else none
else none
theorem t96_10 (x0 x1 x2) : exec cl N c96_10 (e26 x0 x1 x2) K = (g96_10 (fun y0 y1 y2 y3 => K .normal (e28 y0 y1 y2 y3)) x0 x1 x2) := by
  kernel_rfl
def g96_11 (k0 : Bool → Option R) (x0 x1 : V0) (x2 : Int) (x3 : Bool) : Option R :=
if 0 ≤ x2 ∧ x2 < (x0.length : Int) then
if 0 ≤ x2 ∧ x2 < (x1.length : Int) then
k0 (decide ((x0.getD x2.toNat (0 : Int)) < (x1.getD x2.toNat (0 : Int))))
else none
else none
theorem t96_11 (x0 x1 x2 x3) : exec cl N c96_11 (e28 x0 x1 x2 x3) K = (g96_11 (fun y0 => K .normal [(40, .v .bool y0)]) x0 x1 x2 x3) := by
  kernel_rfl
def g96_12 (k0 : Int → Option R) (x0 : Bool) : Option R :=
k0 (-1 : Int)
theorem t96_12 (x0) : exec cl N c96_12 [(40, .v .bool x0)] K = (g96_12 (fun y0 => K .normal [(4, .v U1 y0)]) x0) := by
  kernel_rfl
theorem kp96_6 (x0) : keep [4] [(40, .v .bool x0)] = [(4, .dead)] := by kernel_rfl
theorem hb96_3 (x0) : boolOf? (ent [(40, .v .bool x0)] (.t 40)) = some x0 := by kernel_rfl
def g96_14 (k0 : Int → Option R) : Option R :=
k0 (1 : Int)
theorem t96_14 : exec cl N c96_14 [(4, .dead)] K = (g96_14 (fun y0 => K .normal [(4, .v U1 y0)])) := by
  kernel_rfl
theorem kp96_7 (x0) : keep [0, 1, 4, 5] [(4, .v U1 x0)] = (e29 x0) := by kernel_rfl
theorem kp96_8 (x0 x1 x2 x3) : keep [0, 1, 4, 5] (e28 x0 x1 x2 x3) = (e30 x0 x1 x2) := by kernel_rfl
theorem hb96_4 (x0 x1 x2 x3) : boolOf? (ent (e28 x0 x1 x2 x3) (.t 31)) = some x3 := by kernel_rfl
theorem kp96_9 (x0) : keep [0, 1, 4, 5] (e29 x0) = (e29 x0) := by kernel_rfl
theorem kp96_10 (x0 x1 x2) : keep [0, 1, 4, 5] (e30 x0 x1 x2) = (e30 x0 x1 x2) := by kernel_rfl
def g96_17 (k0 : V0 → V0 → Int → Option R) (x0 x1 : V0) (x2 : Int) : Option R :=
k0 x0 x1 (IntKind.i64.wrap (x2 - (1 : Int)))
theorem t96_17 (x0 x1 x2) : exec cl N c96_17 (e30 x0 x1 x2) K = (g96_17 (fun y0 y1 y2 => K .normal (e26 y0 y1 y2)) x0 x1 x2) := by
  kernel_rfl
def g96_18 (k0 : Int → Option R) (k1 : V0 → V0 → Int → Option R) (k2 : V0 → V0 → Int → Option R) (x0 x1 : V0) (x2 : Int) : Option R :=
(g96_8 (fun y0 y1 y2 y3 => brB y3 ((g96_10 (fun y0 y1 y2 y3 => brB y3 (g96_11 (fun y0 => brB y0 (g96_12 k0 y0) (g96_14 k0)) y0 y1 y2 y3) (((g96_17 k1)) y0 y1 y2))) y0 y1 y2) (k2 y0 y1 y2)) x0 x1 x2)
theorem t96_18 (x0 x1 x2) : exec cl N c96_18 (e26 x0 x1 x2) K = (g96_18 (fun y0 => K .ret (e29 y0)) (fun y0 y1 y2 => K .normal (e26 y0 y1 y2)) (fun y0 y1 y2 => K (.exit 0) (e26 y0 y1 y2)) x0 x1 x2) := by
  simp only [c96_18, exec_seq, seqK_normal, seqK_exit, seqK_ret, t96_8, c96_9, exec_out, exec_cond', hb96_2, Option.bind_some, brB_true, brB_false, exec_skip, exec_exit, kp96_5, c96_16, exec_block, t96_10, c96_15, hb96_4, t96_11, c96_13, hb96_3, t96_12, exec_ret, kp96_0, kp96_6, t96_14, kp96_7, kp96_8, blockK_normal, blockK_ret, blockK_eq, kp96_10, kp96_9, t96_17]
  rfl
def l96_19 {R : Type} (k0 : Int → Option R) (k1 : V0 → V0 → Int → Option R) : Nat → V0 → V0 → Int → Option R
  | 0, _, _, _ => none
  | m + 1, x0, x1, x2 => (g96_18 k0 (l96_19 k0 k1 m) k1 x0 x1 x2)
theorem lt96_19 : ∀ (m) (x0 x1 x2), iter [0, 1, 5] (fun env K => exec cl N c96_18 env K) K m (e26 x0 x1 x2) = l96_19 (fun y0 => K .ret (e29 y0)) (fun y0 y1 y2 => K (.exit 0) (e26 y0 y1 y2)) m x0 x1 x2 := by
  intro m
  induction m with
  | zero => intros; rfl
  | succ m ih =>
    intro x0 x1 x2
    simp only [iter_succ, t96_18, loopK_normal, loopK_exit, loopK_ret, kp96_4, ih]
    rfl
theorem kp96_11 (x0) : keep [4] (e29 x0) = [(4, .v U1 x0)] := by kernel_rfl
theorem kp96_12 (x0 x1 x2) : keep [4] (e26 x0 x1 x2) = [(4, .dead)] := by kernel_rfl
def g96_19 (N : Nat) (k0 : Int → Option R) (k1 : Option R) (x0 x1 : V0) (x2 : Int) : Option R :=
l96_19 k0 (fun y0 y1 y2 => k1) N x0 x1 x2
theorem t96_19 (x0 x1 x2) : exec cl N c96_19 (e26 x0 x1 x2) K = (g96_19 N (fun y0 => K .ret [(4, .v U1 y0)]) (K (.exit 0) [(4, .dead)]) x0 x1 x2) := by
  simp only [c96_19, exec_out, exec_loop, kp96_4, lt96_19, kp96_11, kp96_12]
  rfl
theorem kp96_13 : keep [4] [(4, .dead)] = [(4, .dead)] := by kernel_rfl
def g96_21 (k0 : Int → Option R) : Option R :=
k0 (0 : Int)
theorem t96_21 : exec cl N c96_21 [(4, .dead)] K = (g96_21 (fun y0 => K .normal [(4, .v U1 y0)])) := by
  kernel_rfl
def g96_22 (N : Nat) (k0 : Int → Option R) (k1 : Int → Option R) (x0 x1 : V0) : Option R :=
(g96_0 (g96_1 (fun y0 y1 y2 => brB y2 (g96_2 (fun y0 => brB y0 (g96_3 k0 y0) (g96_5 k0)) y0 y1 y2) ((g96_7 (g96_19 N k1 (g96_21 k1))) y0 y1))) x0 x1)
theorem t96_22 (x0 x1) : exec cl N c96_22 (e14 x0 x1) K = (g96_22 N (fun y0 => K .ret (e24 y0)) (fun y0 => K .ret [(4, .v U1 y0)]) x0 x1) := by
  simp only [c96_22, exec_seq, seqK_normal, seqK_exit, seqK_ret, t96_0, t96_1, c96_6, exec_out, exec_cond', hb96_1, Option.bind_some, brB_true, brB_false, t96_2, c96_4, hb96_0, t96_3, exec_ret, exec_skip, kp96_0, kp96_1, t96_5, kp96_2, kp96_3, t96_7, c96_20, exec_block, t96_19, blockK_normal, blockK_ret, blockK_eq, kp96_13, t96_21]
  rfl
theorem rk96_0 (y0) : retK d96 .ret (e24 y0) = some [.v U1 y0] := by kernel_rfl
theorem rk96_1 (y0) : retK d96 .ret [(4, .v U1 y0)] = some [.v U1 y0] := by kernel_rfl
def g96 (N : Nat) (x0 x1 : V0) (k : Int → Option R) : Option R :=
(g96_22 N k k x0 x1)
theorem gen96 {N : Nat} {cl : Cal} (x0 : V0) (x1 : V0) {R : Type} (k : List E → Option R) : exec cl N c96 (params 0 [.v U2 x0, .v U2 x1]) (fun e env => (retK d96 e env).bind k) = g96 N x0 x1 (fun (r0 : Int) => k [.v U1 r0]) := by
  have e0 : params 0 [.v U2 x0, .v U2 x1] = (e14 x0 x1) := by kernel_rfl
  simp only [c96, e0, t96_22, rk96_0, rk96_1, Option.bind_some]
  rfl
def ctr96 (S : V0 → V0 → Option (Int)) : Ctr := { A := V0 × V0 × Unit, B := Int, f := 96, enc := fun a => [.v U2 a.1, .v U2 a.2.1], dec := (decC (decV U2) (decC (decV U2) dec0)), S := fun a => S a.1 a.2.1, ent := fun b => [.v U1 b], ok := (decV_cons (T := U2) (decV_cons (T := U2) (fun es b h => dec0_some h))) }
def S96 (N : Nat) (x0 : V0) (x1 : V0) : Option (Int) := g96 N x0 x1 (fun (r0 : Int) => some (r0))
def g119_26 (S117 : V0 → Option V1) (k0 : V0 → V0 → Int → Option R) (x0 x1 : V0) : Option R :=
(S117 x0).bind fun r175 =>
k0 x1 r175 (0 : Int)
theorem t119_26 (S117) (h117 : (ctr117 S117).holds cl) (x0 x1) : exec cl N c119_26 (e14 x0 x1) K = (g119_26 S117 (fun y0 y1 y2 => exec cl N (.seq (.seq c119_3 c119_24) (.seq c119_25 .ret)) [(1, .v U2 y0), (5, .own true 3 U1 .no y1), (6, .v U1 y2)] K) x0 x1) := by
  rw [← put_eq h117]
  kernel_rfl
def g119_3 (k0 : V0 → V0 → Int → Int → Int → Option R) (x0 x1 : V0) (x2 : Int) : Option R :=
k0 x0 x1 x2 (x1.length : Int) (0 : Int)
theorem t119_3 (x0 x1 x2) : exec cl N c119_3 [(1, .v U2 x0), (5, .own true 3 U1 .no x1), (6, .v U1 x2)] K = (g119_3 (fun y0 y1 y2 y3 y4 => K .normal (e31 y0 y1 y2 y3 y4)) x0 x1 x2) := by
  kernel_rfl
theorem kp119_0 (x0 x1 x2 x3 x4) : keep [1, 5, 6, 11, 12] (e31 x0 x1 x2 x3 x4) = (e31 x0 x1 x2 x3 x4) := by kernel_rfl
def g119_4 (k0 : V0 → V0 → Int → Int → Int → Bool → Option R) (x0 x1 : V0) (x2 x3 x4 : Int) : Option R :=
k0 x0 x1 x2 x3 x4 (decide (x4 < x3))
theorem t119_4 (x0 x1 x2 x3 x4) : exec cl N c119_4 (e31 x0 x1 x2 x3 x4) K = (g119_4 (fun y0 y1 y2 y3 y4 y5 => K .normal (e32 y0 y1 y2 y3 y4 y5)) x0 x1 x2 x3 x4) := by
  kernel_rfl
theorem kp119_1 (x0 x1 x2 x3 x4 x5) : keep [1, 5, 6, 11, 12] (e32 x0 x1 x2 x3 x4 x5) = (e31 x0 x1 x2 x3 x4) := by kernel_rfl
theorem hb119_0 (x0 x1 x2 x3 x4 x5) : boolOf? (ent (e32 x0 x1 x2 x3 x4 x5) (.t 13)) = some x5 := by kernel_rfl
def g119_19 (k0 : V0 → V0 → Int → Int → Int → Option R) (x0 x1 : V0) (x2 x3 x4 : Int) : Option R :=
if 0 ≤ x4 ∧ x4 < (x1.length : Int) then
if x4.toNat < x1.length then
if 0 ≤ x4 ∧ x4 < (x1.length : Int) then
if x4.toNat < x1.length then
k0 x0 (x1.set x4.toNat (IntKind.i64.wrap ((x1.getD x4.toNat (0 : Int)) - x2))) x4 x3 x4
else none
else none
else none
else none
theorem t119_19 (x0 x1 x2 x3 x4) : exec cl N c119_19 (e31 x0 x1 x2 x3 x4) K = (g119_19 (fun y0 y1 y2 y3 y4 => exec cl N (.seq c119_11 c119_18) (e33 y0 y1 y2 y3 y4) K) x0 x1 x2 x3 x4) := by
  kernel_rfl
def g119_8 (k0 : V0 → V0 → Int → Int → Int → Bool → Option R) (x0 x1 : V0) (x2 x3 x4 : Int) : Option R :=
k0 x0 x1 x2 x3 x4 (decide (x2 < (x0.length : Int)))
theorem t119_8 (x0 x1 x2 x3 x4) : exec cl N c119_8 (e33 x0 x1 x2 x3 x4) K = (g119_8 (fun y0 y1 y2 y3 y4 y5 => K .normal (e34 y0 y1 y2 y3 y4 y5)) x0 x1 x2 x3 x4) := by
  kernel_rfl
def g119_9 (k0 : V0 → V0 → Int → Int → Int → Option R) (x0 x1 : V0) (x2 x3 x4 : Int) (x5 : Bool) : Option R :=
if 0 ≤ x2 ∧ x2 < (x1.length : Int) then
if x2.toNat < x1.length then
if 0 ≤ x2 ∧ x2 < (x0.length : Int) then
if 0 ≤ x2 ∧ x2 < (x1.length : Int) then
if x2.toNat < x1.length then
k0 x0 (x1.set x2.toNat (IntKind.i64.wrap ((x1.getD x2.toNat (0 : Int)) - (x0.getD x2.toNat (0 : Int))))) x2 x3 x4
else none
else none
else none
else none
else none
theorem t119_9 (x0 x1 x2 x3 x4 x5) : exec cl N c119_9 (e34 x0 x1 x2 x3 x4 x5) K = (g119_9 (fun y0 y1 y2 y3 y4 => K .normal (e33 y0 y1 y2 y3 y4)) x0 x1 x2 x3 x4 x5) := by
  kernel_rfl
theorem kp119_2 (x0 x1 x2 x3 x4) : keep [1, 5, 7, 11, 12] (e33 x0 x1 x2 x3 x4) = (e33 x0 x1 x2 x3 x4) := by kernel_rfl
theorem kp119_3 (x0 x1 x2 x3 x4 x5) : keep [1, 5, 7, 11, 12] (e34 x0 x1 x2 x3 x4 x5) = (e33 x0 x1 x2 x3 x4) := by kernel_rfl
theorem hb119_1 (x0 x1 x2 x3 x4 x5) : boolOf? (ent (e34 x0 x1 x2 x3 x4 x5) (.t 25)) = some x5 := by kernel_rfl
def g119_11 (k0 : V0 → V0 → Int → Int → Int → Option R) (x0 x1 : V0) (x2 x3 x4 : Int) : Option R :=
(g119_8 (fun y0 y1 y2 y3 y4 y5 => brB y5 (g119_9 k0 y0 y1 y2 y3 y4 y5) (k0 y0 y1 y2 y3 y4)) x0 x1 x2 x3 x4)
theorem t119_11 (x0 x1 x2 x3 x4) : exec cl N c119_11 (e33 x0 x1 x2 x3 x4) K = (g119_11 (fun y0 y1 y2 y3 y4 => K .normal (e33 y0 y1 y2 y3 y4)) x0 x1 x2 x3 x4) := by
  simp only [c119_11, exec_seq, seqK_normal, seqK_exit, seqK_ret, t119_8, c119_10, exec_out, exec_cond', hb119_1, Option.bind_some, brB_true, brB_false, t119_9, exec_skip, kp119_2, kp119_3]
  rfl
def g119_18 (k0 : V0 → V0 → Int → Int → Int → Int → Bool → Option R) (x0 x1 : V0) (x2 x3 x4 : Int) : Option R :=
if 0 ≤ x2 ∧ x2 < (x1.length : Int) then
if x2.toNat < x1.length then
k0 x0 x1 (0 : Int) x2 x3 x4 (decide ((x1.getD x2.toNat (0 : Int)) < (0 : Int)))
else none
else none
theorem t119_18 (x0 x1 x2 x3 x4) : exec cl N c119_18 (e33 x0 x1 x2 x3 x4) K = (g119_18 (fun y0 y1 y2 y3 y4 y5 y6 => exec cl N c119_17 (e35 y0 y1 y2 y3 y4 y5 y6) K) x0 x1 x2 x3 x4) := by
  kernel_rfl
def g119_16 (k0 : V0 → V0 → Int → Int → Int → Option R) (x0 x1 : V0) (x2 x3 x4 x5 : Int) (x6 : Bool) : Option R :=
if 0 ≤ x3 ∧ x3 < (x1.length : Int) then
if x3.toNat < x1.length then
if 0 ≤ x3 ∧ x3 < (x1.length : Int) then
if x3.toNat < x1.length then
k0 x0 (x1.set x3.toNat (IntKind.i64.wrap ((x1.getD x3.toNat (0 : Int)) + (10000 : Int)))) (1 : Int) x4 x5
else none
else none
else none
else none
theorem t119_16 (x0 x1 x2 x3 x4 x5 x6) : exec cl N c119_16 (e35 x0 x1 x2 x3 x4 x5 x6) K = (g119_16 (fun y0 y1 y2 y3 y4 => K .normal (e31 y0 y1 y2 y3 y4)) x0 x1 x2 x3 x4 x5 x6) := by
  kernel_rfl
theorem kp119_4 (x0 x1 x2 x3 x4 x5 x6) : keep [1, 5, 6, 11, 12] (e35 x0 x1 x2 x3 x4 x5 x6) = (e31 x0 x1 x2 x4 x5) := by kernel_rfl
theorem hb119_2 (x0 x1 x2 x3 x4 x5 x6) : boolOf? (ent (e35 x0 x1 x2 x3 x4 x5 x6) (.t 40)) = some x6 := by kernel_rfl
def g119_20 (k0 : V0 → V0 → Int → Int → Int → Option R) (x0 x1 : V0) (x2 x3 x4 : Int) : Option R :=
(g119_19 (g119_11 (g119_18 (fun y0 y1 y2 y3 y4 y5 y6 => brB y6 (g119_16 k0 y0 y1 y2 y3 y4 y5 y6) (k0 y0 y1 y2 y4 y5)))) x0 x1 x2 x3 x4)
theorem t119_20 (x0 x1 x2 x3 x4) : exec cl N c119_20 (e31 x0 x1 x2 x3 x4) K = (g119_20 (fun y0 y1 y2 y3 y4 => K .normal (e31 y0 y1 y2 y3 y4)) x0 x1 x2 x3 x4) := by
  simp only [c119_20, exec_out, exec_block, exec_seq, seqK_normal, seqK_exit, seqK_ret, t119_19, t119_11, t119_18, c119_17, exec_cond', hb119_2, Option.bind_some, brB_true, brB_false, t119_16, exec_skip, kp119_0, kp119_4, blockK_normal, blockK_ret, blockK_eq]
  rfl
def g119_21 (k0 : V0 → V0 → Int → Int → Int → Option R) (x0 x1 : V0) (x2 x3 x4 : Int) : Option R :=
k0 x0 x1 x2 x3 (IntKind.i64.wrap (x4 + (1 : Int)))
theorem t119_21 (x0 x1 x2 x3 x4) : exec cl N c119_21 (e31 x0 x1 x2 x3 x4) K = (g119_21 (fun y0 y1 y2 y3 y4 => K .normal (e31 y0 y1 y2 y3 y4)) x0 x1 x2 x3 x4) := by
  kernel_rfl
def g119_22 (k0 : V0 → V0 → Int → Int → Int → Option R) (k1 : V0 → V0 → Int → Int → Int → Option R) (x0 x1 : V0) (x2 x3 x4 : Int) : Option R :=
(g119_4 (fun y0 y1 y2 y3 y4 y5 => brB y5 ((g119_20 (g119_21 k0)) y0 y1 y2 y3 y4) (k1 y0 y1 y2 y3 y4)) x0 x1 x2 x3 x4)
theorem t119_22 (x0 x1 x2 x3 x4) : exec cl N c119_22 (e31 x0 x1 x2 x3 x4) K = (g119_22 (fun y0 y1 y2 y3 y4 => K .normal (e31 y0 y1 y2 y3 y4)) (fun y0 y1 y2 y3 y4 => K (.exit 0) (e31 y0 y1 y2 y3 y4)) x0 x1 x2 x3 x4) := by
  simp only [c119_22, exec_seq, seqK_normal, seqK_exit, seqK_ret, t119_4, c119_5, exec_out, exec_cond', hb119_0, Option.bind_some, brB_true, brB_false, exec_skip, exec_exit, kp119_1, t119_20, t119_21]
  rfl
def l119_23 {R : Type} (k0 : V0 → V0 → Int → Int → Int → Option R) : Nat → V0 → V0 → Int → Int → Int → Option R
  | 0, _, _, _, _, _ => none
  | m + 1, x0, x1, x2, x3, x4 => (g119_22 (l119_23 k0 m) k0 x0 x1 x2 x3 x4)
theorem lt119_23 : ∀ (m) (x0 x1 x2 x3 x4), iter [1, 5, 6, 11, 12] (fun env K => exec cl N c119_22 env K) K m (e31 x0 x1 x2 x3 x4) = l119_23 (fun y0 y1 y2 y3 y4 => K (.exit 0) (e31 y0 y1 y2 y3 y4)) m x0 x1 x2 x3 x4 := by
  intro m
  induction m with
  | zero => intros; rfl
  | succ m ih =>
    intro x0 x1 x2 x3 x4
    simp only [iter_succ, t119_22, loopK_normal, loopK_exit, loopK_ret, kp119_0, ih]
    rfl
theorem kp119_5 (x0 x1 x2 x3 x4) : keep [5] (e31 x0 x1 x2 x3 x4) = (e22 x1) := by kernel_rfl
def g119_23 (N : Nat) (k0 : V0 → Option R) (x0 x1 : V0) (x2 x3 x4 : Int) : Option R :=
l119_23 (fun y0 y1 y2 y3 y4 => k0 y1) N x0 x1 x2 x3 x4
theorem t119_23 (x0 x1 x2 x3 x4) : exec cl N c119_23 (e31 x0 x1 x2 x3 x4) K = (g119_23 N (fun y0 => K (.exit 0) (e22 y0)) x0 x1 x2 x3 x4) := by
  simp only [c119_23, exec_out, exec_loop, kp119_0, lt119_23, kp119_5]
  rfl
theorem kp119_6 (x0) : keep [5] (e22 x0) = (e22 x0) := by kernel_rfl
def g119_25 (S118 : V0 → Option V1) (k0 : V0 → Option R) (x0 : V0) : Option R :=
(S118 x0).bind fun r189 =>
k0 r189
theorem t119_25 (S118) (h118 : (ctr118 S118).holds cl) (x0) : exec cl N c119_25 (e22 x0) K = (g119_25 S118 (fun y0 => K .normal [(4, .v U2 y0)]) x0) := by
  rw [← put_eq h118]
  kernel_rfl
def g119_26b (N : Nat) (S117 : V0 → Option V1) (S118 : V0 → Option V1) (k0 : V0 → Option R) (x0 x1 : V0) : Option R :=
(g119_26 S117 (g119_3 (g119_23 N ((g119_25 S118 k0)))) x0 x1)
theorem t119_26b (S117) (S118) (h117 : (ctr117 S117).holds cl) (h118 : (ctr118 S118).holds cl) (x0 x1) : exec cl N c119_26 (e14 x0 x1) K = (g119_26b N S117 S118 (fun y0 => K .ret [(4, .v U2 y0)]) x0 x1) := by
  simp only [exec_seq, seqK_normal, seqK_exit, seqK_ret, t119_26 S117 h117, t119_3, c119_24, exec_out, exec_block, t119_23, blockK_normal, blockK_ret, blockK_eq, kp119_6, t119_25 S118 h118, exec_ret]
  rfl
theorem rk119_0 (y0) : retK d119 .ret [(4, .v U2 y0)] = some [.v U2 y0] := by kernel_rfl
def g119 (N : Nat) (S117 : V0 → Option V1) (S118 : V0 → Option V1) (x0 x1 : V0) (k : V0 → Option R) : Option R :=
(g119_26b N S117 S118 k x0 x1)
theorem gen119 {N : Nat} {cl : Cal} (S117 : V0 → Option V1) (S118 : V0 → Option V1) (h117 : (ctr117 S117).holds cl) (h118 : (ctr118 S118).holds cl) (x0 : V0) (x1 : V0) {R : Type} (k : List E → Option R) : exec cl N c119 (params 0 [.v U2 x0, .v U2 x1]) (fun e env => (retK d119 e env).bind k) = g119 N S117 S118 x0 x1 (fun (r0 : V0) => k [.v U2 r0]) := by
  have e0 : params 0 [.v U2 x0, .v U2 x1] = (e14 x0 x1) := by kernel_rfl
  simp only [c119, e0, t119_26b S117 S118 h117 h118, rk119_0, Option.bind_some]
  rfl
def ctr119 (S : V0 → V0 → Option V1) : Ctr := { A := V0 × V0 × Unit, B := V0, f := 119, enc := fun a => [.v U2 a.1, .v U2 a.2.1], dec := (decC (decV U2) (decC (decV U2) dec0)), S := fun a => S a.1 a.2.1, ent := fun b => [.v U2 b], ok := (decV_cons (T := U2) (decV_cons (T := U2) (fun es b h => dec0_some h))) }
def S119 (N : Nat) (x0 : V0) (x1 : V0) : Option V1 := g119 N (S117 N) (S118 N) x0 x1 (fun (r0 : V0) => some (r0))
def g115_33 (k0 : V0 → V0 → V0 → V0 → Option R) (x0 x1 : V0) : Option R :=
k0 x0 x1 [] []
theorem t115_33 (x0 x1) : exec cl N c115_33 (e14 x0 x1) K = (g115_33 (fun y0 y1 y2 y3 => exec cl N (.seq (.seq c115_2 c115_29) c115_32) (e36 y0 y1 y2 y3) K) x0 x1) := by
  kernel_rfl
def g115_2 (k0 : V0 → V0 → V0 → V0 → Int → Option R) (x0 x1 x2 x3 : V0) : Option R :=
k0 x0 x1 x2 x3 (IntKind.i64.wrap ((x0.length : Int) - (1 : Int)))
theorem t115_2 (x0 x1 x2 x3) : exec cl N c115_2 (e36 x0 x1 x2 x3) K = (g115_2 (fun y0 y1 y2 y3 y4 => K .normal (e37 y0 y1 y2 y3 y4)) x0 x1 x2 x3) := by
  kernel_rfl
theorem kp115_0 (x0 x1 x2 x3 x4) : keep [0, 1, 6, 7, 8] (e37 x0 x1 x2 x3 x4) = (e37 x0 x1 x2 x3 x4) := by kernel_rfl
def g115_3 (k0 : V0 → V0 → V0 → V0 → Int → Bool → Option R) (x0 x1 x2 x3 : V0) (x4 : Int) : Option R :=
k0 x0 x1 x2 x3 x4 (decide (x4 ≥ (0 : Int)))
theorem t115_3 (x0 x1 x2 x3 x4) : exec cl N c115_3 (e37 x0 x1 x2 x3 x4) K = (g115_3 (fun y0 y1 y2 y3 y4 y5 => K .normal (e38 y0 y1 y2 y3 y4 y5)) x0 x1 x2 x3 x4) := by
  kernel_rfl
theorem kp115_1 (x0 x1 x2 x3 x4 x5) : keep [0, 1, 6, 7, 8] (e38 x0 x1 x2 x3 x4 x5) = (e37 x0 x1 x2 x3 x4) := by kernel_rfl
theorem hb115_0 (x0 x1 x2 x3 x4 x5) : boolOf? (ent (e38 x0 x1 x2 x3 x4 x5) (.t 16)) = some x5 := by kernel_rfl
def g115_24 (S118 : V0 → Option V1) (k0 : V0 → V0 → V0 → V0 → Int → Int → Int → Option R) (x0 x1 x2 x3 : V0) (x4 : Int) : Option R :=
if 0 ≤ x4 ∧ x4 < (x0.length : Int) then
if [(x0.getD x4.toNat (0 : Int))].length + x3.length ≤ 17592186044416 then
(S118 ([(x0.getD x4.toNat (0 : Int))] ++ x3)).bind fun r198 =>
k0 x0 x1 x2 r198 x4 (0 : Int) (9999 : Int)
else none
else none
theorem t115_24 (S118) (h118 : (ctr118 S118).holds cl) (x0 x1 x2 x3 x4) : exec cl N c115_24 (e37 x0 x1 x2 x3 x4) K = (g115_24 S118 (fun y0 y1 y2 y3 y4 y5 y6 => exec cl N (.seq c115_18 (.seq c115_22 c115_23)) (e39 y0 y1 y2 y3 y4 y5 y6) K) x0 x1 x2 x3 x4) := by
  rw [← put_eq h118]
  kernel_rfl
theorem kp115_2 (x0 x1 x2 x3 x4 x5 x6) : keep [0, 1, 6, 7, 8, 9, 10] (e39 x0 x1 x2 x3 x4 x5 x6) = (e39 x0 x1 x2 x3 x4 x5 x6) := by kernel_rfl
def g115_7 (k0 : V0 → V0 → V0 → V0 → Int → Int → Int → Bool → Option R) (x0 x1 x2 x3 : V0) (x4 x5 x6 : Int) : Option R :=
k0 x0 x1 x2 x3 x4 x5 x6 (decide (x5 < x6))
theorem t115_7 (x0 x1 x2 x3 x4 x5 x6) : exec cl N c115_7 (e39 x0 x1 x2 x3 x4 x5 x6) K = (g115_7 (fun y0 y1 y2 y3 y4 y5 y6 y7 => K .normal (e40 y0 y1 y2 y3 y4 y5 y6 y7)) x0 x1 x2 x3 x4 x5 x6) := by
  kernel_rfl
theorem kp115_3 (x0 x1 x2 x3 x4 x5 x6 x7) : keep [0, 1, 6, 7, 8, 9, 10] (e40 x0 x1 x2 x3 x4 x5 x6 x7) = (e39 x0 x1 x2 x3 x4 x5 x6) := by kernel_rfl
theorem hb115_1 (x0 x1 x2 x3 x4 x5 x6 x7) : boolOf? (ent (e40 x0 x1 x2 x3 x4 x5 x6 x7) (.t 29)) = some x7 := by kernel_rfl
def g115_14 (S96 : V0 → V0 → Option (Int)) (S114 : V0 → V0 → Option V1) (k0 : V0 → V0 → V0 → V0 → Int → Int → Int → Int → Bool → Option R) (x0 x1 x2 x3 : V0) (x4 x5 x6 : Int) : Option R :=
let v205 : Int := (IntKind.i64.wrap (Int.tdiv (IntKind.i64.wrap ((IntKind.i64.wrap (x5 + x6)) + (1 : Int))) (2 : Int)))
(S114 x1 [v205]).bind fun r206 =>
(S96 r206 x3).bind fun r207 =>
k0 x0 x1 x2 x3 x4 x5 x6 v205 (decide (r207 ≤ (0 : Int)))
theorem t115_14 (S96) (S114) (h96 : (ctr96 S96).holds cl) (h114 : (ctr114 S114).holds cl) (x0 x1 x2 x3 x4 x5 x6) : exec cl N c115_14 (e39 x0 x1 x2 x3 x4 x5 x6) K = (g115_14 S96 S114 (fun y0 y1 y2 y3 y4 y5 y6 y7 y8 => exec cl N c115_13 (e41 y0 y1 y2 y3 y4 y5 y6 y7 y8) K) x0 x1 x2 x3 x4 x5 x6) := by
  rw [← put_eq h96]
  rw [← put_eq h114]
  kernel_rfl
def g115_11 (k0 : V0 → V0 → V0 → V0 → Int → Int → Int → Option R) (x0 x1 x2 x3 : V0) (x4 x5 x6 x7 : Int) (x8 : Bool) : Option R :=
k0 x0 x1 x2 x3 x4 x7 x6
theorem t115_11 (x0 x1 x2 x3 x4 x5 x6 x7 x8) : exec cl N c115_11 (e41 x0 x1 x2 x3 x4 x5 x6 x7 x8) K = (g115_11 (fun y0 y1 y2 y3 y4 y5 y6 => K .normal (e39 y0 y1 y2 y3 y4 y5 y6)) x0 x1 x2 x3 x4 x5 x6 x7 x8) := by
  kernel_rfl
def g115_12 (k0 : V0 → V0 → V0 → V0 → Int → Int → Int → Option R) (x0 x1 x2 x3 : V0) (x4 x5 x6 x7 : Int) (x8 : Bool) : Option R :=
k0 x0 x1 x2 x3 x4 x5 (IntKind.i64.wrap (x7 - (1 : Int)))
theorem t115_12 (x0 x1 x2 x3 x4 x5 x6 x7 x8) : exec cl N c115_12 (e41 x0 x1 x2 x3 x4 x5 x6 x7 x8) K = (g115_12 (fun y0 y1 y2 y3 y4 y5 y6 => K .normal (e39 y0 y1 y2 y3 y4 y5 y6)) x0 x1 x2 x3 x4 x5 x6 x7 x8) := by
  kernel_rfl
theorem hb115_2 (x0 x1 x2 x3 x4 x5 x6 x7 x8) : boolOf? (ent (e41 x0 x1 x2 x3 x4 x5 x6 x7 x8) (.t 41)) = some x8 := by kernel_rfl
def g115_16 (S96 : V0 → V0 → Option (Int)) (S114 : V0 → V0 → Option V1) (k0 : V0 → V0 → V0 → V0 → Int → Int → Int → Option R) (k1 : V0 → V0 → V0 → V0 → Int → Int → Int → Option R) (x0 x1 x2 x3 : V0) (x4 x5 x6 : Int) : Option R :=
(g115_7 (fun y0 y1 y2 y3 y4 y5 y6 y7 => brB y7 ((g115_14 S96 S114 (fun y0 y1 y2 y3 y4 y5 y6 y7 y8 => brB y8 (g115_11 k0 y0 y1 y2 y3 y4 y5 y6 y7 y8) (g115_12 k0 y0 y1 y2 y3 y4 y5 y6 y7 y8))) y0 y1 y2 y3 y4 y5 y6) (k1 y0 y1 y2 y3 y4 y5 y6)) x0 x1 x2 x3 x4 x5 x6)
theorem t115_16 (S96) (S114) (h96 : (ctr96 S96).holds cl) (h114 : (ctr114 S114).holds cl) (x0 x1 x2 x3 x4 x5 x6) : exec cl N c115_16 (e39 x0 x1 x2 x3 x4 x5 x6) K = (g115_16 S96 S114 (fun y0 y1 y2 y3 y4 y5 y6 => K .normal (e39 y0 y1 y2 y3 y4 y5 y6)) (fun y0 y1 y2 y3 y4 y5 y6 => K (.exit 2) (e39 y0 y1 y2 y3 y4 y5 y6)) x0 x1 x2 x3 x4 x5 x6) := by
  simp only [c115_16, exec_seq, seqK_normal, seqK_exit, seqK_ret, t115_7, c115_8, exec_out, exec_cond', hb115_1, Option.bind_some, brB_true, brB_false, exec_skip, exec_exit, kp115_3, c115_15, exec_block, t115_14 S96 S114 h96 h114, c115_13, hb115_2, t115_11, t115_12, kp115_2, blockK_normal, blockK_ret, blockK_eq]
  rfl
def l115_17 {R : Type} (S96 : V0 → V0 → Option (Int)) (S114 : V0 → V0 → Option V1) (k0 : V0 → V0 → V0 → V0 → Int → Int → Int → Option R) : Nat → V0 → V0 → V0 → V0 → Int → Int → Int → Option R
  | 0, _, _, _, _, _, _, _ => none
  | m + 1, x0, x1, x2, x3, x4, x5, x6 => (g115_16 S96 S114 (l115_17 S96 S114 k0 m) k0 x0 x1 x2 x3 x4 x5 x6)
theorem lt115_17 (S96) (S114) (h96 : (ctr96 S96).holds cl) (h114 : (ctr114 S114).holds cl) : ∀ (m) (x0 x1 x2 x3 x4 x5 x6), iter [0, 1, 6, 7, 8, 9, 10] (fun env K => exec cl N c115_16 env K) K m (e39 x0 x1 x2 x3 x4 x5 x6) = l115_17 S96 S114 (fun y0 y1 y2 y3 y4 y5 y6 => K (.exit 2) (e39 y0 y1 y2 y3 y4 y5 y6)) m x0 x1 x2 x3 x4 x5 x6 := by
  intro m
  induction m with
  | zero => intros; rfl
  | succ m ih =>
    intro x0 x1 x2 x3 x4 x5 x6
    simp only [iter_succ, t115_16 S96 S114 h96 h114, loopK_normal, loopK_exit, loopK_ret, kp115_2, ih]
    rfl
theorem kp115_4 (x0 x1 x2 x3 x4 x5 x6) : keep [0, 1, 6, 7, 8, 9] (e39 x0 x1 x2 x3 x4 x5 x6) = (e42 x0 x1 x2 x3 x4 x5) := by kernel_rfl
def g115_17 (N : Nat) (S96 : V0 → V0 → Option (Int)) (S114 : V0 → V0 → Option V1) (k0 : V0 → V0 → V0 → V0 → Int → Int → Option R) (x0 x1 x2 x3 : V0) (x4 x5 x6 : Int) : Option R :=
l115_17 S96 S114 (fun y0 y1 y2 y3 y4 y5 y6 => k0 y0 y1 y2 y3 y4 y5) N x0 x1 x2 x3 x4 x5 x6
theorem t115_17 (S96) (S114) (h96 : (ctr96 S96).holds cl) (h114 : (ctr114 S114).holds cl) (x0 x1 x2 x3 x4 x5 x6) : exec cl N c115_17 (e39 x0 x1 x2 x3 x4 x5 x6) K = (g115_17 N S96 S114 (fun y0 y1 y2 y3 y4 y5 => K (.exit 2) (e42 y0 y1 y2 y3 y4 y5)) x0 x1 x2 x3 x4 x5 x6) := by
  simp only [c115_17, exec_out, exec_loop, kp115_2, lt115_17 S96 S114 h96 h114, kp115_4]
  rfl
theorem kp115_5 (x0 x1 x2 x3 x4 x5) : keep [0, 1, 6, 7, 8, 9] (e42 x0 x1 x2 x3 x4 x5) = (e42 x0 x1 x2 x3 x4 x5) := by kernel_rfl
def g115_19 (k0 : V0 → V0 → V0 → V0 → Int → Int → Bool → Option R) (x0 x1 x2 x3 : V0) (x4 x5 : Int) : Option R :=
k0 x0 x1 x2 x3 x4 x5 (decide (x5 > (0 : Int)))
theorem t115_19 (x0 x1 x2 x3 x4 x5) : exec cl N c115_19 (e42 x0 x1 x2 x3 x4 x5) K = (g115_19 (fun y0 y1 y2 y3 y4 y5 y6 => K .normal (e43 y0 y1 y2 y3 y4 y5 y6)) x0 x1 x2 x3 x4 x5) := by
  kernel_rfl
def g115_20 (S114 : V0 → V0 → Option V1) (S119 : V0 → V0 → Option V1) (k0 : V0 → V0 → V0 → V0 → Int → Int → Option R) (x0 x1 x2 x3 : V0) (x4 x5 : Int) (x6 : Bool) : Option R :=
(S114 x1 [x5]).bind fun r211 =>
(S119 x3 r211).bind fun r212 =>
k0 x0 x1 x2 r212 x4 x5
theorem t115_20 (S114) (S119) (h114 : (ctr114 S114).holds cl) (h119 : (ctr119 S119).holds cl) (x0 x1 x2 x3 x4 x5 x6) : exec cl N c115_20 (e43 x0 x1 x2 x3 x4 x5 x6) K = (g115_20 S114 S119 (fun y0 y1 y2 y3 y4 y5 => K .normal (e42 y0 y1 y2 y3 y4 y5)) x0 x1 x2 x3 x4 x5 x6) := by
  rw [← put_eq h114]
  rw [← put_eq h119]
  kernel_rfl
theorem kp115_6 (x0 x1 x2 x3 x4 x5 x6) : keep [0, 1, 6, 7, 8, 9] (e43 x0 x1 x2 x3 x4 x5 x6) = (e42 x0 x1 x2 x3 x4 x5) := by kernel_rfl
theorem hb115_3 (x0 x1 x2 x3 x4 x5 x6) : boolOf? (ent (e43 x0 x1 x2 x3 x4 x5 x6) (.t 46)) = some x6 := by kernel_rfl
def g115_22 (S114 : V0 → V0 → Option V1) (S119 : V0 → V0 → Option V1) (k0 : V0 → V0 → V0 → V0 → Int → Int → Option R) (x0 x1 x2 x3 : V0) (x4 x5 : Int) : Option R :=
(g115_19 (fun y0 y1 y2 y3 y4 y5 y6 => brB y6 (g115_20 S114 S119 k0 y0 y1 y2 y3 y4 y5 y6) (k0 y0 y1 y2 y3 y4 y5)) x0 x1 x2 x3 x4 x5)
theorem t115_22 (S114) (S119) (h114 : (ctr114 S114).holds cl) (h119 : (ctr119 S119).holds cl) (x0 x1 x2 x3 x4 x5) : exec cl N c115_22 (e42 x0 x1 x2 x3 x4 x5) K = (g115_22 S114 S119 (fun y0 y1 y2 y3 y4 y5 => K .normal (e42 y0 y1 y2 y3 y4 y5)) x0 x1 x2 x3 x4 x5) := by
  simp only [c115_22, exec_seq, seqK_normal, seqK_exit, seqK_ret, t115_19, c115_21, exec_out, exec_cond', hb115_3, Option.bind_some, brB_true, brB_false, t115_20 S114 S119 h114 h119, exec_skip, kp115_5, kp115_6]
  rfl
def g115_23 (k0 : V0 → V0 → V0 → V0 → Int → Option R) (x0 x1 x2 x3 : V0) (x4 x5 : Int) : Option R :=
if x2.length + [x5].length ≤ 17592186044416 then
k0 x0 x1 (x2 ++ [x5]) x3 x4
else none
theorem t115_23 (x0 x1 x2 x3 x4 x5) : exec cl N c115_23 (e42 x0 x1 x2 x3 x4 x5) K = (g115_23 (fun y0 y1 y2 y3 y4 => K .normal (e37 y0 y1 y2 y3 y4)) x0 x1 x2 x3 x4 x5) := by
  kernel_rfl
def g115_26 (k0 : V0 → V0 → V0 → V0 → Int → Option R) (x0 x1 x2 x3 : V0) (x4 : Int) : Option R :=
k0 x0 x1 x2 x3 (IntKind.i64.wrap (x4 - (1 : Int)))
theorem t115_26 (x0 x1 x2 x3 x4) : exec cl N c115_26 (e37 x0 x1 x2 x3 x4) K = (g115_26 (fun y0 y1 y2 y3 y4 => K .normal (e37 y0 y1 y2 y3 y4)) x0 x1 x2 x3 x4) := by
  kernel_rfl
def g115_27 (N : Nat) (S96 : V0 → V0 → Option (Int)) (S114 : V0 → V0 → Option V1) (S118 : V0 → Option V1) (S119 : V0 → V0 → Option V1) (k0 : V0 → V0 → V0 → V0 → Int → Option R) (k1 : V0 → V0 → V0 → V0 → Int → Option R) (x0 x1 x2 x3 : V0) (x4 : Int) : Option R :=
(g115_3 (fun y0 y1 y2 y3 y4 y5 => brB y5 ((g115_24 S118 (g115_17 N S96 S114 ((g115_22 S114 S119 (g115_23 ((g115_26 k0))))))) y0 y1 y2 y3 y4) (k1 y0 y1 y2 y3 y4)) x0 x1 x2 x3 x4)
theorem t115_27 (S96) (S114) (S118) (S119) (h96 : (ctr96 S96).holds cl) (h114 : (ctr114 S114).holds cl) (h118 : (ctr118 S118).holds cl) (h119 : (ctr119 S119).holds cl) (x0 x1 x2 x3 x4) : exec cl N c115_27 (e37 x0 x1 x2 x3 x4) K = (g115_27 N S96 S114 S118 S119 (fun y0 y1 y2 y3 y4 => K .normal (e37 y0 y1 y2 y3 y4)) (fun y0 y1 y2 y3 y4 => K (.exit 0) (e37 y0 y1 y2 y3 y4)) x0 x1 x2 x3 x4) := by
  simp only [c115_27, exec_seq, seqK_normal, seqK_exit, seqK_ret, t115_3, c115_4, exec_out, exec_cond', hb115_0, Option.bind_some, brB_true, brB_false, exec_skip, exec_exit, kp115_1, c115_25, exec_block, t115_24 S118 h118, c115_18, t115_17 S96 S114 h96 h114, blockK_normal, blockK_ret, blockK_eq, kp115_5, t115_22 S114 S119 h114 h119, t115_23, kp115_0, t115_26]
  rfl
def l115_28 {R : Type} (N : Nat) (S96 : V0 → V0 → Option (Int)) (S114 : V0 → V0 → Option V1) (S118 : V0 → Option V1) (S119 : V0 → V0 → Option V1) (k0 : V0 → V0 → V0 → V0 → Int → Option R) : Nat → V0 → V0 → V0 → V0 → Int → Option R
  | 0, _, _, _, _, _ => none
  | m + 1, x0, x1, x2, x3, x4 => (g115_27 N S96 S114 S118 S119 (l115_28 N S96 S114 S118 S119 k0 m) k0 x0 x1 x2 x3 x4)
theorem lt115_28 (S96) (S114) (S118) (S119) (h96 : (ctr96 S96).holds cl) (h114 : (ctr114 S114).holds cl) (h118 : (ctr118 S118).holds cl) (h119 : (ctr119 S119).holds cl) : ∀ (m) (x0 x1 x2 x3 x4), iter [0, 1, 6, 7, 8] (fun env K => exec cl N c115_27 env K) K m (e37 x0 x1 x2 x3 x4) = l115_28 N S96 S114 S118 S119 (fun y0 y1 y2 y3 y4 => K (.exit 0) (e37 y0 y1 y2 y3 y4)) m x0 x1 x2 x3 x4 := by
  intro m
  induction m with
  | zero => intros; rfl
  | succ m ih =>
    intro x0 x1 x2 x3 x4
    simp only [iter_succ, t115_27 S96 S114 S118 S119 h96 h114 h118 h119, loopK_normal, loopK_exit, loopK_ret, kp115_0, ih]
    rfl
theorem kp115_7 (x0 x1 x2 x3 x4) : keep [6, 7] (e37 x0 x1 x2 x3 x4) = (e44 x2 x3) := by kernel_rfl
def g115_28 (N : Nat) (S96 : V0 → V0 → Option (Int)) (S114 : V0 → V0 → Option V1) (S118 : V0 → Option V1) (S119 : V0 → V0 → Option V1) (k0 : V0 → V0 → Option R) (x0 x1 x2 x3 : V0) (x4 : Int) : Option R :=
l115_28 N S96 S114 S118 S119 (fun y0 y1 y2 y3 y4 => k0 y2 y3) N x0 x1 x2 x3 x4
theorem t115_28 (S96) (S114) (S118) (S119) (h96 : (ctr96 S96).holds cl) (h114 : (ctr114 S114).holds cl) (h118 : (ctr118 S118).holds cl) (h119 : (ctr119 S119).holds cl) (x0 x1 x2 x3 x4) : exec cl N c115_28 (e37 x0 x1 x2 x3 x4) K = (g115_28 N S96 S114 S118 S119 (fun y0 y1 => K (.exit 0) (e44 y0 y1)) x0 x1 x2 x3 x4) := by
  simp only [c115_28, exec_out, exec_loop, kp115_0, lt115_28 S96 S114 S118 S119 h96 h114 h118 h119, kp115_7]
  rfl
theorem kp115_8 (x0 x1) : keep [6, 7] (e44 x0 x1) = (e44 x0 x1) := by kernel_rfl
def g115_32 (S118 : V0 → Option V1) (S120 : V0 → Option V1) (k0 : V0 → V0 → Option R) (x0 x1 : V0) : Option R :=
(S120 x0).bind fun r215 =>
(S118 r215).bind fun r216 =>
k0 r216 x1
theorem t115_32 (S118) (S120) (h118 : (ctr118 S118).holds cl) (h120 : (ctr120 S120).holds cl) (x0 x1) : exec cl N c115_32 (e44 x0 x1) K = (g115_32 S118 S120 (fun y0 y1 => exec cl N .ret (e45 y0 y1) K) x0 x1) := by
  rw [← put_eq h118]
  rw [← put_eq h120]
  kernel_rfl
def g115_33b (N : Nat) (S96 : V0 → V0 → Option (Int)) (S114 : V0 → V0 → Option V1) (S118 : V0 → Option V1) (S119 : V0 → V0 → Option V1) (S120 : V0 → Option V1) (k0 : V0 → V0 → Option R) (x0 x1 : V0) : Option R :=
(g115_33 (g115_2 (g115_28 N S96 S114 S118 S119 ((g115_32 S118 S120 k0)))) x0 x1)
theorem t115_33b (S96) (S114) (S118) (S119) (S120) (h96 : (ctr96 S96).holds cl) (h114 : (ctr114 S114).holds cl) (h118 : (ctr118 S118).holds cl) (h119 : (ctr119 S119).holds cl) (h120 : (ctr120 S120).holds cl) (x0 x1) : exec cl N c115_33 (e14 x0 x1) K = (g115_33b N S96 S114 S118 S119 S120 (fun y0 y1 => K .ret (e45 y0 y1)) x0 x1) := by
  simp only [exec_seq, seqK_normal, seqK_exit, seqK_ret, t115_33, t115_2, c115_29, exec_out, exec_block, t115_28 S96 S114 S118 S119 h96 h114 h118 h119, blockK_normal, blockK_ret, blockK_eq, kp115_8, t115_32 S118 S120 h118 h120, exec_ret]
  rfl
theorem rk115_0 (y0 y1) : retK d115 .ret (e45 y0 y1) = some [.v U2 y0, .v U2 y1] := by kernel_rfl
def g115 (N : Nat) (S96 : V0 → V0 → Option (Int)) (S114 : V0 → V0 → Option V1) (S118 : V0 → Option V1) (S119 : V0 → V0 → Option V1) (S120 : V0 → Option V1) (x0 x1 : V0) (k : V0 → V0 → Option R) : Option R :=
(g115_33b N S96 S114 S118 S119 S120 k x0 x1)
theorem gen115 {N : Nat} {cl : Cal} (S96 : V0 → V0 → Option (Int)) (S114 : V0 → V0 → Option V1) (S118 : V0 → Option V1) (S119 : V0 → V0 → Option V1) (S120 : V0 → Option V1) (h96 : (ctr96 S96).holds cl) (h114 : (ctr114 S114).holds cl) (h118 : (ctr118 S118).holds cl) (h119 : (ctr119 S119).holds cl) (h120 : (ctr120 S120).holds cl) (x0 : V0) (x1 : V0) {R : Type} (k : List E → Option R) : exec cl N c115 (params 0 [.v U2 x0, .v U2 x1]) (fun e env => (retK d115 e env).bind k) = g115 N S96 S114 S118 S119 S120 x0 x1 (fun (r0 : V0) (r1 : V0) => k [.v U2 r0, .v U2 r1]) := by
  have e0 : params 0 [.v U2 x0, .v U2 x1] = (e14 x0 x1) := by kernel_rfl
  simp only [c115, e0, t115_33b S96 S114 S118 S119 S120 h96 h114 h118 h119 h120, rk115_0, Option.bind_some]
  rfl
def ctr115 (S : V0 → V0 → Option V6) : Ctr := { A := V0 × V0 × Unit, B := V0 × V0, f := 115, enc := fun a => [.v U2 a.1, .v U2 a.2.1], dec := (decC (decV U2) (decC (decV U2) dec0)), S := fun a => S a.1 a.2.1, ent := fun b => [.v U2 b.1, .v U2 b.2], ok := (decV_cons (T := U2) (decV_cons (T := U2) (fun es b h => dec0_some h))) }
def S115 (N : Nat) (x0 : V0) (x1 : V0) : Option V6 := g115 N (S96 N) (S114 N) (S118 N) (S119 N) (S120 N) x0 x1 (fun (r0 : V0) (r1 : V0) => some (r0, r1))
def g106_0 (k0 : V0 → V3 → Option R) (x0 : V0) : Option R :=
k0 x0 ([], ())
theorem t106_0 (x0) : exec cl N c106_0 [(0, .v U2 x0)] K = (g106_0 (fun y0 y1 => K .normal (e2 y0 y1)) x0) := by
  kernel_rfl
def g106_1 (k0 : V0 → V3 → Bool → Option R) (x0 : V0) (x1 : V3) : Option R :=
k0 x0 x1 (decide ((x0.length : Int) > (200 : Int)))
theorem t106_1 (x0 x1) : exec cl N c106_1 (e2 x0 x1) K = (g106_1 (fun y0 y1 y2 => K .normal (e46 y0 y1 y2)) x0 x1) := by
  kernel_rfl
def g106_2 (k0 : V3 → Int → Option R) (x0 : V0) (x1 : V3) (x2 : Bool) : Option R :=
k0 ([], ()) (3 : Int)
theorem t106_2 (x0 x1 x2) : exec cl N c106_2 (e46 x0 x1 x2) K = (g106_2 (fun y0 y1 => K .normal (e7 y0 y1)) x0 x1 x2) := by
  kernel_rfl
theorem kp106_0 (x0 x1) : keep [0, 2, 3] (e7 x0 x1) = (e8 x0 x1) := by kernel_rfl
theorem kp106_1 (x0 x1 x2) : keep [0, 2, 3] (e46 x0 x1 x2) = (e47 x0 x1) := by kernel_rfl
theorem hb106_0 (x0 x1 x2) : boolOf? (ent (e46 x0 x1 x2) (.t 6)) = some x2 := by kernel_rfl
def g106_4 (S105 : V0 → Option V5) (k0 : V3 → Int → Option R) (x0 : V0) (x1 : V3) : Option R :=
(S105 x0).bind fun r222 =>
k0 r222 (0 : Int)
theorem t106_4 (S105) (h105 : (ctr105 S105).holds cl) (x0 x1) : exec cl N c106_4 (e47 x0 x1) K = (g106_4 S105 (fun y0 y1 => K .normal (e13 y0 y1)) x0 x1) := by
  rw [← put_eq h105]
  kernel_rfl
def g106_5 (S105 : V0 → Option V5) (k0 : V3 → Int → Option R) (k1 : V3 → Int → Option R) (x0 : V0) : Option R :=
(g106_0 (g106_1 (fun y0 y1 y2 => brB y2 (g106_2 k0 y0 y1 y2) ((g106_4 S105 k1) y0 y1))) x0)
theorem t106_5 (S105) (h105 : (ctr105 S105).holds cl) (x0) : exec cl N c106_5 [(0, .v U2 x0)] K = (g106_5 S105 (fun y0 y1 => K .ret (e8 y0 y1)) (fun y0 y1 => K .ret (e13 y0 y1)) x0) := by
  simp only [c106_5, exec_seq, seqK_normal, seqK_exit, seqK_ret, t106_0, t106_1, c106_3, exec_out, exec_cond', hb106_0, Option.bind_some, brB_true, brB_false, t106_2, exec_ret, exec_skip, kp106_0, kp106_1, t106_4 S105 h105]
  rfl
theorem rk106_0 (y0 y1) : retK d106 .ret (e8 y0 y1) = some [.v U4 y0, .v U1 y1] := by kernel_rfl
theorem rk106_1 (y0 y1) : retK d106 .ret (e13 y0 y1) = some [.v U4 y0, .v U1 y1] := by kernel_rfl
def g106 (S105 : V0 → Option V5) (x0 : V0) (k : V3 → Int → Option R) : Option R :=
(g106_5 S105 k k x0)
theorem gen106 {N : Nat} {cl : Cal} (S105 : V0 → Option V5) (h105 : (ctr105 S105).holds cl) (x0 : V0) {R : Type} (k : List E → Option R) : exec cl N c106 (params 0 [.v U2 x0]) (fun e env => (retK d106 e env).bind k) = g106 S105 x0 (fun (r0 : V3) (r1 : Int) => k [.v U4 r0, .v U1 r1]) := by
  have e0 : params 0 [.v U2 x0] = [(0, .v U2 x0)] := by kernel_rfl
  simp only [c106, e0, t106_5 S105 h105, rk106_0, rk106_1, Option.bind_some]
  rfl
def ctr106 (S : V0 → Option V7) : Ctr := { A := V0 × Unit, B := V3 × Int, f := 106, enc := fun a => [.v U2 a.1], dec := (decC (decV U2) dec0), S := fun a => S a.1, ent := fun b => [.v U4 b.1, .v U1 b.2], ok := (decV_cons (T := U2) (fun es b h => dec0_some h)) }
def S106 (N : Nat) (x0 : V0) : Option V7 := g106 (S105 N) x0 (fun (r0 : V3) (r1 : Int) => some (r0, r1))
def g92_0 (k0 : Int → Int → V3 → Option R) (x0 x1 : Int) : Option R :=
k0 x0 x1 ([], ())
theorem t92_0 (x0 x1) : exec cl N c92_0 (e48 x0 x1) K = (g92_0 (fun y0 y1 y2 => K .normal (e49 y0 y1 y2)) x0 x1) := by
  kernel_rfl
def g92_1 (k0 : Int → Int → V3 → Bool → Option R) (x0 x1 : Int) (x2 : V3) : Option R :=
brB (decide (x0 < (0 : Int))) (k0 x0 x1 x2 true) (brB (decide (x0 > (400 : Int))) (k0 x0 x1 x2 true) (brB (decide (x1 < (0 : Int))) (k0 x0 x1 x2 true) (k0 x0 x1 x2 (decide (x1 > x0)))))
theorem t92_1 (x0 x1 x2) : exec cl N c92_1 (e49 x0 x1 x2) K = (g92_1 (fun y0 y1 y2 y3 => K .normal (e50 y0 y1 y2 y3)) x0 x1 x2) := by
  kernel_rfl
def g92_2 (k0 : V3 → Int → Option R) (x0 x1 : Int) (x2 : V3) (x3 : Bool) : Option R :=
k0 ([], ()) (6 : Int)
theorem t92_2 (x0 x1 x2 x3) : exec cl N c92_2 (e50 x0 x1 x2 x3) K = (g92_2 (fun y0 y1 => K .normal (e51 y0 y1)) x0 x1 x2 x3) := by
  kernel_rfl
theorem kp92_0 (x0 x1) : keep [0, 1, 4, 5] (e51 x0 x1) = (e52 x0 x1) := by kernel_rfl
theorem kp92_1 (x0 x1 x2 x3) : keep [0, 1, 4, 5] (e50 x0 x1 x2 x3) = (e53 x0 x1 x2) := by kernel_rfl
theorem hb92_0 (x0 x1 x2 x3) : boolOf? (ent (e50 x0 x1 x2 x3) (.t 22)) = some x3 := by kernel_rfl
def g92_4 (k0 : Int → Int → V3 → V0 → Option R) (x0 x1 : Int) (x2 : V3) : Option R :=
k0 x0 x1 x2 [(1 : Int)]
theorem t92_4 (x0 x1 x2) : exec cl N c92_4 (e53 x0 x1 x2) K = (g92_4 (fun y0 y1 y2 y3 => K .normal (e54 y0 y1 y2 y3)) x0 x1 x2) := by
  kernel_rfl
def g92_5 (k0 : Int → Int → V3 → V0 → Int → Option R) (x0 x1 : Int) (x2 : V3) (x3 : V0) : Option R :=
k0 x0 x1 x2 x3 (1 : Int)
theorem t92_5 (x0 x1 x2 x3) : exec cl N c92_5 (e54 x0 x1 x2 x3) K = (g92_5 (fun y0 y1 y2 y3 y4 => K .normal (e55 y0 y1 y2 y3 y4)) x0 x1 x2 x3) := by
  kernel_rfl
theorem kp92_2 (x0 x1 x2 x3 x4) : keep [0, 1, 4, 6, 7] (e55 x0 x1 x2 x3 x4) = (e55 x0 x1 x2 x3 x4) := by kernel_rfl
def g92_6 (k0 : Int → Int → V3 → V0 → Int → Bool → Option R) (x0 x1 : Int) (x2 : V3) (x3 : V0) (x4 : Int) : Option R :=
let v228 : Int := (IntKind.i64.wrap (x0 - x1))
k0 x0 x1 x2 x3 x4 (decide (x4 ≤ (if v228 < x1 then v228 else x1)))
theorem t92_6 (x0 x1 x2 x3 x4) : exec cl N c92_6 (e55 x0 x1 x2 x3 x4) K = (g92_6 (fun y0 y1 y2 y3 y4 y5 => K .normal (e56 y0 y1 y2 y3 y4 y5)) x0 x1 x2 x3 x4) := by
  kernel_rfl
theorem kp92_3 (x0 x1 x2 x3 x4 x5) : keep [0, 1, 4, 6, 7] (e56 x0 x1 x2 x3 x4 x5) = (e55 x0 x1 x2 x3 x4) := by kernel_rfl
theorem hb92_1 (x0 x1 x2 x3 x4 x5) : boolOf? (ent (e56 x0 x1 x2 x3 x4 x5) (.t 31)) = some x5 := by kernel_rfl
def g92_10 (S114 : V0 → V0 → Option V1) (S115 : V0 → V0 → Option V6) (k0 : Int → Int → V3 → V0 → Int → Option R) (x0 x1 : Int) (x2 : V3) (x3 : V0) (x4 : Int) : Option R :=
(S114 x3 [(IntKind.i64.wrap ((IntKind.i64.wrap (x0 + (1 : Int))) - x4))]).bind fun r236 =>
(S115 r236 [x4]).bind fun r237 =>
k0 x0 x1 x2 r237.1 x4
theorem t92_10 (S114) (S115) (h114 : (ctr114 S114).holds cl) (h115 : (ctr115 S115).holds cl) (x0 x1 x2 x3 x4) : exec cl N c92_10 (e55 x0 x1 x2 x3 x4) K = (g92_10 S114 S115 (fun y0 y1 y2 y3 y4 => K .normal (e55 y0 y1 y2 y3 y4)) x0 x1 x2 x3 x4) := by
  rw [← put_eq h114]
  rw [← put_eq h115]
  kernel_rfl
def g92_12 (k0 : Int → Int → V3 → V0 → Int → Option R) (x0 x1 : Int) (x2 : V3) (x3 : V0) (x4 : Int) : Option R :=
k0 x0 x1 x2 x3 (IntKind.i64.wrap (x4 + (1 : Int)))
theorem t92_12 (x0 x1 x2 x3 x4) : exec cl N c92_12 (e55 x0 x1 x2 x3 x4) K = (g92_12 (fun y0 y1 y2 y3 y4 => K .normal (e55 y0 y1 y2 y3 y4)) x0 x1 x2 x3 x4) := by
  kernel_rfl
def g92_13 (S114 : V0 → V0 → Option V1) (S115 : V0 → V0 → Option V6) (k0 : Int → Int → V3 → V0 → Int → Option R) (k1 : Int → Int → V3 → V0 → Int → Option R) (x0 x1 : Int) (x2 : V3) (x3 : V0) (x4 : Int) : Option R :=
(g92_6 (fun y0 y1 y2 y3 y4 y5 => brB y5 ((g92_10 S114 S115 ((g92_12 k0))) y0 y1 y2 y3 y4) (k1 y0 y1 y2 y3 y4)) x0 x1 x2 x3 x4)
theorem t92_13 (S114) (S115) (h114 : (ctr114 S114).holds cl) (h115 : (ctr115 S115).holds cl) (x0 x1 x2 x3 x4) : exec cl N c92_13 (e55 x0 x1 x2 x3 x4) K = (g92_13 S114 S115 (fun y0 y1 y2 y3 y4 => K .normal (e55 y0 y1 y2 y3 y4)) (fun y0 y1 y2 y3 y4 => K (.exit 0) (e55 y0 y1 y2 y3 y4)) x0 x1 x2 x3 x4) := by
  simp only [c92_13, exec_seq, seqK_normal, seqK_exit, seqK_ret, t92_6, c92_7, exec_out, exec_cond', hb92_1, Option.bind_some, brB_true, brB_false, exec_skip, exec_exit, kp92_3, c92_11, exec_block, t92_10 S114 S115 h114 h115, blockK_normal, blockK_ret, blockK_eq, kp92_2, t92_12]
  rfl
def l92_14 {R : Type} (S114 : V0 → V0 → Option V1) (S115 : V0 → V0 → Option V6) (k0 : Int → Int → V3 → V0 → Int → Option R) : Nat → Int → Int → V3 → V0 → Int → Option R
  | 0, _, _, _, _, _ => none
  | m + 1, x0, x1, x2, x3, x4 => (g92_13 S114 S115 (l92_14 S114 S115 k0 m) k0 x0 x1 x2 x3 x4)
theorem lt92_14 (S114) (S115) (h114 : (ctr114 S114).holds cl) (h115 : (ctr115 S115).holds cl) : ∀ (m) (x0 x1 x2 x3 x4), iter [0, 1, 4, 6, 7] (fun env K => exec cl N c92_13 env K) K m (e55 x0 x1 x2 x3 x4) = l92_14 S114 S115 (fun y0 y1 y2 y3 y4 => K (.exit 0) (e55 y0 y1 y2 y3 y4)) m x0 x1 x2 x3 x4 := by
  intro m
  induction m with
  | zero => intros; rfl
  | succ m ih =>
    intro x0 x1 x2 x3 x4
    simp only [iter_succ, t92_13 S114 S115 h114 h115, loopK_normal, loopK_exit, loopK_ret, kp92_2, ih]
    rfl
theorem kp92_4 (x0 x1 x2 x3 x4) : keep [4, 6] (e55 x0 x1 x2 x3 x4) = (e57 x2 x3) := by kernel_rfl
def g92_14 (N : Nat) (S114 : V0 → V0 → Option V1) (S115 : V0 → V0 → Option V6) (k0 : V3 → V0 → Option R) (x0 x1 : Int) (x2 : V3) (x3 : V0) (x4 : Int) : Option R :=
l92_14 S114 S115 (fun y0 y1 y2 y3 y4 => k0 y2 y3) N x0 x1 x2 x3 x4
theorem t92_14 (S114) (S115) (h114 : (ctr114 S114).holds cl) (h115 : (ctr115 S115).holds cl) (x0 x1 x2 x3 x4) : exec cl N c92_14 (e55 x0 x1 x2 x3 x4) K = (g92_14 N S114 S115 (fun y0 y1 => K (.exit 0) (e57 y0 y1)) x0 x1 x2 x3 x4) := by
  simp only [c92_14, exec_out, exec_loop, kp92_2, lt92_14 S114 S115 h114 h115, kp92_4]
  rfl
theorem kp92_5 (x0 x1) : keep [4, 6] (e57 x0 x1) = (e57 x0 x1) := by kernel_rfl
def g92_16 (S106 : V0 → Option V7) (k0 : V3 → Int → Option R) (x0 : V3) (x1 : V0) : Option R :=
(S106 x1).bind fun r239 =>
k0 r239.1 r239.2
theorem t92_16 (S106) (h106 : (ctr106 S106).holds cl) (x0 x1) : exec cl N c92_16 (e57 x0 x1) K = (g92_16 S106 (fun y0 y1 => K .normal (e58 y0 y1)) x0 x1) := by
  rw [← put_eq h106]
  kernel_rfl
def g92_17 (N : Nat) (S106 : V0 → Option V7) (S114 : V0 → V0 → Option V1) (S115 : V0 → V0 → Option V6) (k0 : V3 → Int → Option R) (k1 : V3 → Int → Option R) (x0 x1 : Int) : Option R :=
(g92_0 (g92_1 (fun y0 y1 y2 y3 => brB y3 (g92_2 k0 y0 y1 y2 y3) ((g92_4 (g92_5 (g92_14 N S114 S115 ((g92_16 S106 k1))))) y0 y1 y2))) x0 x1)
theorem t92_17 (S106) (S114) (S115) (h106 : (ctr106 S106).holds cl) (h114 : (ctr114 S114).holds cl) (h115 : (ctr115 S115).holds cl) (x0 x1) : exec cl N c92_17 (e48 x0 x1) K = (g92_17 N S106 S114 S115 (fun y0 y1 => K .ret (e52 y0 y1)) (fun y0 y1 => K .ret (e58 y0 y1)) x0 x1) := by
  simp only [c92_17, exec_seq, seqK_normal, seqK_exit, seqK_ret, t92_0, t92_1, c92_3, exec_out, exec_cond', hb92_0, Option.bind_some, brB_true, brB_false, t92_2, exec_ret, exec_skip, kp92_0, kp92_1, t92_4, t92_5, c92_15, exec_block, t92_14 S114 S115 h114 h115, blockK_normal, blockK_ret, blockK_eq, kp92_5, t92_16 S106 h106]
  rfl
theorem rk92_0 (y0 y1) : retK d92 .ret (e52 y0 y1) = some [.v U4 y0, .v U1 y1] := by kernel_rfl
theorem rk92_1 (y0 y1) : retK d92 .ret (e58 y0 y1) = some [.v U4 y0, .v U1 y1] := by kernel_rfl
def g92 (N : Nat) (S106 : V0 → Option V7) (S114 : V0 → V0 → Option V1) (S115 : V0 → V0 → Option V6) (x0 x1 : Int) (k : V3 → Int → Option R) : Option R :=
(g92_17 N S106 S114 S115 k k x0 x1)
theorem gen92 {N : Nat} {cl : Cal} (S106 : V0 → Option V7) (S114 : V0 → V0 → Option V1) (S115 : V0 → V0 → Option V6) (h106 : (ctr106 S106).holds cl) (h114 : (ctr114 S114).holds cl) (h115 : (ctr115 S115).holds cl) (x0 : Int) (x1 : Int) {R : Type} (k : List E → Option R) : exec cl N c92 (params 0 [.v U1 x0, .v U1 x1]) (fun e env => (retK d92 e env).bind k) = g92 N S106 S114 S115 x0 x1 (fun (r0 : V3) (r1 : Int) => k [.v U4 r0, .v U1 r1]) := by
  have e0 : params 0 [.v U1 x0, .v U1 x1] = (e48 x0 x1) := by kernel_rfl
  simp only [c92, e0, t92_17 S106 S114 S115 h106 h114 h115, rk92_0, rk92_1, Option.bind_some]
  rfl
def ctr92 (S : Int → Int → Option V7) : Ctr := { A := Int × Int × Unit, B := V3 × Int, f := 92, enc := fun a => [.v U1 a.1, .v U1 a.2.1], dec := (decC (decV U1) (decC (decV U1) dec0)), S := fun a => S a.1 a.2.1, ent := fun b => [.v U4 b.1, .v U1 b.2], ok := (decV_cons (T := U1) (decV_cons (T := U1) (fun es b h => dec0_some h))) }
def S92 (N : Nat) (x0 : Int) (x1 : Int) : Option V7 := g92 N (S106 N) (S114 N) (S115 N) x0 x1 (fun (r0 : V3) (r1 : Int) => some (r0, r1))
def g64_0 (k0 : Int → Int → V3 → Option R) (x0 x1 : Int) : Option R :=
k0 x0 x1 ([], ())
theorem t64_0 (x0 x1) : exec cl N c64_0 (e48 x0 x1) K = (g64_0 (fun y0 y1 y2 => K .normal (e49 y0 y1 y2)) x0 x1) := by
  kernel_rfl
def g64_1 (k0 : Int → Int → V3 → Bool → Option R) (x0 x1 : Int) (x2 : V3) : Option R :=
brB (decide (x1 < (0 : Int))) (k0 x0 x1 x2 true) (k0 x0 x1 x2 (decide (x1 > x0)))
theorem t64_1 (x0 x1 x2) : exec cl N c64_1 (e49 x0 x1 x2) K = (g64_1 (fun y0 y1 y2 y3 => K .normal (e59 y0 y1 y2 y3)) x0 x1 x2) := by
  kernel_rfl
def g64_2 (S49 : Int → Option V5) (k0 : V3 → Option R) (x0 x1 : Int) (x2 : V3) (x3 : Bool) : Option R :=
(S49 (0 : Int)).bind fun r244 =>
k0 r244
theorem t64_2 (S49) (h49 : (ctr49 S49).holds cl) (x0 x1 x2 x3) : exec cl N c64_2 (e59 x0 x1 x2 x3) K = (g64_2 S49 (fun y0 => K .normal [(4, .loc U4 .no y0)]) x0 x1 x2 x3) := by
  rw [← put_eq h49]
  kernel_rfl
theorem kp64_0 (x0) : keep [0, 1, 4] [(4, .loc U4 .no x0)] = (e60 x0) := by kernel_rfl
theorem kp64_1 (x0 x1 x2 x3) : keep [0, 1, 4] (e59 x0 x1 x2 x3) = (e49 x0 x1 x2) := by kernel_rfl
theorem hb64_0 (x0 x1 x2 x3) : boolOf? (ent (e59 x0 x1 x2 x3) (.t 13)) = some x3 := by kernel_rfl
def g64_6 (S92 : Int → Int → Option V7) (k0 : V3 → Option R) (x0 x1 : Int) (x2 : V3) : Option R :=
(S92 x0 x1).bind fun r246 =>
k0 r246.1
theorem t64_6 (S92) (h92 : (ctr92 S92).holds cl) (x0 x1 x2) : exec cl N c64_6 (e49 x0 x1 x2) K = (g64_6 S92 (fun y0 => exec cl N .ret [(4, .loc U4 .no y0)] K) x0 x1 x2) := by
  rw [← put_eq h92]
  kernel_rfl
def g64_7 (S49 : Int → Option V5) (S92 : Int → Int → Option V7) (k0 : V3 → Option R) (k1 : V3 → Option R) (x0 x1 : Int) : Option R :=
(g64_0 (g64_1 (fun y0 y1 y2 y3 => brB y3 (g64_2 S49 k0 y0 y1 y2 y3) ((g64_6 S92 k1) y0 y1 y2))) x0 x1)
theorem t64_7 (S49) (S92) (h49 : (ctr49 S49).holds cl) (h92 : (ctr92 S92).holds cl) (x0 x1) : exec cl N c64_7 (e48 x0 x1) K = (g64_7 S49 S92 (fun y0 => K .ret (e60 y0)) (fun y0 => K .ret [(4, .loc U4 .no y0)]) x0 x1) := by
  simp only [c64_7, exec_seq, seqK_normal, seqK_exit, seqK_ret, t64_0, t64_1, c64_3, exec_out, exec_cond', hb64_0, Option.bind_some, brB_true, brB_false, t64_2 S49 h49, exec_ret, exec_skip, kp64_0, kp64_1, t64_6 S92 h92]
  rfl
theorem rk64_0 (y0) : retK d64 .ret (e60 y0) = some [.v U4 y0] := by kernel_rfl
theorem rk64_1 (y0) : retK d64 .ret [(4, .loc U4 .no y0)] = some [.v U4 y0] := by kernel_rfl
def g64 (S49 : Int → Option V5) (S92 : Int → Int → Option V7) (x0 x1 : Int) (k : V3 → Option R) : Option R :=
(g64_7 S49 S92 k k x0 x1)
theorem gen64 {N : Nat} {cl : Cal} (S49 : Int → Option V5) (S92 : Int → Int → Option V7) (h49 : (ctr49 S49).holds cl) (h92 : (ctr92 S92).holds cl) (x0 : Int) (x1 : Int) {R : Type} (k : List E → Option R) : exec cl N c64 (params 0 [.v U1 x0, .v U1 x1]) (fun e env => (retK d64 e env).bind k) = g64 S49 S92 x0 x1 (fun (r0 : V3) => k [.v U4 r0]) := by
  have e0 : params 0 [.v U1 x0, .v U1 x1] = (e48 x0 x1) := by kernel_rfl
  simp only [c64, e0, t64_7 S49 S92 h49 h92, rk64_0, rk64_1, Option.bind_some]
  rfl
def ctr64 (S : Int → Int → Option V5) : Ctr := { A := Int × Int × Unit, B := V3, f := 64, enc := fun a => [.v U1 a.1, .v U1 a.2.1], dec := (decC (decV U1) (decC (decV U1) dec0)), S := fun a => S a.1 a.2.1, ent := fun b => [.v U4 b], ok := (decV_cons (T := U1) (decV_cons (T := U1) (fun es b h => dec0_some h))) }
def S64 (N : Nat) (x0 : Int) (x1 : Int) : Option V5 := g64 (S49 N) (S92 N) x0 x1 (fun (r0 : V3) => some (r0))
def g100_2 (k0 : Bool → Option R) (x0 : Int) : Option R :=
brB (decide (x0 < (0 : Int))) (k0 true) (k0 (decide (x0 ≥ (10000 : Int))))
theorem t100_2 (x0) : exec cl N c100_2 [(0, .v U1 x0)] K = (g100_2 (fun y0 => exec cl N .ret [(2, .v .bool y0)] K) x0) := by
  kernel_rfl
def g100_2b (k0 : Bool → Option R) (x0 : Int) : Option R :=
(g100_2 k0 x0)
theorem t100_2b (x0) : exec cl N c100_2 [(0, .v U1 x0)] K = (g100_2b (fun y0 => K .ret [(2, .v .bool y0)]) x0) := by
  simp only [exec_seq, seqK_normal, seqK_exit, seqK_ret, t100_2, exec_ret]
  rfl
theorem rk100_0 (y0) : retK d100 .ret [(2, .v .bool y0)] = some [.v .bool y0] := by kernel_rfl
def g100 (x0 : Int) (k : Bool → Option R) : Option R :=
(g100_2b k x0)
theorem gen100 {N : Nat} {cl : Cal} (x0 : Int) {R : Type} (k : List E → Option R) : exec cl N c100 (params 0 [.v U1 x0]) (fun e env => (retK d100 e env).bind k) = g100 x0 (fun (r0 : Bool) => k [.v .bool r0]) := by
  have e0 : params 0 [.v U1 x0] = [(0, .v U1 x0)] := by kernel_rfl
  simp only [c100, e0, t100_2b, rk100_0, Option.bind_some]
  rfl
def ctr100 (S : Int → Option (Bool)) : Ctr := { A := Int × Unit, B := Bool, f := 100, enc := fun a => [.v U1 a.1], dec := (decC (decV U1) dec0), S := fun a => S a.1, ent := fun b => [.v .bool b], ok := (decV_cons (T := U1) (fun es b h => dec0_some h)) }
def S100 (N : Nat) (x0 : Int) : Option (Bool) := g100 x0 (fun (r0 : Bool) => some (r0))
def g116_0 (k0 : V0 → V8 → Option R) (x0 : V0) (x1 : V8) : Option R :=
k0 x0 x1
theorem t116_0 (x0 x1) : exec cl N c116_0 (e61 x0 x1) K = (g116_0 (fun y0 y1 => K .normal (e61 y0 y1)) x0 x1) := by
  kernel_rfl
def g116_1 (k0 : V0 → V8 → Int → Int → Option R) (x0 : V0) (x1 : V8) : Option R :=
k0 x0 x1 (x0.length : Int) (0 : Int)
theorem t116_1 (x0 x1) : exec cl N c116_1 (e61 x0 x1) K = (g116_1 (fun y0 y1 y2 y3 => K .normal (e62 y0 y1 y2 y3)) x0 x1) := by
  kernel_rfl
theorem kp116_0 (x0 x1 x2 x3) : keep [0, 1, 7, 8] (e62 x0 x1 x2 x3) = (e62 x0 x1 x2 x3) := by kernel_rfl
def g116_2 (k0 : V0 → V8 → Int → Int → Bool → Option R) (x0 : V0) (x1 : V8) (x2 x3 : Int) : Option R :=
k0 x0 x1 x2 x3 (decide (x3 < x2))
theorem t116_2 (x0 x1 x2 x3) : exec cl N c116_2 (e62 x0 x1 x2 x3) K = (g116_2 (fun y0 y1 y2 y3 y4 => K .normal (e63 y0 y1 y2 y3 y4)) x0 x1 x2 x3) := by
  kernel_rfl
theorem kp116_1 (x0 x1 x2 x3 x4) : keep [0, 1, 7, 8] (e63 x0 x1 x2 x3 x4) = (e62 x0 x1 x2 x3) := by kernel_rfl
theorem hb116_0 (x0 x1 x2 x3 x4) : boolOf? (ent (e63 x0 x1 x2 x3 x4) (.t 9)) = some x4 := by kernel_rfl
def g116_8 (k0 : V0 → V8 → Int → Int → Int → Bool → Option R) (x0 : V0) (x1 : V8) (x2 x3 : Int) : Option R :=
if 0 ≤ x3 ∧ x3 < (x0.length : Int) then
(x1 ((x0.getD x3.toNat (0 : Int)), ())).bind fun r265 =>
k0 x0 x1 x3 x2 x3 r265
else none
theorem t116_8 (x0 x1 x2 x3) : exec cl N c116_8 (e62 x0 x1 x2 x3) K = (g116_8 (fun y0 y1 y2 y3 y4 y5 => exec cl N c116_7 (e64 y0 y1 y2 y3 y4 y5) K) x0 x1 x2 x3) := by
  kernel_rfl
def g116_6 (k0 : Int → Option R) (x0 : V0) (x1 : V8) (x2 x3 x4 : Int) (x5 : Bool) : Option R :=
k0 x2
theorem t116_6 (x0 x1 x2 x3 x4 x5) : exec cl N c116_6 (e64 x0 x1 x2 x3 x4 x5) K = (g116_6 (fun y0 => K .normal [(4, .v U1 y0)]) x0 x1 x2 x3 x4 x5) := by
  kernel_rfl
theorem kp116_2 (x0) : keep [0, 1, 4, 7, 8] [(4, .v U1 x0)] = (e65 x0) := by kernel_rfl
theorem kp116_3 (x0 x1 x2 x3 x4 x5) : keep [0, 1, 4, 7, 8] (e64 x0 x1 x2 x3 x4 x5) = (e66 x0 x1 x3 x4) := by kernel_rfl
theorem hb116_1 (x0 x1 x2 x3 x4 x5) : boolOf? (ent (e64 x0 x1 x2 x3 x4 x5) (.t 16)) = some x5 := by kernel_rfl
theorem kp116_4 (x0) : keep [0, 1, 4, 7, 8] (e65 x0) = (e65 x0) := by kernel_rfl
theorem kp116_5 (x0 x1 x2 x3) : keep [0, 1, 4, 7, 8] (e66 x0 x1 x2 x3) = (e66 x0 x1 x2 x3) := by kernel_rfl
def g116_10 (k0 : V0 → V8 → Int → Int → Option R) (x0 : V0) (x1 : V8) (x2 x3 : Int) : Option R :=
k0 x0 x1 x2 (IntKind.i64.wrap (x3 + (1 : Int)))
theorem t116_10 (x0 x1 x2 x3) : exec cl N c116_10 (e66 x0 x1 x2 x3) K = (g116_10 (fun y0 y1 y2 y3 => K .normal (e62 y0 y1 y2 y3)) x0 x1 x2 x3) := by
  kernel_rfl
def g116_11 (k0 : Int → Option R) (k1 : V0 → V8 → Int → Int → Option R) (k2 : V0 → V8 → Int → Int → Option R) (x0 : V0) (x1 : V8) (x2 x3 : Int) : Option R :=
(g116_2 (fun y0 y1 y2 y3 y4 => brB y4 ((g116_8 (fun y0 y1 y2 y3 y4 y5 => brB y5 (g116_6 k0 y0 y1 y2 y3 y4 y5) (((g116_10 k1)) y0 y1 y3 y4))) y0 y1 y2 y3) (k2 y0 y1 y2 y3)) x0 x1 x2 x3)
theorem t116_11 (x0 x1 x2 x3) : exec cl N c116_11 (e62 x0 x1 x2 x3) K = (g116_11 (fun y0 => K .ret (e65 y0)) (fun y0 y1 y2 y3 => K .normal (e62 y0 y1 y2 y3)) (fun y0 y1 y2 y3 => K (.exit 0) (e62 y0 y1 y2 y3)) x0 x1 x2 x3) := by
  simp only [c116_11, exec_seq, seqK_normal, seqK_exit, seqK_ret, t116_2, c116_3, exec_out, exec_cond', hb116_0, Option.bind_some, brB_true, brB_false, exec_skip, exec_exit, kp116_1, c116_9, exec_block, t116_8, c116_7, hb116_1, t116_6, exec_ret, kp116_2, kp116_3, blockK_normal, blockK_ret, blockK_eq, kp116_4, kp116_5, t116_10]
  rfl
def l116_12 {R : Type} (k0 : Int → Option R) (k1 : V0 → V8 → Int → Int → Option R) : Nat → V0 → V8 → Int → Int → Option R
  | 0, _, _, _, _ => none
  | m + 1, x0, x1, x2, x3 => (g116_11 k0 (l116_12 k0 k1 m) k1 x0 x1 x2 x3)
theorem lt116_12 : ∀ (m) (x0 x1 x2 x3), iter [0, 1, 7, 8] (fun env K => exec cl N c116_11 env K) K m (e62 x0 x1 x2 x3) = l116_12 (fun y0 => K .ret (e65 y0)) (fun y0 y1 y2 y3 => K (.exit 0) (e62 y0 y1 y2 y3)) m x0 x1 x2 x3 := by
  intro m
  induction m with
  | zero => intros; rfl
  | succ m ih =>
    intro x0 x1 x2 x3
    simp only [iter_succ, t116_11, loopK_normal, loopK_exit, loopK_ret, kp116_0, ih]
    rfl
theorem kp116_6 (x0) : keep [4] (e65 x0) = [(4, .v U1 x0)] := by kernel_rfl
theorem kp116_7 (x0 x1 x2 x3) : keep [4] (e62 x0 x1 x2 x3) = [(4, .dead)] := by kernel_rfl
def g116_12 (N : Nat) (k0 : Int → Option R) (k1 : Option R) (x0 : V0) (x1 : V8) (x2 x3 : Int) : Option R :=
l116_12 k0 (fun y0 y1 y2 y3 => k1) N x0 x1 x2 x3
theorem t116_12 (x0 x1 x2 x3) : exec cl N c116_12 (e62 x0 x1 x2 x3) K = (g116_12 N (fun y0 => K .ret [(4, .v U1 y0)]) (K (.exit 0) [(4, .dead)]) x0 x1 x2 x3) := by
  simp only [c116_12, exec_out, exec_loop, kp116_0, lt116_12, kp116_6, kp116_7]
  rfl
theorem kp116_8 (x0) : keep [4] [(4, .v U1 x0)] = [(4, .v U1 x0)] := by kernel_rfl
theorem kp116_9 : keep [4] [(4, .dead)] = [(4, .dead)] := by kernel_rfl
def g116_14 (k0 : Int → Option R) : Option R :=
k0 (-1 : Int)
theorem t116_14 : exec cl N c116_14 [(4, .dead)] K = (g116_14 (fun y0 => K .normal [(4, .v U1 y0)])) := by
  kernel_rfl
def g116_15 (N : Nat) (k0 : Int → Option R) (x0 : V0) (x1 : V8) : Option R :=
(g116_0 (g116_1 (g116_12 N k0 (g116_14 k0))) x0 x1)
theorem t116_15 (x0 x1) : exec cl N c116_15 (e61 x0 x1) K = (g116_15 N (fun y0 => K .ret [(4, .v U1 y0)]) x0 x1) := by
  simp only [c116_15, exec_seq, seqK_normal, seqK_exit, seqK_ret, t116_0, t116_1, c116_13, exec_out, exec_block, t116_12, blockK_normal, blockK_ret, blockK_eq, kp116_8, kp116_9, t116_14, exec_ret]
  rfl
theorem rk116_0 (y0) : retK d116 .ret [(4, .v U1 y0)] = some [.v U1 y0] := by kernel_rfl
def g116 (N : Nat) (x0 : V0) (x1 : V8) (k : Int → Option R) : Option R :=
(g116_15 N k x0 x1)
theorem gen116 {N : Nat} {cl : Cal} (x0 : V0) (x1 : V8) {R : Type} (k : List E → Option R) : exec cl N c116 (params 0 [.v U2 x0, .v U5 x1]) (fun e env => (retK d116 e env).bind k) = g116 N x0 x1 (fun (r0 : Int) => k [.v U1 r0]) := by
  have e0 : params 0 [.v U2 x0, .v U5 x1] = (e61 x0 x1) := by kernel_rfl
  simp only [c116, e0, t116_15, rk116_0, Option.bind_some]
  rfl
def ctr116 (S : V0 → V8 → Option (Int)) : Ctr := { A := V0 × V8 × Unit, B := Int, f := 116, enc := fun a => [.v U2 a.1, .v U5 a.2.1], dec := (decC (decV U2) (decC (decV U5) dec0)), S := fun a => S a.1 a.2.1, ent := fun b => [.v U1 b], ok := (decV_cons (T := U2) (decV_cons (T := U5) (fun es b h => dec0_some h))) }
def S116 (N : Nat) (x0 : V0) (x1 : V8) : Option (Int) := g116 N x0 x1 (fun (r0 : Int) => some (r0))
def g99_2 (S116 : V0 → V8 → Option (Int)) (k0 : Bool → Option R) (x0 : V0) (x1 : V8) : Option R :=
(S116 x0 x1).bind fun r269 =>
k0 (decide (r269 ≥ (0 : Int)))
theorem t99_2 (S116) (h116 : (ctr116 S116).holds cl) (x0 x1) : exec cl N c99_2 (e61 x0 x1) K = (g99_2 S116 (fun y0 => exec cl N .ret [(4, .v .bool y0)] K) x0 x1) := by
  rw [← put_eq h116]
  kernel_rfl
def g99_2b (S116 : V0 → V8 → Option (Int)) (k0 : Bool → Option R) (x0 : V0) (x1 : V8) : Option R :=
(g99_2 S116 k0 x0 x1)
theorem t99_2b (S116) (h116 : (ctr116 S116).holds cl) (x0 x1) : exec cl N c99_2 (e61 x0 x1) K = (g99_2b S116 (fun y0 => K .ret [(4, .v .bool y0)]) x0 x1) := by
  simp only [exec_seq, seqK_normal, seqK_exit, seqK_ret, t99_2 S116 h116, exec_ret]
  rfl
theorem rk99_0 (y0) : retK d99 .ret [(4, .v .bool y0)] = some [.v .bool y0] := by kernel_rfl
def g99 (S116 : V0 → V8 → Option (Int)) (x0 : V0) (x1 : V8) (k : Bool → Option R) : Option R :=
(g99_2b S116 k x0 x1)
theorem gen99 {N : Nat} {cl : Cal} (S116 : V0 → V8 → Option (Int)) (h116 : (ctr116 S116).holds cl) (x0 : V0) (x1 : V8) {R : Type} (k : List E → Option R) : exec cl N c99 (params 0 [.v U2 x0, .v U5 x1]) (fun e env => (retK d99 e env).bind k) = g99 S116 x0 x1 (fun (r0 : Bool) => k [.v .bool r0]) := by
  have e0 : params 0 [.v U2 x0, .v U5 x1] = (e61 x0 x1) := by kernel_rfl
  simp only [c99, e0, t99_2b S116 h116, rk99_0, Option.bind_some]
  rfl
def ctr99 (S : V0 → V8 → Option (Bool)) : Ctr := { A := V0 × V8 × Unit, B := Bool, f := 99, enc := fun a => [.v U2 a.1, .v U5 a.2.1], dec := (decC (decV U2) (decC (decV U5) dec0)), S := fun a => S a.1 a.2.1, ent := fun b => [.v .bool b], ok := (decV_cons (T := U2) (decV_cons (T := U5) (fun es b h => dec0_some h))) }
def S99 (N : Nat) (x0 : V0) (x1 : V8) : Option (Bool) := g99 (S116 N) x0 x1 (fun (r0 : Bool) => some (r0))
def g75_6 (k0 : V0 → Option R) (x0 : V3) : Option R :=
k0 x0.1
theorem t75_6 (x0) : exec cl N c75_6 [(0, .v U4 x0)] K = (g75_6 (fun y0 => exec cl N (.seq (.seq c75_2 c75_4) (.seq c75_5 .ret)) [(3, .v U2 y0)] K) x0) := by
  kernel_rfl
def g75_2 (k0 : V0 → Bool → Option R) (x0 : V0) : Option R :=
brB (decide ((x0.length : Int) > (200 : Int))) (k0 x0 true) (brB (decide ((x0.length : Int) > (0 : Int))) (let v274 : Int := (IntKind.i64.wrap ((x0.length : Int) - (1 : Int)))
if 0 ≤ v274 ∧ v274 < (x0.length : Int) then
k0 x0 ((x0.getD v274.toNat (0 : Int)) == (0 : Int))
else none) (k0 x0 false))
theorem t75_2 (x0) : exec cl N c75_2 [(3, .v U2 x0)] K = (g75_2 (fun y0 y1 => K .normal (e67 y0 y1)) x0) := by
  kernel_rfl
def g75_3 (k0 : Bool → Option R) (x0 : V0) (x1 : Bool) : Option R :=
k0 false
theorem t75_3 (x0 x1) : exec cl N c75_3 (e67 x0 x1) K = (g75_3 (fun y0 => K .normal [(2, .v .bool y0)]) x0 x1) := by
  kernel_rfl
theorem kp75_0 (x0) : keep [2, 3] [(2, .v .bool x0)] = [(2, .v .bool x0), (3, .dead)] := by kernel_rfl
theorem kp75_1 (x0 x1) : keep [2, 3] (e67 x0 x1) = [(2, .dead), (3, .v U2 x0)] := by kernel_rfl
theorem hb75_0 (x0 x1) : boolOf? (ent (e67 x0 x1) (.t 22)) = some x1 := by kernel_rfl
def g75_5 (S99 : V0 → V8 → Option (Bool)) (S100 : Int → Option (Bool)) (k0 : Bool → Option R) (x0 : V0) : Option R :=
(S99 x0 (fun (x276 : V2) => ((S100 x276.1).bind fun b277 => some [.v .bool b277]).bind (unE .bool))).bind fun r278 =>
k0 (!r278)
theorem t75_5 (S99) (S100) (h99 : (ctr99 S99).holds cl) (h100 : (ctr100 S100).holds cl) (x0) : exec cl N c75_5 [(2, .dead), (3, .v U2 x0)] K = (g75_5 S99 S100 (fun y0 => K .normal [(2, .v .bool y0)]) x0) := by
  rw [← put_eq h99]
  rw [← put_eq h100]
  kernel_rfl
def g75_6b (S99 : V0 → V8 → Option (Bool)) (S100 : Int → Option (Bool)) (k0 : Bool → Option R) (k1 : Bool → Option R) (x0 : V3) : Option R :=
(g75_6 (g75_2 (fun y0 y1 => brB y1 (g75_3 k0 y0 y1) ((g75_5 S99 S100 k1) y0))) x0)
theorem t75_6b (S99) (S100) (h99 : (ctr99 S99).holds cl) (h100 : (ctr100 S100).holds cl) (x0) : exec cl N c75_6 [(0, .v U4 x0)] K = (g75_6b S99 S100 (fun y0 => K .ret [(2, .v .bool y0), (3, .dead)]) (fun y0 => K .ret [(2, .v .bool y0)]) x0) := by
  simp only [exec_seq, seqK_normal, seqK_exit, seqK_ret, t75_6, t75_2, c75_4, exec_out, exec_cond', hb75_0, Option.bind_some, brB_true, brB_false, t75_3, exec_ret, exec_skip, kp75_0, kp75_1, t75_5 S99 S100 h99 h100]
  rfl
theorem rk75_0 (y0) : retK d75 .ret [(2, .v .bool y0), (3, .dead)] = some [.v .bool y0] := by kernel_rfl
theorem rk75_1 (y0) : retK d75 .ret [(2, .v .bool y0)] = some [.v .bool y0] := by kernel_rfl
def g75 (S99 : V0 → V8 → Option (Bool)) (S100 : Int → Option (Bool)) (x0 : V3) (k : Bool → Option R) : Option R :=
(g75_6b S99 S100 k k x0)
theorem gen75 {N : Nat} {cl : Cal} (S99 : V0 → V8 → Option (Bool)) (S100 : Int → Option (Bool)) (h99 : (ctr99 S99).holds cl) (h100 : (ctr100 S100).holds cl) (x0 : V3) {R : Type} (k : List E → Option R) : exec cl N c75 (params 0 [.v U4 x0]) (fun e env => (retK d75 e env).bind k) = g75 S99 S100 x0 (fun (r0 : Bool) => k [.v .bool r0]) := by
  have e0 : params 0 [.v U4 x0] = [(0, .v U4 x0)] := by kernel_rfl
  simp only [c75, e0, t75_6b S99 S100 h99 h100, rk75_0, rk75_1, Option.bind_some]
  rfl
def ctr75 (S : V3 → Option (Bool)) : Ctr := { A := V3 × Unit, B := Bool, f := 75, enc := fun a => [.v U4 a.1], dec := (decC (decV U4) dec0), S := fun a => S a.1, ent := fun b => [.v .bool b], ok := (decV_cons (T := U4) (fun es b h => dec0_some h)) }
def S75 (N : Nat) (x0 : V3) : Option (Bool) := g75 (S99 N) (S100 N) x0 (fun (r0 : Bool) => some (r0))
def g103_0 (k0 : V3 → V3 → V3 → Option R) (x0 x1 : V3) : Option R :=
k0 x0 x1 ([], ())
theorem t103_0 (x0 x1) : exec cl N c103_0 (e68 x0 x1) K = (g103_0 (fun y0 y1 y2 => K .normal (e69 y0 y1 y2)) x0 x1) := by
  kernel_rfl
def g103_1 (S75 : V3 → Option (Bool)) (k0 : V3 → V3 → V3 → Bool → Option R) (x0 x1 x2 : V3) : Option R :=
(S75 x0).bind fun r283 =>
brB (!r283) (k0 x0 x1 x2 true) ((S75 x1).bind fun r284 =>
k0 x0 x1 x2 (!r284))
theorem t103_1 (S75) (h75 : (ctr75 S75).holds cl) (x0 x1 x2) : exec cl N c103_1 (e69 x0 x1 x2) K = (g103_1 S75 (fun y0 y1 y2 y3 => K .normal (e70 y0 y1 y2 y3)) x0 x1 x2) := by
  rw [← put_eq h75]
  kernel_rfl
def g103_2 (k0 : V3 → Int → Option R) (x0 x1 x2 : V3) (x3 : Bool) : Option R :=
k0 ([], ()) (1 : Int)
theorem t103_2 (x0 x1 x2 x3) : exec cl N c103_2 (e70 x0 x1 x2 x3) K = (g103_2 (fun y0 y1 => K .normal (e51 y0 y1)) x0 x1 x2 x3) := by
  kernel_rfl
theorem kp103_0 (x0 x1) : keep [2, 3, 4, 5] (e51 x0 x1) = (e71 x0 x1) := by kernel_rfl
theorem kp103_1 (x0 x1 x2 x3) : keep [2, 3, 4, 5] (e70 x0 x1 x2 x3) = (e72 x0 x1 x2) := by kernel_rfl
theorem hb103_0 (x0 x1 x2 x3) : boolOf? (ent (e70 x0 x1 x2 x3) (.t 13)) = some x3 := by kernel_rfl
def g103_4 (S106 : V0 → Option V7) (S114 : V0 → V0 → Option V1) (k0 : V3 → Int → Option R) (x0 x1 x2 : V3) : Option R :=
(S114 x0.1 x1.1).bind fun r285 =>
(S106 r285).bind fun r286 =>
k0 r286.1 r286.2
theorem t103_4 (S106) (S114) (h106 : (ctr106 S106).holds cl) (h114 : (ctr114 S114).holds cl) (x0 x1 x2) : exec cl N c103_4 (e72 x0 x1 x2) K = (g103_4 S106 S114 (fun y0 y1 => K .normal (e58 y0 y1)) x0 x1 x2) := by
  rw [← put_eq h106]
  rw [← put_eq h114]
  kernel_rfl
def g103_5 (S75 : V3 → Option (Bool)) (S106 : V0 → Option V7) (S114 : V0 → V0 → Option V1) (k0 : V3 → Int → Option R) (k1 : V3 → Int → Option R) (x0 x1 : V3) : Option R :=
(g103_0 (g103_1 S75 (fun y0 y1 y2 y3 => brB y3 (g103_2 k0 y0 y1 y2 y3) ((g103_4 S106 S114 k1) y0 y1 y2))) x0 x1)
theorem t103_5 (S75) (S106) (S114) (h75 : (ctr75 S75).holds cl) (h106 : (ctr106 S106).holds cl) (h114 : (ctr114 S114).holds cl) (x0 x1) : exec cl N c103_5 (e68 x0 x1) K = (g103_5 S75 S106 S114 (fun y0 y1 => K .ret (e71 y0 y1)) (fun y0 y1 => K .ret (e58 y0 y1)) x0 x1) := by
  simp only [c103_5, exec_seq, seqK_normal, seqK_exit, seqK_ret, t103_0, t103_1 S75 h75, c103_3, exec_out, exec_cond', hb103_0, Option.bind_some, brB_true, brB_false, t103_2, exec_ret, exec_skip, kp103_0, kp103_1, t103_4 S106 S114 h106 h114]
  rfl
theorem rk103_0 (y0 y1) : retK d103 .ret (e71 y0 y1) = some [.v U4 y0, .v U1 y1] := by kernel_rfl
theorem rk103_1 (y0 y1) : retK d103 .ret (e58 y0 y1) = some [.v U4 y0, .v U1 y1] := by kernel_rfl
def g103 (S75 : V3 → Option (Bool)) (S106 : V0 → Option V7) (S114 : V0 → V0 → Option V1) (x0 x1 : V3) (k : V3 → Int → Option R) : Option R :=
(g103_5 S75 S106 S114 k k x0 x1)
theorem gen103 {N : Nat} {cl : Cal} (S75 : V3 → Option (Bool)) (S106 : V0 → Option V7) (S114 : V0 → V0 → Option V1) (h75 : (ctr75 S75).holds cl) (h106 : (ctr106 S106).holds cl) (h114 : (ctr114 S114).holds cl) (x0 : V3) (x1 : V3) {R : Type} (k : List E → Option R) : exec cl N c103 (params 0 [.v U4 x0, .v U4 x1]) (fun e env => (retK d103 e env).bind k) = g103 S75 S106 S114 x0 x1 (fun (r0 : V3) (r1 : Int) => k [.v U4 r0, .v U1 r1]) := by
  have e0 : params 0 [.v U4 x0, .v U4 x1] = (e68 x0 x1) := by kernel_rfl
  simp only [c103, e0, t103_5 S75 S106 S114 h75 h106 h114, rk103_0, rk103_1, Option.bind_some]
  rfl
def ctr103 (S : V3 → V3 → Option V7) : Ctr := { A := V3 × V3 × Unit, B := V3 × Int, f := 103, enc := fun a => [.v U4 a.1, .v U4 a.2.1], dec := (decC (decV U4) (decC (decV U4) dec0)), S := fun a => S a.1 a.2.1, ent := fun b => [.v U4 b.1, .v U1 b.2], ok := (decV_cons (T := U4) (decV_cons (T := U4) (fun es b h => dec0_some h))) }
def S103 (N : Nat) (x0 : V3) (x1 : V3) : Option V7 := g103 (S75 N) (S106 N) (S114 N) x0 x1 (fun (r0 : V3) (r1 : Int) => some (r0, r1))
def g78_3 (S103 : V3 → V3 → Option V7) (k0 : V3 → Option R) (x0 x1 : V3) : Option R :=
(S103 x0 x1).bind fun r290 =>
k0 r290.1
theorem t78_3 (S103) (h103 : (ctr103 S103).holds cl) (x0 x1) : exec cl N c78_3 (e68 x0 x1) K = (g78_3 S103 (fun y0 => exec cl N .ret [(4, .loc U4 .no y0)] K) x0 x1) := by
  rw [← put_eq h103]
  kernel_rfl
def g78_3b (S103 : V3 → V3 → Option V7) (k0 : V3 → Option R) (x0 x1 : V3) : Option R :=
(g78_3 S103 k0 x0 x1)
theorem t78_3b (S103) (h103 : (ctr103 S103).holds cl) (x0 x1) : exec cl N c78_3 (e68 x0 x1) K = (g78_3b S103 (fun y0 => K .ret [(4, .loc U4 .no y0)]) x0 x1) := by
  simp only [exec_seq, seqK_normal, seqK_exit, seqK_ret, t78_3 S103 h103, exec_ret]
  rfl
theorem rk78_0 (y0) : retK d78 .ret [(4, .loc U4 .no y0)] = some [.v U4 y0] := by kernel_rfl
def g78 (S103 : V3 → V3 → Option V7) (x0 x1 : V3) (k : V3 → Option R) : Option R :=
(g78_3b S103 k x0 x1)
theorem gen78 {N : Nat} {cl : Cal} (S103 : V3 → V3 → Option V7) (h103 : (ctr103 S103).holds cl) (x0 : V3) (x1 : V3) {R : Type} (k : List E → Option R) : exec cl N c78 (params 0 [.v U4 x0, .v U4 x1]) (fun e env => (retK d78 e env).bind k) = g78 S103 x0 x1 (fun (r0 : V3) => k [.v U4 r0]) := by
  have e0 : params 0 [.v U4 x0, .v U4 x1] = (e68 x0 x1) := by kernel_rfl
  simp only [c78, e0, t78_3b S103 h103, rk78_0, Option.bind_some]
  rfl
def ctr78 (S : V3 → V3 → Option V5) : Ctr := { A := V3 × V3 × Unit, B := V3, f := 78, enc := fun a => [.v U4 a.1, .v U4 a.2.1], dec := (decC (decV U4) (decC (decV U4) dec0)), S := fun a => S a.1 a.2.1, ent := fun b => [.v U4 b], ok := (decV_cons (T := U4) (decV_cons (T := U4) (fun es b h => dec0_some h))) }
def S78 (N : Nat) (x0 : V3) (x1 : V3) : Option V5 := g78 (S103 N) x0 x1 (fun (r0 : V3) => some (r0))
def g63_2 (S64 : Int → Int → Option V5) (S78 : V3 → V3 → Option V5) (k0 : V3 → Option R) (x0 x1 x2 x3 : Int) : Option R :=
(S64 x1 x3).bind fun r292 =>
(S64 (IntKind.i64.wrap (x0 - x1)) (IntKind.i64.wrap (x2 - x3))).bind fun r295 =>
(S78 r292 r295).bind fun r296 =>
k0 r296
theorem t63_2 (S64) (S78) (h64 : (ctr64 S64).holds cl) (h78 : (ctr78 S78).holds cl) (x0 x1 x2 x3) : exec cl N c63_2 (e0 x0 x1 x2 x3) K = (g63_2 S64 S78 (fun y0 => exec cl N .ret [(8, .loc U4 .no y0)] K) x0 x1 x2 x3) := by
  rw [← put_eq h64]
  rw [← put_eq h78]
  kernel_rfl
def g63_2b (S64 : Int → Int → Option V5) (S78 : V3 → V3 → Option V5) (k0 : V3 → Option R) (x0 x1 x2 x3 : Int) : Option R :=
(g63_2 S64 S78 k0 x0 x1 x2 x3)
theorem t63_2b (S64) (S78) (h64 : (ctr64 S64).holds cl) (h78 : (ctr78 S78).holds cl) (x0 x1 x2 x3) : exec cl N c63_2 (e0 x0 x1 x2 x3) K = (g63_2b S64 S78 (fun y0 => K .ret [(8, .loc U4 .no y0)]) x0 x1 x2 x3) := by
  simp only [exec_seq, seqK_normal, seqK_exit, seqK_ret, t63_2 S64 S78 h64 h78, exec_ret]
  rfl
theorem rk63_0 (y0) : retK d63 .ret [(8, .loc U4 .no y0)] = some [.v U4 y0] := by kernel_rfl
def g63 (S64 : Int → Int → Option V5) (S78 : V3 → V3 → Option V5) (x0 x1 x2 x3 : Int) (k : V3 → Option R) : Option R :=
(g63_2b S64 S78 k x0 x1 x2 x3)
theorem gen63 {N : Nat} {cl : Cal} (S64 : Int → Int → Option V5) (S78 : V3 → V3 → Option V5) (h64 : (ctr64 S64).holds cl) (h78 : (ctr78 S78).holds cl) (x0 : Int) (x1 : Int) (x2 : Int) (x3 : Int) {R : Type} (k : List E → Option R) : exec cl N c63 (params 0 [.v U1 x0, .v U1 x1, .v U1 x2, .v U1 x3]) (fun e env => (retK d63 e env).bind k) = g63 S64 S78 x0 x1 x2 x3 (fun (r0 : V3) => k [.v U4 r0]) := by
  have e0 : params 0 [.v U1 x0, .v U1 x1, .v U1 x2, .v U1 x3] = (e0 x0 x1 x2 x3) := by kernel_rfl
  simp only [c63, e0, t63_2b S64 S78 h64 h78, rk63_0, Option.bind_some]
  rfl
def ctr63 (S : Int → Int → Int → Int → Option V5) : Ctr := { A := Int × Int × Int × Int × Unit, B := V3, f := 63, enc := fun a => [.v U1 a.1, .v U1 a.2.1, .v U1 a.2.2.1, .v U1 a.2.2.2.1], dec := (decC (decV U1) (decC (decV U1) (decC (decV U1) (decC (decV U1) dec0)))), S := fun a => S a.1 a.2.1 a.2.2.1 a.2.2.2.1, ent := fun b => [.v U4 b], ok := (decV_cons (T := U1) (decV_cons (T := U1) (decV_cons (T := U1) (decV_cons (T := U1) (fun es b h => dec0_some h))))) }
def S63 (N : Nat) (x0 : Int) (x1 : Int) (x2 : Int) (x3 : Int) : Option V5 := g63 (S64 N) (S78 N) x0 x1 x2 x3 (fun (r0 : V3) => some (r0))
def g76_2 (k0 : Bool → Option R) (x0 : V3) : Option R :=
k0 ((x0.1.length : Int) == (0 : Int))
theorem t76_2 (x0) : exec cl N c76_2 [(0, .v U4 x0)] K = (g76_2 (fun y0 => exec cl N .ret [(2, .v .bool y0)] K) x0) := by
  kernel_rfl
def g76_2b (k0 : Bool → Option R) (x0 : V3) : Option R :=
(g76_2 k0 x0)
theorem t76_2b (x0) : exec cl N c76_2 [(0, .v U4 x0)] K = (g76_2b (fun y0 => K .ret [(2, .v .bool y0)]) x0) := by
  simp only [exec_seq, seqK_normal, seqK_exit, seqK_ret, t76_2, exec_ret]
  rfl
theorem rk76_0 (y0) : retK d76 .ret [(2, .v .bool y0)] = some [.v .bool y0] := by kernel_rfl
def g76 (x0 : V3) (k : Bool → Option R) : Option R :=
(g76_2b k x0)
theorem gen76 {N : Nat} {cl : Cal} (x0 : V3) {R : Type} (k : List E → Option R) : exec cl N c76 (params 0 [.v U4 x0]) (fun e env => (retK d76 e env).bind k) = g76 x0 (fun (r0 : Bool) => k [.v .bool r0]) := by
  have e0 : params 0 [.v U4 x0] = [(0, .v U4 x0)] := by kernel_rfl
  simp only [c76, e0, t76_2b, rk76_0, Option.bind_some]
  rfl
def ctr76 (S : V3 → Option (Bool)) : Ctr := { A := V3 × Unit, B := Bool, f := 76, enc := fun a => [.v U4 a.1], dec := (decC (decV U4) dec0), S := fun a => S a.1, ent := fun b => [.v .bool b], ok := (decV_cons (T := U4) (fun es b h => dec0_some h)) }
def S76 (N : Nat) (x0 : V3) : Option (Bool) := g76 x0 (fun (r0 : Bool) => some (r0))
def g101_0 (k0 : V3 → V3 → V3 → Option R) (x0 x1 : V3) : Option R :=
k0 x0 x1 ([], ())
theorem t101_0 (x0 x1) : exec cl N c101_0 (e68 x0 x1) K = (g101_0 (fun y0 y1 y2 => K .normal (e69 y0 y1 y2)) x0 x1) := by
  kernel_rfl
def g101_1 (S75 : V3 → Option (Bool)) (k0 : V3 → V3 → V3 → Bool → Option R) (x0 x1 x2 : V3) : Option R :=
(S75 x0).bind fun r314 =>
brB (!r314) (k0 x0 x1 x2 true) ((S75 x1).bind fun r315 =>
k0 x0 x1 x2 (!r315))
theorem t101_1 (S75) (h75 : (ctr75 S75).holds cl) (x0 x1 x2) : exec cl N c101_1 (e69 x0 x1 x2) K = (g101_1 S75 (fun y0 y1 y2 y3 => K .normal (e73 y0 y1 y2 y3)) x0 x1 x2) := by
  rw [← put_eq h75]
  kernel_rfl
def g101_2 (k0 : V3 → Int → Option R) (x0 x1 x2 : V3) (x3 : Bool) : Option R :=
k0 ([], ()) (1 : Int)
theorem t101_2 (x0 x1 x2 x3) : exec cl N c101_2 (e73 x0 x1 x2 x3) K = (g101_2 (fun y0 y1 => K .normal (e51 y0 y1)) x0 x1 x2 x3) := by
  kernel_rfl
theorem kp101_0 (x0 x1) : keep [2, 3, 4, 5] (e51 x0 x1) = (e71 x0 x1) := by kernel_rfl
theorem kp101_1 (x0 x1 x2 x3) : keep [2, 3, 4, 5] (e73 x0 x1 x2 x3) = (e72 x0 x1 x2) := by kernel_rfl
theorem hb101_0 (x0 x1 x2 x3) : boolOf? (ent (e73 x0 x1 x2 x3) (.t 17)) = some x3 := by kernel_rfl
def g101_4 (S117 : V0 → Option V1) (k0 : V3 → V0 → V0 → Option R) (x0 x1 x2 : V3) : Option R :=
(S117 x0.1).bind fun r316 =>
(S117 x1.1).bind fun r317 =>
k0 x2 r316 r317
theorem t101_4 (S117) (h117 : (ctr117 S117).holds cl) (x0 x1 x2) : exec cl N c101_4 (e72 x0 x1 x2) K = (g101_4 S117 (fun y0 y1 y2 => K .normal (e74 y0 y1 y2)) x0 x1 x2) := by
  rw [← put_eq h117]
  kernel_rfl
theorem kp101_2 (x0 x1 x2) : keep [4, 6, 7] (e74 x0 x1 x2) = (e74 x0 x1 x2) := by kernel_rfl
def g101_5 (k0 : V3 → V0 → V0 → Bool → Option R) (x0 : V3) (x1 x2 : V0) : Option R :=
k0 x0 x1 x2 (decide ((x2.length : Int) > (0 : Int)))
theorem t101_5 (x0 x1 x2) : exec cl N c101_5 (e74 x0 x1 x2) K = (g101_5 (fun y0 y1 y2 y3 => K .normal (e75 y0 y1 y2 y3)) x0 x1 x2) := by
  kernel_rfl
theorem kp101_3 (x0 x1 x2 x3) : keep [4, 6, 7] (e75 x0 x1 x2 x3) = (e74 x0 x1 x2) := by kernel_rfl
theorem hb101_1 (x0 x1 x2 x3) : boolOf? (ent (e75 x0 x1 x2 x3) (.t 27)) = some x3 := by kernel_rfl
def g101_9 (S115 : V0 → V0 → Option V6) (k0 : V3 → V0 → V0 → Option R) (x0 : V3) (x1 x2 : V0) : Option R :=
(S115 x1 x2).bind fun r320 =>
k0 x0 x2 r320.2
theorem t101_9 (S115) (h115 : (ctr115 S115).holds cl) (x0 x1 x2) : exec cl N c101_9 (e74 x0 x1 x2) K = (g101_9 S115 (fun y0 y1 y2 => K .normal (e74 y0 y1 y2)) x0 x1 x2) := by
  rw [← put_eq h115]
  kernel_rfl
def g101_11 (S115 : V0 → V0 → Option V6) (k0 : V3 → V0 → V0 → Option R) (k1 : V3 → V0 → V0 → Option R) (x0 : V3) (x1 x2 : V0) : Option R :=
(g101_5 (fun y0 y1 y2 y3 => brB y3 ((g101_9 S115 k0) y0 y1 y2) (k1 y0 y1 y2)) x0 x1 x2)
theorem t101_11 (S115) (h115 : (ctr115 S115).holds cl) (x0 x1 x2) : exec cl N c101_11 (e74 x0 x1 x2) K = (g101_11 S115 (fun y0 y1 y2 => K .normal (e74 y0 y1 y2)) (fun y0 y1 y2 => K (.exit 0) (e74 y0 y1 y2)) x0 x1 x2) := by
  simp only [c101_11, exec_seq, seqK_normal, seqK_exit, seqK_ret, t101_5, c101_6, exec_out, exec_cond', hb101_1, Option.bind_some, brB_true, brB_false, exec_skip, exec_exit, kp101_3, c101_10, exec_block, t101_9 S115 h115, blockK_normal, blockK_ret, blockK_eq, kp101_2]
  rfl
def l101_12 {R : Type} (S115 : V0 → V0 → Option V6) (k0 : V3 → V0 → V0 → Option R) : Nat → V3 → V0 → V0 → Option R
  | 0, _, _, _ => none
  | m + 1, x0, x1, x2 => (g101_11 S115 (l101_12 S115 k0 m) k0 x0 x1 x2)
theorem lt101_12 (S115) (h115 : (ctr115 S115).holds cl) : ∀ (m) (x0 x1 x2), iter [4, 6, 7] (fun env K => exec cl N c101_11 env K) K m (e74 x0 x1 x2) = l101_12 S115 (fun y0 y1 y2 => K (.exit 0) (e74 y0 y1 y2)) m x0 x1 x2 := by
  intro m
  induction m with
  | zero => intros; rfl
  | succ m ih =>
    intro x0 x1 x2
    simp only [iter_succ, t101_11 S115 h115, loopK_normal, loopK_exit, loopK_ret, kp101_2, ih]
    rfl
theorem kp101_4 (x0 x1 x2) : keep [4, 6] (e74 x0 x1 x2) = (e57 x0 x1) := by kernel_rfl
def g101_12 (N : Nat) (S115 : V0 → V0 → Option V6) (k0 : V3 → V0 → Option R) (x0 : V3) (x1 x2 : V0) : Option R :=
l101_12 S115 (fun y0 y1 y2 => k0 y0 y1) N x0 x1 x2
theorem t101_12 (S115) (h115 : (ctr115 S115).holds cl) (x0 x1 x2) : exec cl N c101_12 (e74 x0 x1 x2) K = (g101_12 N S115 (fun y0 y1 => K (.exit 0) (e57 y0 y1)) x0 x1 x2) := by
  simp only [c101_12, exec_out, exec_loop, kp101_2, lt101_12 S115 h115, kp101_4]
  rfl
theorem kp101_5 (x0 x1) : keep [4, 6] (e57 x0 x1) = (e57 x0 x1) := by kernel_rfl
def g101_14 (S105 : V0 → Option V5) (k0 : V3 → Int → Option R) (x0 : V3) (x1 : V0) : Option R :=
(S105 x1).bind fun r321 =>
k0 r321 (0 : Int)
theorem t101_14 (S105) (h105 : (ctr105 S105).holds cl) (x0 x1) : exec cl N c101_14 (e57 x0 x1) K = (g101_14 S105 (fun y0 y1 => K .normal (e58 y0 y1)) x0 x1) := by
  rw [← put_eq h105]
  kernel_rfl
def g101_15 (N : Nat) (S75 : V3 → Option (Bool)) (S105 : V0 → Option V5) (S115 : V0 → V0 → Option V6) (S117 : V0 → Option V1) (k0 : V3 → Int → Option R) (k1 : V3 → Int → Option R) (x0 x1 : V3) : Option R :=
(g101_0 (g101_1 S75 (fun y0 y1 y2 y3 => brB y3 (g101_2 k0 y0 y1 y2 y3) ((g101_4 S117 (g101_12 N S115 ((g101_14 S105 k1)))) y0 y1 y2))) x0 x1)
theorem t101_15 (S75) (S105) (S115) (S117) (h75 : (ctr75 S75).holds cl) (h105 : (ctr105 S105).holds cl) (h115 : (ctr115 S115).holds cl) (h117 : (ctr117 S117).holds cl) (x0 x1) : exec cl N c101_15 (e68 x0 x1) K = (g101_15 N S75 S105 S115 S117 (fun y0 y1 => K .ret (e71 y0 y1)) (fun y0 y1 => K .ret (e58 y0 y1)) x0 x1) := by
  simp only [c101_15, exec_seq, seqK_normal, seqK_exit, seqK_ret, t101_0, t101_1 S75 h75, c101_3, exec_out, exec_cond', hb101_0, Option.bind_some, brB_true, brB_false, t101_2, exec_ret, exec_skip, kp101_0, kp101_1, t101_4 S117 h117, c101_13, exec_block, t101_12 S115 h115, blockK_normal, blockK_ret, blockK_eq, kp101_5, t101_14 S105 h105]
  rfl
theorem rk101_0 (y0 y1) : retK d101 .ret (e71 y0 y1) = some [.v U4 y0, .v U1 y1] := by kernel_rfl
theorem rk101_1 (y0 y1) : retK d101 .ret (e58 y0 y1) = some [.v U4 y0, .v U1 y1] := by kernel_rfl
def g101 (N : Nat) (S75 : V3 → Option (Bool)) (S105 : V0 → Option V5) (S115 : V0 → V0 → Option V6) (S117 : V0 → Option V1) (x0 x1 : V3) (k : V3 → Int → Option R) : Option R :=
(g101_15 N S75 S105 S115 S117 k k x0 x1)
theorem gen101 {N : Nat} {cl : Cal} (S75 : V3 → Option (Bool)) (S105 : V0 → Option V5) (S115 : V0 → V0 → Option V6) (S117 : V0 → Option V1) (h75 : (ctr75 S75).holds cl) (h105 : (ctr105 S105).holds cl) (h115 : (ctr115 S115).holds cl) (h117 : (ctr117 S117).holds cl) (x0 : V3) (x1 : V3) {R : Type} (k : List E → Option R) : exec cl N c101 (params 0 [.v U4 x0, .v U4 x1]) (fun e env => (retK d101 e env).bind k) = g101 N S75 S105 S115 S117 x0 x1 (fun (r0 : V3) (r1 : Int) => k [.v U4 r0, .v U1 r1]) := by
  have e0 : params 0 [.v U4 x0, .v U4 x1] = (e68 x0 x1) := by kernel_rfl
  simp only [c101, e0, t101_15 S75 S105 S115 S117 h75 h105 h115 h117, rk101_0, rk101_1, Option.bind_some]
  rfl
def ctr101 (S : V3 → V3 → Option V7) : Ctr := { A := V3 × V3 × Unit, B := V3 × Int, f := 101, enc := fun a => [.v U4 a.1, .v U4 a.2.1], dec := (decC (decV U4) (decC (decV U4) dec0)), S := fun a => S a.1 a.2.1, ent := fun b => [.v U4 b.1, .v U1 b.2], ok := (decV_cons (T := U4) (decV_cons (T := U4) (fun es b h => dec0_some h))) }
def S101 (N : Nat) (x0 : V3) (x1 : V3) : Option V7 := g101 N (S75 N) (S105 N) (S115 N) (S117 N) x0 x1 (fun (r0 : V3) (r1 : Int) => some (r0, r1))
def g102_0 (k0 : V3 → V3 → V3 → V3 → Option R) (x0 x1 : V3) : Option R :=
k0 x0 x1 ([], ()) ([], ())
theorem t102_0 (x0 x1) : exec cl N c102_0 (e68 x0 x1) K = (g102_0 (fun y0 y1 y2 y3 => K .normal (e76 y0 y1 y2 y3)) x0 x1) := by
  kernel_rfl
def g102_1 (S75 : V3 → Option (Bool)) (k0 : V3 → V3 → V3 → V3 → Bool → Option R) (x0 x1 x2 x3 : V3) : Option R :=
(S75 x0).bind fun r331 =>
brB (!r331) (k0 x0 x1 x2 x3 true) ((S75 x1).bind fun r332 =>
k0 x0 x1 x2 x3 (!r332))
theorem t102_1 (S75) (h75 : (ctr75 S75).holds cl) (x0 x1 x2 x3) : exec cl N c102_1 (e76 x0 x1 x2 x3) K = (g102_1 S75 (fun y0 y1 y2 y3 y4 => K .normal (e77 y0 y1 y2 y3 y4)) x0 x1 x2 x3) := by
  rw [← put_eq h75]
  kernel_rfl
def g102_2 (k0 : V3 → V3 → Int → Option R) (x0 x1 x2 x3 : V3) (x4 : Bool) : Option R :=
k0 ([], ()) ([], ()) (1 : Int)
theorem t102_2 (x0 x1 x2 x3 x4) : exec cl N c102_2 (e77 x0 x1 x2 x3 x4) K = (g102_2 (fun y0 y1 y2 => K .normal (e78 y0 y1 y2)) x0 x1 x2 x3 x4) := by
  kernel_rfl
theorem kp102_0 (x0 x1 x2) : keep [2, 3, 4, 5, 6] (e78 x0 x1 x2) = (e79 x0 x1 x2) := by kernel_rfl
def g102_3 (k0 : V3 → V3 → V3 → V3 → Bool → Option R) (x0 x1 x2 x3 : V3) (x4 : Bool) : Option R :=
k0 x0 x1 x2 x3 ((x1.1.length : Int) == (0 : Int))
theorem t102_3 (x0 x1 x2 x3 x4) : exec cl N c102_3 (e77 x0 x1 x2 x3 x4) K = (g102_3 (fun y0 y1 y2 y3 y4 => K .normal (e80 y0 y1 y2 y3 y4)) x0 x1 x2 x3 x4) := by
  kernel_rfl
def g102_4 (k0 : V3 → V3 → Int → Option R) (x0 x1 x2 x3 : V3) (x4 : Bool) : Option R :=
k0 ([], ()) ([], ()) (6 : Int)
theorem t102_4 (x0 x1 x2 x3 x4) : exec cl N c102_4 (e80 x0 x1 x2 x3 x4) K = (g102_4 (fun y0 y1 y2 => K .normal (e78 y0 y1 y2)) x0 x1 x2 x3 x4) := by
  kernel_rfl
theorem kp102_1 (x0 x1 x2 x3 x4) : keep [2, 3, 4, 5, 6] (e80 x0 x1 x2 x3 x4) = (e81 x0 x1 x2 x3) := by kernel_rfl
theorem hb102_0 (x0 x1 x2 x3 x4) : boolOf? (ent (e80 x0 x1 x2 x3 x4) (.t 20)) = some x4 := by kernel_rfl
theorem kp102_2 (x0 x1 x2) : keep [2, 3, 4, 5, 6] (e79 x0 x1 x2) = (e79 x0 x1 x2) := by kernel_rfl
theorem kp102_3 (x0 x1 x2 x3) : keep [2, 3, 4, 5, 6] (e81 x0 x1 x2 x3) = (e81 x0 x1 x2 x3) := by kernel_rfl
theorem hb102_1 (x0 x1 x2 x3 x4) : boolOf? (ent (e77 x0 x1 x2 x3 x4) (.t 9)) = some x4 := by kernel_rfl
def g102_10 (S105 : V0 → Option V5) (S115 : V0 → V0 → Option V6) (k0 : V3 → V3 → Int → Option R) (x0 x1 x2 x3 : V3) : Option R :=
(S115 x0.1 x1.1).bind fun r335 =>
(S105 r335.1).bind fun r336 =>
(S105 r335.2).bind fun r337 =>
k0 r336 r337 (0 : Int)
theorem t102_10 (S105) (S115) (h105 : (ctr105 S105).holds cl) (h115 : (ctr115 S115).holds cl) (x0 x1 x2 x3) : exec cl N c102_10 (e81 x0 x1 x2 x3) K = (g102_10 S105 S115 (fun y0 y1 y2 => exec cl N .ret (e82 y0 y1 y2) K) x0 x1 x2 x3) := by
  rw [← put_eq h105]
  rw [← put_eq h115]
  kernel_rfl
def g102_11 (S75 : V3 → Option (Bool)) (S105 : V0 → Option V5) (S115 : V0 → V0 → Option V6) (k0 : V3 → V3 → Int → Option R) (k1 : V3 → V3 → Int → Option R) (x0 x1 : V3) : Option R :=
(g102_0 (g102_1 S75 (fun y0 y1 y2 y3 y4 => brB y4 (g102_2 k0 y0 y1 y2 y3 y4) (g102_3 (fun y0 y1 y2 y3 y4 => brB y4 (g102_4 k0 y0 y1 y2 y3 y4) ((((g102_10 S105 S115 k1))) y0 y1 y2 y3)) y0 y1 y2 y3 y4))) x0 x1)
theorem t102_11 (S75) (S105) (S115) (h75 : (ctr75 S75).holds cl) (h105 : (ctr105 S105).holds cl) (h115 : (ctr115 S115).holds cl) (x0 x1) : exec cl N c102_11 (e68 x0 x1) K = (g102_11 S75 S105 S115 (fun y0 y1 y2 => K .ret (e79 y0 y1 y2)) (fun y0 y1 y2 => K .ret (e82 y0 y1 y2)) x0 x1) := by
  simp only [c102_11, exec_seq, seqK_normal, seqK_exit, seqK_ret, t102_0, c102_7, exec_out, exec_block, t102_1 S75 h75, c102_6, exec_cond', hb102_1, Option.bind_some, brB_true, brB_false, t102_2, exec_ret, t102_3, c102_5, hb102_0, t102_4, exec_skip, kp102_0, kp102_1, kp102_2, kp102_3, blockK_normal, blockK_ret, blockK_eq, t102_10 S105 S115 h105 h115]
  rfl
theorem rk102_0 (y0 y1 y2) : retK d102 .ret (e79 y0 y1 y2) = some [.v U4 y0, .v U4 y1, .v U1 y2] := by kernel_rfl
theorem rk102_1 (y0 y1 y2) : retK d102 .ret (e82 y0 y1 y2) = some [.v U4 y0, .v U4 y1, .v U1 y2] := by kernel_rfl
def g102 (S75 : V3 → Option (Bool)) (S105 : V0 → Option V5) (S115 : V0 → V0 → Option V6) (x0 x1 : V3) (k : V3 → V3 → Int → Option R) : Option R :=
(g102_11 S75 S105 S115 k k x0 x1)
theorem gen102 {N : Nat} {cl : Cal} (S75 : V3 → Option (Bool)) (S105 : V0 → Option V5) (S115 : V0 → V0 → Option V6) (h75 : (ctr75 S75).holds cl) (h105 : (ctr105 S105).holds cl) (h115 : (ctr115 S115).holds cl) (x0 : V3) (x1 : V3) {R : Type} (k : List E → Option R) : exec cl N c102 (params 0 [.v U4 x0, .v U4 x1]) (fun e env => (retK d102 e env).bind k) = g102 S75 S105 S115 x0 x1 (fun (r0 : V3) (r1 : V3) (r2 : Int) => k [.v U4 r0, .v U4 r1, .v U1 r2]) := by
  have e0 : params 0 [.v U4 x0, .v U4 x1] = (e68 x0 x1) := by kernel_rfl
  simp only [c102, e0, t102_11 S75 S105 S115 h75 h105 h115, rk102_0, rk102_1, Option.bind_some]
  rfl
def ctr102 (S : V3 → V3 → Option V12) : Ctr := { A := V3 × V3 × Unit, B := V3 × V3 × Int, f := 102, enc := fun a => [.v U4 a.1, .v U4 a.2.1], dec := (decC (decV U4) (decC (decV U4) dec0)), S := fun a => S a.1 a.2.1, ent := fun b => [.v U4 b.1, .v U4 b.2.1, .v U1 b.2.2], ok := (decV_cons (T := U4) (decV_cons (T := U4) (fun es b h => dec0_some h))) }
def S102 (N : Nat) (x0 : V3) (x1 : V3) : Option V12 := g102 (S75 N) (S105 N) (S115 N) x0 x1 (fun (r0 : V3) (r1 : V3) (r2 : Int) => some (r0, r1, r2))
def g77_5 (S76 : V3 → Option (Bool)) (S101 : V3 → V3 → Option V7) (S102 : V3 → V3 → Option V12) (k0 : V14 → Option R) (x0 : Bool) (x1 x2 : V3) : Option R :=
(S101 x1 x2).bind fun r354 =>
(S102 x1 r354.1).bind fun r355 =>
(S102 x2 r354.1).bind fun r356 =>
brB x0 ((S76 r355.1).bind fun r357 =>
k0 ((!r357), r355.1, r356.1, ())) (k0 (false, r355.1, r356.1, ()))
theorem t77_5 (S76) (S101) (S102) (h76 : (ctr76 S76).holds cl) (h101 : (ctr101 S101).holds cl) (h102 : (ctr102 S102).holds cl) (x0 x1 x2) : exec cl N c77_5 (e83 x0 x1 x2) K = (g77_5 S76 S101 S102 (fun y0 => exec cl N .ret [(6, .loc U11 .no y0)] K) x0 x1 x2) := by
  rw [← put_eq h76]
  rw [← put_eq h101]
  rw [← put_eq h102]
  kernel_rfl
def g77_5b (S76 : V3 → Option (Bool)) (S101 : V3 → V3 → Option V7) (S102 : V3 → V3 → Option V12) (k0 : V14 → Option R) (x0 : Bool) (x1 x2 : V3) : Option R :=
(g77_5 S76 S101 S102 k0 x0 x1 x2)
theorem t77_5b (S76) (S101) (S102) (h76 : (ctr76 S76).holds cl) (h101 : (ctr101 S101).holds cl) (h102 : (ctr102 S102).holds cl) (x0 x1 x2) : exec cl N c77_5 (e83 x0 x1 x2) K = (g77_5b S76 S101 S102 (fun y0 => K .ret [(6, .loc U11 .no y0)]) x0 x1 x2) := by
  simp only [exec_seq, seqK_normal, seqK_exit, seqK_ret, t77_5 S76 S101 S102 h76 h101 h102, exec_ret]
  rfl
theorem rk77_0 (y0) : retK d77 .ret [(6, .loc U11 .no y0)] = some [.v U11 y0] := by kernel_rfl
def g77 (S76 : V3 → Option (Bool)) (S101 : V3 → V3 → Option V7) (S102 : V3 → V3 → Option V12) (x0 : Bool) (x1 x2 : V3) (k : V14 → Option R) : Option R :=
(g77_5b S76 S101 S102 k x0 x1 x2)
theorem gen77 {N : Nat} {cl : Cal} (S76 : V3 → Option (Bool)) (S101 : V3 → V3 → Option V7) (S102 : V3 → V3 → Option V12) (h76 : (ctr76 S76).holds cl) (h101 : (ctr101 S101).holds cl) (h102 : (ctr102 S102).holds cl) (x0 : Bool) (x1 : V3) (x2 : V3) {R : Type} (k : List E → Option R) : exec cl N c77 (params 0 [.v .bool x0, .v U4 x1, .v U4 x2]) (fun e env => (retK d77 e env).bind k) = g77 S76 S101 S102 x0 x1 x2 (fun (r0 : V14) => k [.v U11 r0]) := by
  have e0 : params 0 [.v .bool x0, .v U4 x1, .v U4 x2] = (e83 x0 x1 x2) := by kernel_rfl
  simp only [c77, e0, t77_5b S76 S101 S102 h76 h101 h102, rk77_0, Option.bind_some]
  rfl
def ctr77 (S : Bool → V3 → V3 → Option V15) : Ctr := { A := Bool × V3 × V3 × Unit, B := V14, f := 77, enc := fun a => [.v .bool a.1, .v U4 a.2.1, .v U4 a.2.2.1], dec := (decC (decV .bool) (decC (decV U4) (decC (decV U4) dec0))), S := fun a => S a.1 a.2.1 a.2.2.1, ent := fun b => [.v U11 b], ok := (decV_cons (T := .bool) (decV_cons (T := U4) (decV_cons (T := U4) (fun es b h => dec0_some h)))) }
def S77 (N : Nat) (x0 : Bool) (x1 : V3) (x2 : V3) : Option V15 := g77 (S76 N) (S101 N) (S102 N) x0 x1 x2 (fun (r0 : V14) => some (r0))
def g44_0 (k0 : V3 → V3 → V14 → Option R) (x0 x1 : V3) : Option R :=
k0 x0 x1 (false, (([], ()), (([], ()), ())))
theorem t44_0 (x0 x1) : exec cl N c44_0 (e68 x0 x1) K = (g44_0 (fun y0 y1 y2 => K .normal (e84 y0 y1 y2)) x0 x1) := by
  kernel_rfl
def g44_1 (S75 : V3 → Option (Bool)) (k0 : V3 → V3 → V14 → Bool → Option R) (x0 x1 : V3) (x2 : V14) : Option R :=
(S75 x0).bind fun r361 =>
brB (!r361) (k0 x0 x1 x2 true) ((S75 x1).bind fun r362 =>
k0 x0 x1 x2 (!r362))
theorem t44_1 (S75) (h75 : (ctr75 S75).holds cl) (x0 x1 x2) : exec cl N c44_1 (e84 x0 x1 x2) K = (g44_1 S75 (fun y0 y1 y2 y3 => K .normal (e85 y0 y1 y2 y3)) x0 x1 x2) := by
  rw [← put_eq h75]
  kernel_rfl
def g44_2 (k0 : V14 → Int → Option R) (x0 x1 : V3) (x2 : V14) (x3 : Bool) : Option R :=
k0 (false, ([], ()), ([], ()), ()) (1 : Int)
theorem t44_2 (x0 x1 x2 x3) : exec cl N c44_2 (e85 x0 x1 x2 x3) K = (g44_2 (fun y0 y1 => K .normal (e86 y0 y1)) x0 x1 x2 x3) := by
  kernel_rfl
theorem kp44_0 (x0 x1) : keep [2, 3, 4, 5] (e86 x0 x1) = (e87 x0 x1) := by kernel_rfl
theorem kp44_1 (x0 x1 x2 x3) : keep [2, 3, 4, 5] (e85 x0 x1 x2 x3) = (e88 x0 x1 x2) := by kernel_rfl
theorem hb44_0 (x0 x1 x2 x3) : boolOf? (ent (e85 x0 x1 x2 x3) (.t 13)) = some x3 := by kernel_rfl
def g44_4 (S76 : V3 → Option (Bool)) (k0 : V3 → V3 → V14 → Bool → Option R) (x0 x1 : V3) (x2 : V14) : Option R :=
(S76 x1).bind fun r364 =>
k0 x0 x1 x2 r364
theorem t44_4 (S76) (h76 : (ctr76 S76).holds cl) (x0 x1 x2) : exec cl N c44_4 (e88 x0 x1 x2) K = (g44_4 S76 (fun y0 y1 y2 y3 => K .normal (e89 y0 y1 y2 y3)) x0 x1 x2) := by
  rw [← put_eq h76]
  kernel_rfl
def g44_5 (k0 : V14 → Int → Option R) (x0 x1 : V3) (x2 : V14) (x3 : Bool) : Option R :=
k0 (false, ([], ()), ([], ()), ()) (6 : Int)
theorem t44_5 (x0 x1 x2 x3) : exec cl N c44_5 (e89 x0 x1 x2 x3) K = (g44_5 (fun y0 y1 => K .normal (e86 y0 y1)) x0 x1 x2 x3) := by
  kernel_rfl
theorem kp44_2 (x0 x1 x2 x3) : keep [2, 3, 4, 5] (e89 x0 x1 x2 x3) = (e88 x0 x1 x2) := by kernel_rfl
theorem hb44_1 (x0 x1 x2 x3) : boolOf? (ent (e89 x0 x1 x2 x3) (.t 16)) = some x3 := by kernel_rfl
def g44_7 (S77 : Bool → V3 → V3 → Option V15) (k0 : V14 → Int → Option R) (x0 x1 : V3) (x2 : V14) : Option R :=
(S77 false x0 x1).bind fun r366 =>
k0 r366 (0 : Int)
theorem t44_7 (S77) (h77 : (ctr77 S77).holds cl) (x0 x1 x2) : exec cl N c44_7 (e88 x0 x1 x2) K = (g44_7 S77 (fun y0 y1 => K .normal (e86 y0 y1)) x0 x1 x2) := by
  rw [← put_eq h77]
  kernel_rfl
def g44_8 (S75 : V3 → Option (Bool)) (S76 : V3 → Option (Bool)) (S77 : Bool → V3 → V3 → Option V15) (k0 : V14 → Int → Option R) (k1 : V14 → Int → Option R) (x0 x1 : V3) : Option R :=
(g44_0 (g44_1 S75 (fun y0 y1 y2 y3 => brB y3 (g44_2 k0 y0 y1 y2 y3) ((g44_4 S76 (fun y0 y1 y2 y3 => brB y3 (g44_5 k0 y0 y1 y2 y3) ((g44_7 S77 k1) y0 y1 y2))) y0 y1 y2))) x0 x1)
theorem t44_8 (S75) (S76) (S77) (h75 : (ctr75 S75).holds cl) (h76 : (ctr76 S76).holds cl) (h77 : (ctr77 S77).holds cl) (x0 x1) : exec cl N c44_8 (e68 x0 x1) K = (g44_8 S75 S76 S77 (fun y0 y1 => K .ret (e87 y0 y1)) (fun y0 y1 => K .ret (e86 y0 y1)) x0 x1) := by
  simp only [c44_8, exec_seq, seqK_normal, seqK_exit, seqK_ret, t44_0, t44_1 S75 h75, c44_3, exec_out, exec_cond', hb44_0, Option.bind_some, brB_true, brB_false, t44_2, exec_ret, exec_skip, kp44_0, kp44_1, t44_4 S76 h76, c44_6, hb44_1, t44_5, kp44_2, t44_7 S77 h77]
  rfl
theorem rk44_0 (y0 y1) : retK d44 .ret (e87 y0 y1) = some [.v U11 y0, .v U1 y1] := by kernel_rfl
theorem rk44_1 (y0 y1) : retK d44 .ret (e86 y0 y1) = some [.v U11 y0, .v U1 y1] := by kernel_rfl
def g44 (S75 : V3 → Option (Bool)) (S76 : V3 → Option (Bool)) (S77 : Bool → V3 → V3 → Option V15) (x0 x1 : V3) (k : V14 → Int → Option R) : Option R :=
(g44_8 S75 S76 S77 k k x0 x1)
theorem gen44 {N : Nat} {cl : Cal} (S75 : V3 → Option (Bool)) (S76 : V3 → Option (Bool)) (S77 : Bool → V3 → V3 → Option V15) (h75 : (ctr75 S75).holds cl) (h76 : (ctr76 S76).holds cl) (h77 : (ctr77 S77).holds cl) (x0 : V3) (x1 : V3) {R : Type} (k : List E → Option R) : exec cl N c44 (params 0 [.v U4 x0, .v U4 x1]) (fun e env => (retK d44 e env).bind k) = g44 S75 S76 S77 x0 x1 (fun (r0 : V14) (r1 : Int) => k [.v U11 r0, .v U1 r1]) := by
  have e0 : params 0 [.v U4 x0, .v U4 x1] = (e68 x0 x1) := by kernel_rfl
  simp only [c44, e0, t44_8 S75 S76 S77 h75 h76 h77, rk44_0, rk44_1, Option.bind_some]
  rfl
def ctr44 (S : V3 → V3 → Option V16) : Ctr := { A := V3 × V3 × Unit, B := V14 × Int, f := 44, enc := fun a => [.v U4 a.1, .v U4 a.2.1], dec := (decC (decV U4) (decC (decV U4) dec0)), S := fun a => S a.1 a.2.1, ent := fun b => [.v U11 b.1, .v U1 b.2], ok := (decV_cons (T := U4) (decV_cons (T := U4) (fun es b h => dec0_some h))) }
def S44 (N : Nat) (x0 : V3) (x1 : V3) : Option V16 := g44 (S75 N) (S76 N) (S77 N) x0 x1 (fun (r0 : V14) (r1 : Int) => some (r0, r1))
def g27_0 (k0 : Int → Int → Int → Int → V14 → Option R) (x0 x1 x2 x3 : Int) : Option R :=
k0 x0 x1 x2 x3 (false, (([], ()), (([], ()), ())))
theorem t27_0 (x0 x1 x2 x3) : exec cl N c27_0 (e0 x0 x1 x2 x3) K = (g27_0 (fun y0 y1 y2 y3 y4 => K .normal (e90 y0 y1 y2 y3 y4)) x0 x1 x2 x3) := by
  kernel_rfl
def g27_5 (S62 : Int → Int → Int → Int → Option (Int)) (k0 : Int → Int → Int → Int → V14 → Int → Bool → Option R) (x0 x1 x2 x3 : Int) (x4 : V14) : Option R :=
(S62 x0 x1 x2 x3).bind fun r369 =>
k0 x0 x1 x2 x3 x4 r369 (r369 != (0 : Int))
theorem t27_5 (S62) (h62 : (ctr62 S62).holds cl) (x0 x1 x2 x3 x4) : exec cl N c27_5 (e90 x0 x1 x2 x3 x4) K = (g27_5 S62 (fun y0 y1 y2 y3 y4 y5 y6 => exec cl N c27_4 (e91 y0 y1 y2 y3 y4 y5 y6) K) x0 x1 x2 x3 x4) := by
  rw [← put_eq h62]
  kernel_rfl
def g27_3 (k0 : V14 → Int → Option R) (x0 x1 x2 x3 : Int) (x4 : V14) (x5 : Int) (x6 : Bool) : Option R :=
k0 (false, ([], ()), ([], ()), ()) x5
theorem t27_3 (x0 x1 x2 x3 x4 x5 x6) : exec cl N c27_3 (e91 x0 x1 x2 x3 x4 x5 x6) K = (g27_3 (fun y0 y1 => K .normal (e92 y0 y1)) x0 x1 x2 x3 x4 x5 x6) := by
  kernel_rfl
theorem kp27_0 (x0 x1) : keep [0, 1, 2, 3, 8, 9] (e92 x0 x1) = (e93 x0 x1) := by kernel_rfl
theorem kp27_1 (x0 x1 x2 x3 x4 x5 x6) : keep [0, 1, 2, 3, 8, 9] (e91 x0 x1 x2 x3 x4 x5 x6) = (e94 x0 x1 x2 x3 x4) := by kernel_rfl
theorem hb27_0 (x0 x1 x2 x3 x4 x5 x6) : boolOf? (ent (e91 x0 x1 x2 x3 x4 x5 x6) (.t 17)) = some x6 := by kernel_rfl
def g27_6 (S44 : V3 → V3 → Option V16) (S63 : Int → Int → Int → Int → Option V5) (S64 : Int → Int → Option V5) (k0 : V14 → Int → Option R) (x0 x1 x2 x3 : Int) (x4 : V14) : Option R :=
(S63 x0 x1 x2 x3).bind fun r372 =>
(S64 x0 x2).bind fun r373 =>
(S44 r372 r373).bind fun r374 =>
k0 r374.1 r374.2
theorem t27_6 (S44) (S63) (S64) (h44 : (ctr44 S44).holds cl) (h63 : (ctr63 S63).holds cl) (h64 : (ctr64 S64).holds cl) (x0 x1 x2 x3 x4) : exec cl N c27_6 (e94 x0 x1 x2 x3 x4) K = (g27_6 S44 S63 S64 (fun y0 y1 => K .normal (e92 y0 y1)) x0 x1 x2 x3 x4) := by
  rw [← put_eq h44]
  rw [← put_eq h63]
  rw [← put_eq h64]
  kernel_rfl
def g27_7 (S44 : V3 → V3 → Option V16) (S62 : Int → Int → Int → Int → Option (Int)) (S63 : Int → Int → Int → Int → Option V5) (S64 : Int → Int → Option V5) (k0 : V14 → Int → Option R) (k1 : V14 → Int → Option R) (x0 x1 x2 x3 : Int) : Option R :=
(g27_0 (g27_5 S62 (fun y0 y1 y2 y3 y4 y5 y6 => brB y6 (g27_3 k0 y0 y1 y2 y3 y4 y5 y6) ((g27_6 S44 S63 S64 k1) y0 y1 y2 y3 y4))) x0 x1 x2 x3)
theorem t27_7 (S44) (S62) (S63) (S64) (h44 : (ctr44 S44).holds cl) (h62 : (ctr62 S62).holds cl) (h63 : (ctr63 S63).holds cl) (h64 : (ctr64 S64).holds cl) (x0 x1 x2 x3) : exec cl N c27_7 (e0 x0 x1 x2 x3) K = (g27_7 S44 S62 S63 S64 (fun y0 y1 => K .ret (e93 y0 y1)) (fun y0 y1 => K .ret (e92 y0 y1)) x0 x1 x2 x3) := by
  simp only [c27_7, exec_seq, seqK_normal, seqK_exit, seqK_ret, t27_0, t27_5 S62 h62, c27_4, exec_out, exec_cond', hb27_0, Option.bind_some, brB_true, brB_false, t27_3, exec_ret, exec_skip, kp27_0, kp27_1, t27_6 S44 S63 S64 h44 h63 h64]
  rfl
theorem rk27_0 (y0 y1) : retK d27 .ret (e93 y0 y1) = some [.v U11 y0, .v U1 y1] := by kernel_rfl
theorem rk27_1 (y0 y1) : retK d27 .ret (e92 y0 y1) = some [.v U11 y0, .v U1 y1] := by kernel_rfl
def g27 (S44 : V3 → V3 → Option V16) (S62 : Int → Int → Int → Int → Option (Int)) (S63 : Int → Int → Int → Int → Option V5) (S64 : Int → Int → Option V5) (x0 x1 x2 x3 : Int) (k : V14 → Int → Option R) : Option R :=
(g27_7 S44 S62 S63 S64 k k x0 x1 x2 x3)
theorem gen27 {N : Nat} {cl : Cal} (S44 : V3 → V3 → Option V16) (S62 : Int → Int → Int → Int → Option (Int)) (S63 : Int → Int → Int → Int → Option V5) (S64 : Int → Int → Option V5) (h44 : (ctr44 S44).holds cl) (h62 : (ctr62 S62).holds cl) (h63 : (ctr63 S63).holds cl) (h64 : (ctr64 S64).holds cl) (x0 : Int) (x1 : Int) (x2 : Int) (x3 : Int) {R : Type} (k : List E → Option R) : exec cl N c27 (params 0 [.v U1 x0, .v U1 x1, .v U1 x2, .v U1 x3]) (fun e env => (retK d27 e env).bind k) = g27 S44 S62 S63 S64 x0 x1 x2 x3 (fun (r0 : V14) (r1 : Int) => k [.v U11 r0, .v U1 r1]) := by
  have e0 : params 0 [.v U1 x0, .v U1 x1, .v U1 x2, .v U1 x3] = (e0 x0 x1 x2 x3) := by kernel_rfl
  simp only [c27, e0, t27_7 S44 S62 S63 S64 h44 h62 h63 h64, rk27_0, rk27_1, Option.bind_some]
  rfl
def ctr27 (S : Int → Int → Int → Int → Option V16) : Ctr := { A := Int × Int × Int × Int × Unit, B := V14 × Int, f := 27, enc := fun a => [.v U1 a.1, .v U1 a.2.1, .v U1 a.2.2.1, .v U1 a.2.2.2.1], dec := (decC (decV U1) (decC (decV U1) (decC (decV U1) (decC (decV U1) dec0)))), S := fun a => S a.1 a.2.1 a.2.2.1 a.2.2.2.1, ent := fun b => [.v U11 b.1, .v U1 b.2], ok := (decV_cons (T := U1) (decV_cons (T := U1) (decV_cons (T := U1) (decV_cons (T := U1) (fun es b h => dec0_some h))))) }
def S27 (N : Nat) (x0 : Int) (x1 : Int) (x2 : Int) (x3 : Int) : Option V16 := g27 (S44 N) (S62 N) (S63 N) (S64 N) x0 x1 x2 x3 (fun (r0 : V14) (r1 : Int) => some (r0, r1))
def g65_0 (k0 : Int → Int → Int → Int → Option R) (x0 x1 x2 x3 : Int) : Option R :=
k0 x0 x1 x2 x3
theorem t65_0 (x0 x1 x2 x3) : exec cl N c65_0 (e0 x0 x1 x2 x3) K = (g65_0 (fun y0 y1 y2 y3 => K .normal (e0 y0 y1 y2 y3)) x0 x1 x2 x3) := by
  kernel_rfl
def g65_1 (k0 : Bool → Option R) (x0 x1 x2 x3 : Int) : Option R :=
brB (decide (x0 < (0 : Int))) (k0 true) (brB (decide (x0 > (400 : Int))) (k0 true) (brB (decide (x1 < (0 : Int))) (k0 true) (brB (decide (x1 > x0)) (k0 true) (brB (decide (x2 < (0 : Int))) (k0 true) (brB (decide (x2 > x0)) (k0 true) (brB (decide (x3 < (0 : Int))) (k0 true) (k0 (decide (x3 > x2)))))))))
theorem t65_1 (x0 x1 x2 x3) : exec cl N c65_1 (e0 x0 x1 x2 x3) K = (g65_1 (fun y0 => K .normal [(41, .v .bool y0)]) x0 x1 x2 x3) := by
  kernel_rfl
def g65_2 (k0 : Int → Option R) (x0 : Bool) : Option R :=
k0 (6 : Int)
theorem t65_2 (x0) : exec cl N c65_2 [(41, .v .bool x0)] K = (g65_2 (fun y0 => K .normal [(8, .v U1 y0)]) x0) := by
  kernel_rfl
theorem kp65_0 (x0) : keep [8] [(8, .v U1 x0)] = [(8, .v U1 x0)] := by kernel_rfl
theorem kp65_1 (x0) : keep [8] [(41, .v .bool x0)] = [(8, .dead)] := by kernel_rfl
theorem hb65_0 (x0) : boolOf? (ent [(41, .v .bool x0)] (.t 41)) = some x0 := by kernel_rfl
def g65_4 (k0 : Int → Option R) : Option R :=
k0 (0 : Int)
theorem t65_4 : exec cl N c65_4 [(8, .dead)] K = (g65_4 (fun y0 => K .normal [(8, .v U1 y0)])) := by
  kernel_rfl
def g65_5 (k0 : Int → Option R) (x0 x1 x2 x3 : Int) : Option R :=
(g65_0 (g65_1 (fun y0 => brB y0 (g65_2 k0 y0) (g65_4 k0))) x0 x1 x2 x3)
theorem t65_5 (x0 x1 x2 x3) : exec cl N c65_5 (e0 x0 x1 x2 x3) K = (g65_5 (fun y0 => K .ret [(8, .v U1 y0)]) x0 x1 x2 x3) := by
  simp only [c65_5, exec_seq, seqK_normal, seqK_exit, seqK_ret, t65_0, t65_1, c65_3, exec_out, exec_cond', hb65_0, Option.bind_some, brB_true, brB_false, t65_2, exec_ret, exec_skip, kp65_0, kp65_1, t65_4]
  rfl
theorem rk65_0 (y0) : retK d65 .ret [(8, .v U1 y0)] = some [.v U1 y0] := by kernel_rfl
def g65 (x0 x1 x2 x3 : Int) (k : Int → Option R) : Option R :=
(g65_5 k x0 x1 x2 x3)
theorem gen65 {N : Nat} {cl : Cal} (x0 : Int) (x1 : Int) (x2 : Int) (x3 : Int) {R : Type} (k : List E → Option R) : exec cl N c65 (params 0 [.v U1 x0, .v U1 x1, .v U1 x2, .v U1 x3]) (fun e env => (retK d65 e env).bind k) = g65 x0 x1 x2 x3 (fun (r0 : Int) => k [.v U1 r0]) := by
  have e0 : params 0 [.v U1 x0, .v U1 x1, .v U1 x2, .v U1 x3] = (e0 x0 x1 x2 x3) := by kernel_rfl
  simp only [c65, e0, t65_5, rk65_0, Option.bind_some]
  rfl
def ctr65 (S : Int → Int → Int → Int → Option (Int)) : Ctr := { A := Int × Int × Int × Int × Unit, B := Int, f := 65, enc := fun a => [.v U1 a.1, .v U1 a.2.1, .v U1 a.2.2.1, .v U1 a.2.2.2.1], dec := (decC (decV U1) (decC (decV U1) (decC (decV U1) (decC (decV U1) dec0)))), S := fun a => S a.1 a.2.1 a.2.2.1 a.2.2.2.1, ent := fun b => [.v U1 b], ok := (decV_cons (T := U1) (decV_cons (T := U1) (decV_cons (T := U1) (decV_cons (T := U1) (fun es b h => dec0_some h))))) }
def S65 (N : Nat) (x0 : Int) (x1 : Int) (x2 : Int) (x3 : Int) : Option (Int) := g65 x0 x1 x2 x3 (fun (r0 : Int) => some (r0))
def g111_0 (k0 : Int → V3 → Option R) (x0 : Int) : Option R :=
k0 x0 ([], ())
theorem t111_0 (x0) : exec cl N c111_0 [(0, .v U1 x0)] K = (g111_0 (fun y0 y1 => K .normal (e5 y0 y1)) x0) := by
  kernel_rfl
def g111_1 (k0 : Int → V3 → Bool → Option R) (x0 : Int) (x1 : V3) : Option R :=
k0 x0 x1 (decide (x0 < (0 : Int)))
theorem t111_1 (x0 x1) : exec cl N c111_1 (e5 x0 x1) K = (g111_1 (fun y0 y1 y2 => K .normal (e6 y0 y1 y2)) x0 x1) := by
  kernel_rfl
def g111_2 (k0 : V3 → Int → Option R) (x0 : Int) (x1 : V3) (x2 : Bool) : Option R :=
k0 ([], ()) (6 : Int)
theorem t111_2 (x0 x1 x2) : exec cl N c111_2 (e6 x0 x1 x2) K = (g111_2 (fun y0 y1 => K .normal (e7 y0 y1)) x0 x1 x2) := by
  kernel_rfl
theorem kp111_0 (x0 x1) : keep [0, 2, 3] (e7 x0 x1) = (e8 x0 x1) := by kernel_rfl
theorem kp111_1 (x0 x1 x2) : keep [0, 2, 3] (e6 x0 x1 x2) = (e9 x0 x1) := by kernel_rfl
theorem hb111_0 (x0 x1 x2) : boolOf? (ent (e6 x0 x1 x2) (.t 6)) = some x2 := by kernel_rfl
def g111_4 (k0 : Int → V3 → V0 → Option R) (x0 : Int) (x1 : V3) : Option R :=
k0 x0 x1 []
theorem t111_4 (x0 x1) : exec cl N c111_4 (e9 x0 x1) K = (g111_4 (fun y0 y1 y2 => K .normal (e10 y0 y1 y2)) x0 x1) := by
  kernel_rfl
theorem kp111_2 (x0 x1 x2) : keep [0, 2, 4] (e10 x0 x1 x2) = (e10 x0 x1 x2) := by kernel_rfl
def g111_5 (k0 : Int → V3 → V0 → Bool → Option R) (x0 : Int) (x1 : V3) (x2 : V0) : Option R :=
k0 x0 x1 x2 (decide (x0 > (0 : Int)))
theorem t111_5 (x0 x1 x2) : exec cl N c111_5 (e10 x0 x1 x2) K = (g111_5 (fun y0 y1 y2 y3 => K .normal (e11 y0 y1 y2 y3)) x0 x1 x2) := by
  kernel_rfl
theorem kp111_3 (x0 x1 x2 x3) : keep [0, 2, 4] (e11 x0 x1 x2 x3) = (e10 x0 x1 x2) := by kernel_rfl
theorem hb111_1 (x0 x1 x2 x3) : boolOf? (ent (e11 x0 x1 x2 x3) (.t 9)) = some x3 := by kernel_rfl
def g111_9 (k0 : Int → V3 → V0 → Option R) (x0 : Int) (x1 : V3) (x2 : V0) : Option R :=
let v406 : Int := (Int.tmod x0 (10000 : Int))
if x2.length + [v406].length ≤ 17592186044416 then
k0 (IntKind.i64.wrap (Int.tdiv x0 (10000 : Int))) x1 (x2 ++ [v406])
else none
theorem t111_9 (x0 x1 x2) : exec cl N c111_9 (e10 x0 x1 x2) K = (g111_9 (fun y0 y1 y2 => K .normal (e10 y0 y1 y2)) x0 x1 x2) := by
  kernel_rfl
def g111_11 (k0 : Int → V3 → V0 → Option R) (k1 : Int → V3 → V0 → Option R) (x0 : Int) (x1 : V3) (x2 : V0) : Option R :=
(g111_5 (fun y0 y1 y2 y3 => brB y3 ((g111_9 k0) y0 y1 y2) (k1 y0 y1 y2)) x0 x1 x2)
theorem t111_11 (x0 x1 x2) : exec cl N c111_11 (e10 x0 x1 x2) K = (g111_11 (fun y0 y1 y2 => K .normal (e10 y0 y1 y2)) (fun y0 y1 y2 => K (.exit 0) (e10 y0 y1 y2)) x0 x1 x2) := by
  simp only [c111_11, exec_seq, seqK_normal, seqK_exit, seqK_ret, t111_5, c111_6, exec_out, exec_cond', hb111_1, Option.bind_some, brB_true, brB_false, exec_skip, exec_exit, kp111_3, c111_10, exec_block, t111_9, blockK_normal, blockK_ret, blockK_eq, kp111_2]
  rfl
def l111_12 {R : Type} (k0 : Int → V3 → V0 → Option R) : Nat → Int → V3 → V0 → Option R
  | 0, _, _, _ => none
  | m + 1, x0, x1, x2 => (g111_11 (l111_12 k0 m) k0 x0 x1 x2)
theorem lt111_12 : ∀ (m) (x0 x1 x2), iter [0, 2, 4] (fun env K => exec cl N c111_11 env K) K m (e10 x0 x1 x2) = l111_12 (fun y0 y1 y2 => K (.exit 0) (e10 y0 y1 y2)) m x0 x1 x2 := by
  intro m
  induction m with
  | zero => intros; rfl
  | succ m ih =>
    intro x0 x1 x2
    simp only [iter_succ, t111_11, loopK_normal, loopK_exit, loopK_ret, kp111_2, ih]
    rfl
theorem kp111_4 (x0 x1 x2) : keep [2, 4] (e10 x0 x1 x2) = (e12 x1 x2) := by kernel_rfl
def g111_12 (N : Nat) (k0 : V3 → V0 → Option R) (x0 : Int) (x1 : V3) (x2 : V0) : Option R :=
l111_12 (fun y0 y1 y2 => k0 y1 y2) N x0 x1 x2
theorem t111_12 (x0 x1 x2) : exec cl N c111_12 (e10 x0 x1 x2) K = (g111_12 N (fun y0 y1 => K (.exit 0) (e12 y0 y1)) x0 x1 x2) := by
  simp only [c111_12, exec_out, exec_loop, kp111_2, lt111_12, kp111_4]
  rfl
theorem kp111_5 (x0 x1) : keep [2, 4] (e12 x0 x1) = (e12 x0 x1) := by kernel_rfl
def g111_14 (k0 : V3 → Int → Option R) (x0 : V3) (x1 : V0) : Option R :=
k0 (x1, ()) (0 : Int)
theorem t111_14 (x0 x1) : exec cl N c111_14 (e12 x0 x1) K = (g111_14 (fun y0 y1 => K .normal (e13 y0 y1)) x0 x1) := by
  kernel_rfl
def g111_15 (N : Nat) (k0 : V3 → Int → Option R) (k1 : V3 → Int → Option R) (x0 : Int) : Option R :=
(g111_0 (g111_1 (fun y0 y1 y2 => brB y2 (g111_2 k0 y0 y1 y2) ((g111_4 (g111_12 N ((g111_14 k1)))) y0 y1))) x0)
theorem t111_15 (x0) : exec cl N c111_15 [(0, .v U1 x0)] K = (g111_15 N (fun y0 y1 => K .ret (e8 y0 y1)) (fun y0 y1 => K .ret (e13 y0 y1)) x0) := by
  simp only [c111_15, exec_seq, seqK_normal, seqK_exit, seqK_ret, t111_0, t111_1, c111_3, exec_out, exec_cond', hb111_0, Option.bind_some, brB_true, brB_false, t111_2, exec_ret, exec_skip, kp111_0, kp111_1, t111_4, c111_13, exec_block, t111_12, blockK_normal, blockK_ret, blockK_eq, kp111_5, t111_14]
  rfl
theorem rk111_0 (y0 y1) : retK d111 .ret (e8 y0 y1) = some [.v U4 y0, .v U1 y1] := by kernel_rfl
theorem rk111_1 (y0 y1) : retK d111 .ret (e13 y0 y1) = some [.v U4 y0, .v U1 y1] := by kernel_rfl
def g111 (N : Nat) (x0 : Int) (k : V3 → Int → Option R) : Option R :=
(g111_15 N k k x0)
theorem gen111 {N : Nat} {cl : Cal} (x0 : Int) {R : Type} (k : List E → Option R) : exec cl N c111 (params 0 [.v U1 x0]) (fun e env => (retK d111 e env).bind k) = g111 N x0 (fun (r0 : V3) (r1 : Int) => k [.v U4 r0, .v U1 r1]) := by
  have e0 : params 0 [.v U1 x0] = [(0, .v U1 x0)] := by kernel_rfl
  simp only [c111, e0, t111_15, rk111_0, rk111_1, Option.bind_some]
  rfl
def ctr111 (S : Int → Option V7) : Ctr := { A := Int × Unit, B := V3 × Int, f := 111, enc := fun a => [.v U1 a.1], dec := (decC (decV U1) dec0), S := fun a => S a.1, ent := fun b => [.v U4 b.1, .v U1 b.2], ok := (decV_cons (T := U1) (fun es b h => dec0_some h)) }
def S111 (N : Nat) (x0 : Int) : Option V7 := g111 N x0 (fun (r0 : V3) (r1 : Int) => some (r0, r1))
def g85_3 (S111 : Int → Option V7) (k0 : V3 → Option R) (x0 : Int) : Option R :=
(S111 x0).bind fun r411 =>
k0 r411.1
theorem t85_3 (S111) (h111 : (ctr111 S111).holds cl) (x0) : exec cl N c85_3 [(0, .v U1 x0)] K = (g85_3 S111 (fun y0 => exec cl N .ret [(2, .loc U4 .no y0)] K) x0) := by
  rw [← put_eq h111]
  kernel_rfl
def g85_3b (S111 : Int → Option V7) (k0 : V3 → Option R) (x0 : Int) : Option R :=
(g85_3 S111 k0 x0)
theorem t85_3b (S111) (h111 : (ctr111 S111).holds cl) (x0) : exec cl N c85_3 [(0, .v U1 x0)] K = (g85_3b S111 (fun y0 => K .ret [(2, .loc U4 .no y0)]) x0) := by
  simp only [exec_seq, seqK_normal, seqK_exit, seqK_ret, t85_3 S111 h111, exec_ret]
  rfl
theorem rk85_0 (y0) : retK d85 .ret [(2, .loc U4 .no y0)] = some [.v U4 y0] := by kernel_rfl
def g85 (S111 : Int → Option V7) (x0 : Int) (k : V3 → Option R) : Option R :=
(g85_3b S111 k x0)
theorem gen85 {N : Nat} {cl : Cal} (S111 : Int → Option V7) (h111 : (ctr111 S111).holds cl) (x0 : Int) {R : Type} (k : List E → Option R) : exec cl N c85 (params 0 [.v U1 x0]) (fun e env => (retK d85 e env).bind k) = g85 S111 x0 (fun (r0 : V3) => k [.v U4 r0]) := by
  have e0 : params 0 [.v U1 x0] = [(0, .v U1 x0)] := by kernel_rfl
  simp only [c85, e0, t85_3b S111 h111, rk85_0, Option.bind_some]
  rfl
def ctr85 (S : Int → Option V5) : Ctr := { A := Int × Unit, B := V3, f := 85, enc := fun a => [.v U1 a.1], dec := (decC (decV U1) dec0), S := fun a => S a.1, ent := fun b => [.v U4 b], ok := (decV_cons (T := U1) (fun es b h => dec0_some h)) }
def S85 (N : Nat) (x0 : Int) : Option V5 := g85 (S111 N) x0 (fun (r0 : V3) => some (r0))
def g53_2 (S85 : Int → Option V5) (k0 : V3 → Option R) (x0 : Int) : Option R :=
(S85 (if (0 : Int) > x0 then (0 : Int) else x0)).bind fun r414 =>
k0 r414
theorem t53_2 (S85) (h85 : (ctr85 S85).holds cl) (x0) : exec cl N c53_2 [(0, .v U1 x0)] K = (g53_2 S85 (fun y0 => exec cl N .ret [(2, .loc U4 .no y0)] K) x0) := by
  rw [← put_eq h85]
  kernel_rfl
def g53_2b (S85 : Int → Option V5) (k0 : V3 → Option R) (x0 : Int) : Option R :=
(g53_2 S85 k0 x0)
theorem t53_2b (S85) (h85 : (ctr85 S85).holds cl) (x0) : exec cl N c53_2 [(0, .v U1 x0)] K = (g53_2b S85 (fun y0 => K .ret [(2, .loc U4 .no y0)]) x0) := by
  simp only [exec_seq, seqK_normal, seqK_exit, seqK_ret, t53_2 S85 h85, exec_ret]
  rfl
theorem rk53_0 (y0) : retK d53 .ret [(2, .loc U4 .no y0)] = some [.v U4 y0] := by kernel_rfl
def g53 (S85 : Int → Option V5) (x0 : Int) (k : V3 → Option R) : Option R :=
(g53_2b S85 k x0)
theorem gen53 {N : Nat} {cl : Cal} (S85 : Int → Option V5) (h85 : (ctr85 S85).holds cl) (x0 : Int) {R : Type} (k : List E → Option R) : exec cl N c53 (params 0 [.v U1 x0]) (fun e env => (retK d53 e env).bind k) = g53 S85 x0 (fun (r0 : V3) => k [.v U4 r0]) := by
  have e0 : params 0 [.v U1 x0] = [(0, .v U1 x0)] := by kernel_rfl
  simp only [c53, e0, t53_2b S85 h85, rk53_0, Option.bind_some]
  rfl
def ctr53 (S : Int → Option V5) : Ctr := { A := Int × Unit, B := V3, f := 53, enc := fun a => [.v U1 a.1], dec := (decC (decV U1) dec0), S := fun a => S a.1, ent := fun b => [.v U4 b], ok := (decV_cons (T := U1) (fun es b h => dec0_some h)) }
def S53 (N : Nat) (x0 : Int) : Option V5 := g53 (S85 N) x0 (fun (r0 : V3) => some (r0))
def g112_0 (k0 : V0 → Int → Option R) (x0 : V0) (x1 : Int) : Option R :=
k0 x0 x1
theorem t112_0 (x0 x1) : exec cl N c112_0 (e95 x0 x1) K = (g112_0 (fun y0 y1 => K .normal (e95 y0 y1)) x0 x1) := by
  kernel_rfl
def g112_1 (k0 : V0 → Int → Bool → Option R) (x0 : V0) (x1 : Int) : Option R :=
k0 x0 x1 (decide (x1 < (x0.length : Int)))
theorem t112_1 (x0 x1) : exec cl N c112_1 (e95 x0 x1) K = (g112_1 (fun y0 y1 y2 => K .normal (e96 y0 y1 y2)) x0 x1) := by
  kernel_rfl
def g112_2 (k0 : Int → Option R) (x0 : V0) (x1 : Int) (x2 : Bool) : Option R :=
if 0 ≤ x1 ∧ x1 < (x0.length : Int) then
k0 (x0.getD x1.toNat (0 : Int))
else none
theorem t112_2 (x0 x1 x2) : exec cl N c112_2 (e96 x0 x1 x2) K = (g112_2 (fun y0 => K .normal [(4, .v U1 y0)]) x0 x1 x2) := by
  kernel_rfl
theorem kp112_0 (x0) : keep [4] [(4, .v U1 x0)] = [(4, .v U1 x0)] := by kernel_rfl
theorem kp112_1 (x0 x1 x2) : keep [4] (e96 x0 x1 x2) = [(4, .dead)] := by kernel_rfl
theorem hb112_0 (x0 x1 x2) : boolOf? (ent (e96 x0 x1 x2) (.t 8)) = some x2 := by kernel_rfl
def g112_4 (k0 : Int → Option R) : Option R :=
k0 (0 : Int)
theorem t112_4 : exec cl N c112_4 [(4, .dead)] K = (g112_4 (fun y0 => K .normal [(4, .v U1 y0)])) := by
  kernel_rfl
def g112_5 (k0 : Int → Option R) (x0 : V0) (x1 : Int) : Option R :=
(g112_0 (g112_1 (fun y0 y1 y2 => brB y2 (g112_2 k0 y0 y1 y2) (g112_4 k0))) x0 x1)
theorem t112_5 (x0 x1) : exec cl N c112_5 (e95 x0 x1) K = (g112_5 (fun y0 => K .ret [(4, .v U1 y0)]) x0 x1) := by
  simp only [c112_5, exec_seq, seqK_normal, seqK_exit, seqK_ret, t112_0, t112_1, c112_3, exec_out, exec_cond', hb112_0, Option.bind_some, brB_true, brB_false, t112_2, exec_ret, exec_skip, kp112_0, kp112_1, t112_4]
  rfl
theorem rk112_0 (y0) : retK d112 .ret [(4, .v U1 y0)] = some [.v U1 y0] := by kernel_rfl
def g112 (x0 : V0) (x1 : Int) (k : Int → Option R) : Option R :=
(g112_5 k x0 x1)
theorem gen112 {N : Nat} {cl : Cal} (x0 : V0) (x1 : Int) {R : Type} (k : List E → Option R) : exec cl N c112 (params 0 [.v U2 x0, .v U1 x1]) (fun e env => (retK d112 e env).bind k) = g112 x0 x1 (fun (r0 : Int) => k [.v U1 r0]) := by
  have e0 : params 0 [.v U2 x0, .v U1 x1] = (e95 x0 x1) := by kernel_rfl
  simp only [c112, e0, t112_5, rk112_0, Option.bind_some]
  rfl
def ctr112 (S : V0 → Int → Option (Int)) : Ctr := { A := V0 × Int × Unit, B := Int, f := 112, enc := fun a => [.v U2 a.1, .v U1 a.2.1], dec := (decC (decV U2) (decC (decV U1) dec0)), S := fun a => S a.1 a.2.1, ent := fun b => [.v U1 b], ok := (decV_cons (T := U2) (decV_cons (T := U1) (fun es b h => dec0_some h))) }
def S112 (N : Nat) (x0 : V0) (x1 : Int) : Option (Int) := g112 x0 x1 (fun (r0 : Int) => some (r0))
def g113_0 (k0 : V0 → Option R) (x0 : V0) : Option R :=
k0 x0
theorem t113_0 (x0) : exec cl N c113_0 [(0, .v U2 x0)] K = (g113_0 (fun y0 => K .normal [(0, .v U2 y0)]) x0) := by
  kernel_rfl
theorem kp113_0 (x0) : keep [0] [(0, .v U2 x0)] = [(0, .v U2 x0)] := by kernel_rfl
def g113_1 (k0 : V0 → Bool → Option R) (x0 : V0) : Option R :=
brB (decide ((x0.length : Int) > (0 : Int))) (let v462 : Int := (IntKind.i64.wrap ((x0.length : Int) - (1 : Int)))
if 0 ≤ v462 ∧ v462 < (x0.length : Int) then
k0 x0 ((x0.getD v462.toNat (0 : Int)) == (0 : Int))
else none) (k0 x0 false)
theorem t113_1 (x0) : exec cl N c113_1 [(0, .v U2 x0)] K = (g113_1 (fun y0 y1 => K .normal (e1 y0 y1)) x0) := by
  kernel_rfl
theorem kp113_1 (x0 x1) : keep [0] (e1 x0 x1) = [(0, .v U2 x0)] := by kernel_rfl
theorem hb113_0 (x0 x1) : boolOf? (ent (e1 x0 x1) (.t 14)) = some x1 := by kernel_rfl
def g113_3 (k0 : V0 → Option R) (x0 : V0) : Option R :=
let v464 : Int := (IntKind.i64.wrap ((x0.length : Int) - (1 : Int)))
if 0 ≤ (0 : Int) ∧ (0 : Int) ≤ v464 ∧ v464 ≤ (x0.length : Int) ∧ (x0.length : Int) ≤ (x0.length : Int) then
k0 ((x0.drop (0 : Int).toNat).take (v464.toNat - (0 : Int).toNat))
else none
theorem t113_3 (x0) : exec cl N c113_3 [(0, .v U2 x0)] K = (g113_3 (fun y0 => K .normal [(0, .v U2 y0)]) x0) := by
  kernel_rfl
def g113_5 (k0 : V0 → Option R) (k1 : V0 → Option R) (x0 : V0) : Option R :=
(g113_1 (fun y0 y1 => brB y1 ((g113_3 k0) y0) (k1 y0)) x0)
theorem t113_5 (x0) : exec cl N c113_5 [(0, .v U2 x0)] K = (g113_5 (fun y0 => K .normal [(0, .v U2 y0)]) (fun y0 => K (.exit 0) [(0, .v U2 y0)]) x0) := by
  simp only [c113_5, exec_seq, seqK_normal, seqK_exit, seqK_ret, t113_1, c113_2, exec_out, exec_cond', hb113_0, Option.bind_some, brB_true, brB_false, exec_skip, exec_exit, kp113_1, c113_4, exec_block, t113_3, blockK_normal, blockK_ret, blockK_eq, kp113_0]
  rfl
def l113_6 {R : Type} (k0 : V0 → Option R) : Nat → V0 → Option R
  | 0, _ => none
  | m + 1, x0 => (g113_5 (l113_6 k0 m) k0 x0)
theorem lt113_6 : ∀ (m) (x0), iter [0] (fun env K => exec cl N c113_5 env K) K m [(0, .v U2 x0)] = l113_6 (fun y0 => K (.exit 0) [(0, .v U2 y0)]) m x0 := by
  intro m
  induction m with
  | zero => intros; rfl
  | succ m ih =>
    intro x0
    simp only [iter_succ, t113_5, loopK_normal, loopK_exit, loopK_ret, kp113_0, ih]
    rfl
def g113_6 (N : Nat) (k0 : V0 → Option R) (x0 : V0) : Option R :=
l113_6 k0 N x0
theorem t113_6 (x0) : exec cl N c113_6 [(0, .v U2 x0)] K = (g113_6 N (fun y0 => K (.exit 0) [(0, .v U2 y0)]) x0) := by
  simp only [c113_6, exec_out, exec_loop, kp113_0, lt113_6, kp113_0]
  rfl
def g113_8 (k0 : V0 → Option R) (x0 : V0) : Option R :=
k0 x0
theorem t113_8 (x0) : exec cl N c113_8 [(0, .v U2 x0)] K = (g113_8 (fun y0 => K .normal [(2, .v U2 y0)]) x0) := by
  kernel_rfl
def g113_9 (N : Nat) (k0 : V0 → Option R) (x0 : V0) : Option R :=
(g113_0 (g113_6 N ((g113_8 k0))) x0)
theorem t113_9 (x0) : exec cl N c113_9 [(0, .v U2 x0)] K = (g113_9 N (fun y0 => K .ret [(2, .v U2 y0)]) x0) := by
  simp only [c113_9, exec_seq, seqK_normal, seqK_exit, seqK_ret, t113_0, c113_7, exec_out, exec_block, t113_6, blockK_normal, blockK_ret, blockK_eq, kp113_0, t113_8, exec_ret]
  rfl
theorem rk113_0 (y0) : retK d113 .ret [(2, .v U2 y0)] = some [.v U2 y0] := by kernel_rfl
def g113 (N : Nat) (x0 : V0) (k : V0 → Option R) : Option R :=
(g113_9 N k x0)
theorem gen113 {N : Nat} {cl : Cal} (x0 : V0) {R : Type} (k : List E → Option R) : exec cl N c113 (params 0 [.v U2 x0]) (fun e env => (retK d113 e env).bind k) = g113 N x0 (fun (r0 : V0) => k [.v U2 r0]) := by
  have e0 : params 0 [.v U2 x0] = [(0, .v U2 x0)] := by kernel_rfl
  simp only [c113, e0, t113_9, rk113_0, Option.bind_some]
  rfl
def ctr113 (S : V0 → Option V1) : Ctr := { A := V0 × Unit, B := V0, f := 113, enc := fun a => [.v U2 a.1], dec := (decC (decV U2) dec0), S := fun a => S a.1, ent := fun b => [.v U2 b], ok := (decV_cons (T := U2) (fun es b h => dec0_some h)) }
def S113 (N : Nat) (x0 : V0) : Option V1 := g113 N x0 (fun (r0 : V0) => some (r0))
def g88_25 (k0 : V0 → V0 → V0 → Option R) (x0 x1 : V0) : Option R :=
let v468 : Int := (IntKind.i64.wrap ((IntKind.i64.wrap ((x0.length : Int) + (x1.length : Int))) + (1 : Int)))
if 0 ≤ v468 ∧ v468 ≤ v468 ∧ v468 ≤ ((17592186044416 : Nat) : Int) then
k0 x0 x1 (List.replicate v468.toNat (0 : Int))
else none
theorem t88_25 (x0 x1) : exec cl N c88_25 (e14 x0 x1) K = (g88_25 (fun y0 y1 y2 => exec cl N (.seq (.seq c88_2 c88_23) (.seq c88_24 .ret)) (e15 y0 y1 y2) K) x0 x1) := by
  kernel_rfl
def g88_2 (k0 : V0 → V0 → V0 → Int → Option R) (x0 x1 x2 : V0) : Option R :=
k0 x0 x1 x2 (0 : Int)
theorem t88_2 (x0 x1 x2) : exec cl N c88_2 (e15 x0 x1 x2) K = (g88_2 (fun y0 y1 y2 y3 => K .normal (e97 y0 y1 y2 y3)) x0 x1 x2) := by
  kernel_rfl
theorem kp88_0 (x0 x1 x2 x3) : keep [0, 1, 5, 6] (e97 x0 x1 x2 x3) = (e97 x0 x1 x2 x3) := by kernel_rfl
def g88_3 (k0 : V0 → V0 → V0 → Int → Bool → Option R) (x0 x1 x2 : V0) (x3 : Int) : Option R :=
k0 x0 x1 x2 x3 (decide (x3 < (x0.length : Int)))
theorem t88_3 (x0 x1 x2 x3) : exec cl N c88_3 (e97 x0 x1 x2 x3) K = (g88_3 (fun y0 y1 y2 y3 y4 => K .normal (e98 y0 y1 y2 y3 y4)) x0 x1 x2 x3) := by
  kernel_rfl
theorem kp88_1 (x0 x1 x2 x3 x4) : keep [0, 1, 5, 6] (e98 x0 x1 x2 x3 x4) = (e97 x0 x1 x2 x3) := by kernel_rfl
theorem hb88_0 (x0 x1 x2 x3 x4) : boolOf? (ent (e98 x0 x1 x2 x3 x4) (.t 20)) = some x4 := by kernel_rfl
def g88_18 (k0 : V0 → V0 → V0 → Int → Int → Int → Option R) (x0 x1 x2 : V0) (x3 : Int) : Option R :=
k0 x0 x1 x2 x3 (0 : Int) (0 : Int)
theorem t88_18 (x0 x1 x2 x3) : exec cl N c88_18 (e97 x0 x1 x2 x3) K = (g88_18 (fun y0 y1 y2 y3 y4 y5 => exec cl N c88_17 (e99 y0 y1 y2 y3 y4 y5) K) x0 x1 x2 x3) := by
  kernel_rfl
theorem kp88_2 (x0 x1 x2 x3 x4 x5) : keep [0, 1, 5, 6, 7, 8] (e99 x0 x1 x2 x3 x4 x5) = (e99 x0 x1 x2 x3 x4 x5) := by kernel_rfl
def g88_7 (k0 : V0 → V0 → V0 → Int → Int → Int → Bool → Option R) (x0 x1 x2 : V0) (x3 x4 x5 : Int) : Option R :=
brB (decide (x5 < (x1.length : Int))) (k0 x0 x1 x2 x3 x4 x5 true) (k0 x0 x1 x2 x3 x4 x5 (decide (x4 > (0 : Int))))
theorem t88_7 (x0 x1 x2 x3 x4 x5) : exec cl N c88_7 (e99 x0 x1 x2 x3 x4 x5) K = (g88_7 (fun y0 y1 y2 y3 y4 y5 y6 => K .normal (e100 y0 y1 y2 y3 y4 y5 y6)) x0 x1 x2 x3 x4 x5) := by
  kernel_rfl
theorem kp88_3 (x0 x1 x2 x3 x4 x5 x6) : keep [0, 1, 5, 6, 7, 8] (e100 x0 x1 x2 x3 x4 x5 x6) = (e99 x0 x1 x2 x3 x4 x5) := by kernel_rfl
theorem hb88_1 (x0 x1 x2 x3 x4 x5 x6) : boolOf? (ent (e100 x0 x1 x2 x3 x4 x5 x6) (.t 30)) = some x6 := by kernel_rfl
def g88_12 (S112 : V0 → Int → Option (Int)) (k0 : V0 → V0 → V0 → Int → Int → Int → Option R) (x0 x1 x2 : V0) (x3 x4 x5 : Int) : Option R :=
let v486 : Int := (IntKind.i64.wrap (x3 + x5))
if 0 ≤ v486 ∧ v486 < (x2.length : Int) then
if v486.toNat < x2.length then
if 0 ≤ x3 ∧ x3 < (x0.length : Int) then
(S112 x1 x5).bind fun r488 =>
let v491 : Int := (IntKind.i64.wrap ((IntKind.i64.wrap ((x2.getD v486.toNat (0 : Int)) + (IntKind.i64.wrap ((x0.getD x3.toNat (0 : Int)) * r488)))) + x4))
let v492 : Int := (IntKind.i64.wrap (x3 + x5))
if 0 ≤ v492 ∧ v492 < (x2.length : Int) then
if v492.toNat < x2.length then
k0 x0 x1 (x2.set v492.toNat (Int.tmod v491 (10000 : Int))) x3 (IntKind.i64.wrap (Int.tdiv v491 (10000 : Int))) x5
else none
else none
else none
else none
else none
theorem t88_12 (S112) (h112 : (ctr112 S112).holds cl) (x0 x1 x2 x3 x4 x5) : exec cl N c88_12 (e99 x0 x1 x2 x3 x4 x5) K = (g88_12 S112 (fun y0 y1 y2 y3 y4 y5 => K .normal (e99 y0 y1 y2 y3 y4 y5)) x0 x1 x2 x3 x4 x5) := by
  rw [← put_eq h112]
  kernel_rfl
def g88_14 (k0 : V0 → V0 → V0 → Int → Int → Int → Option R) (x0 x1 x2 : V0) (x3 x4 x5 : Int) : Option R :=
k0 x0 x1 x2 x3 x4 (IntKind.i64.wrap (x5 + (1 : Int)))
theorem t88_14 (x0 x1 x2 x3 x4 x5) : exec cl N c88_14 (e99 x0 x1 x2 x3 x4 x5) K = (g88_14 (fun y0 y1 y2 y3 y4 y5 => K .normal (e99 y0 y1 y2 y3 y4 y5)) x0 x1 x2 x3 x4 x5) := by
  kernel_rfl
def g88_15 (S112 : V0 → Int → Option (Int)) (k0 : V0 → V0 → V0 → Int → Int → Int → Option R) (k1 : V0 → V0 → V0 → Int → Int → Int → Option R) (x0 x1 x2 : V0) (x3 x4 x5 : Int) : Option R :=
(g88_7 (fun y0 y1 y2 y3 y4 y5 y6 => brB y6 ((g88_12 S112 ((g88_14 k0))) y0 y1 y2 y3 y4 y5) (k1 y0 y1 y2 y3 y4 y5)) x0 x1 x2 x3 x4 x5)
theorem t88_15 (S112) (h112 : (ctr112 S112).holds cl) (x0 x1 x2 x3 x4 x5) : exec cl N c88_15 (e99 x0 x1 x2 x3 x4 x5) K = (g88_15 S112 (fun y0 y1 y2 y3 y4 y5 => K .normal (e99 y0 y1 y2 y3 y4 y5)) (fun y0 y1 y2 y3 y4 y5 => K (.exit 2) (e99 y0 y1 y2 y3 y4 y5)) x0 x1 x2 x3 x4 x5) := by
  simp only [c88_15, exec_seq, seqK_normal, seqK_exit, seqK_ret, t88_7, c88_8, exec_out, exec_cond', hb88_1, Option.bind_some, brB_true, brB_false, exec_skip, exec_exit, kp88_3, c88_13, exec_block, t88_12 S112 h112, blockK_normal, blockK_ret, blockK_eq, kp88_2, t88_14]
  rfl
def l88_16 {R : Type} (S112 : V0 → Int → Option (Int)) (k0 : V0 → V0 → V0 → Int → Int → Int → Option R) : Nat → V0 → V0 → V0 → Int → Int → Int → Option R
  | 0, _, _, _, _, _, _ => none
  | m + 1, x0, x1, x2, x3, x4, x5 => (g88_15 S112 (l88_16 S112 k0 m) k0 x0 x1 x2 x3 x4 x5)
theorem lt88_16 (S112) (h112 : (ctr112 S112).holds cl) : ∀ (m) (x0 x1 x2 x3 x4 x5), iter [0, 1, 5, 6, 7, 8] (fun env K => exec cl N c88_15 env K) K m (e99 x0 x1 x2 x3 x4 x5) = l88_16 S112 (fun y0 y1 y2 y3 y4 y5 => K (.exit 2) (e99 y0 y1 y2 y3 y4 y5)) m x0 x1 x2 x3 x4 x5 := by
  intro m
  induction m with
  | zero => intros; rfl
  | succ m ih =>
    intro x0 x1 x2 x3 x4 x5
    simp only [iter_succ, t88_15 S112 h112, loopK_normal, loopK_exit, loopK_ret, kp88_2, ih]
    rfl
theorem kp88_4 (x0 x1 x2 x3 x4 x5) : keep [0, 1, 5, 6] (e99 x0 x1 x2 x3 x4 x5) = (e97 x0 x1 x2 x3) := by kernel_rfl
def g88_16 (N : Nat) (S112 : V0 → Int → Option (Int)) (k0 : V0 → V0 → V0 → Int → Option R) (x0 x1 x2 : V0) (x3 x4 x5 : Int) : Option R :=
l88_16 S112 (fun y0 y1 y2 y3 y4 y5 => k0 y0 y1 y2 y3) N x0 x1 x2 x3 x4 x5
theorem t88_16 (S112) (h112 : (ctr112 S112).holds cl) (x0 x1 x2 x3 x4 x5) : exec cl N c88_16 (e99 x0 x1 x2 x3 x4 x5) K = (g88_16 N S112 (fun y0 y1 y2 y3 => K (.exit 2) (e97 y0 y1 y2 y3)) x0 x1 x2 x3 x4 x5) := by
  simp only [c88_16, exec_out, exec_loop, kp88_2, lt88_16 S112 h112, kp88_4]
  rfl
def g88_20 (k0 : V0 → V0 → V0 → Int → Option R) (x0 x1 x2 : V0) (x3 : Int) : Option R :=
k0 x0 x1 x2 (IntKind.i64.wrap (x3 + (1 : Int)))
theorem t88_20 (x0 x1 x2 x3) : exec cl N c88_20 (e97 x0 x1 x2 x3) K = (g88_20 (fun y0 y1 y2 y3 => K .normal (e97 y0 y1 y2 y3)) x0 x1 x2 x3) := by
  kernel_rfl
def g88_21 (N : Nat) (S112 : V0 → Int → Option (Int)) (k0 : V0 → V0 → V0 → Int → Option R) (k1 : V0 → V0 → V0 → Int → Option R) (x0 x1 x2 : V0) (x3 : Int) : Option R :=
(g88_3 (fun y0 y1 y2 y3 y4 => brB y4 ((g88_18 (g88_16 N S112 (((g88_20 k0))))) y0 y1 y2 y3) (k1 y0 y1 y2 y3)) x0 x1 x2 x3)
theorem t88_21 (S112) (h112 : (ctr112 S112).holds cl) (x0 x1 x2 x3) : exec cl N c88_21 (e97 x0 x1 x2 x3) K = (g88_21 N S112 (fun y0 y1 y2 y3 => K .normal (e97 y0 y1 y2 y3)) (fun y0 y1 y2 y3 => K (.exit 0) (e97 y0 y1 y2 y3)) x0 x1 x2 x3) := by
  simp only [c88_21, exec_seq, seqK_normal, seqK_exit, seqK_ret, t88_3, c88_4, exec_out, exec_cond', hb88_0, Option.bind_some, brB_true, brB_false, exec_skip, exec_exit, kp88_1, c88_19, exec_block, t88_18, c88_17, t88_16 S112 h112, blockK_normal, blockK_ret, blockK_eq, kp88_0, t88_20]
  rfl
def l88_22 {R : Type} (N : Nat) (S112 : V0 → Int → Option (Int)) (k0 : V0 → V0 → V0 → Int → Option R) : Nat → V0 → V0 → V0 → Int → Option R
  | 0, _, _, _, _ => none
  | m + 1, x0, x1, x2, x3 => (g88_21 N S112 (l88_22 N S112 k0 m) k0 x0 x1 x2 x3)
theorem lt88_22 (S112) (h112 : (ctr112 S112).holds cl) : ∀ (m) (x0 x1 x2 x3), iter [0, 1, 5, 6] (fun env K => exec cl N c88_21 env K) K m (e97 x0 x1 x2 x3) = l88_22 N S112 (fun y0 y1 y2 y3 => K (.exit 0) (e97 y0 y1 y2 y3)) m x0 x1 x2 x3 := by
  intro m
  induction m with
  | zero => intros; rfl
  | succ m ih =>
    intro x0 x1 x2 x3
    simp only [iter_succ, t88_21 S112 h112, loopK_normal, loopK_exit, loopK_ret, kp88_0, ih]
    rfl
theorem kp88_5 (x0 x1 x2 x3) : keep [5] (e97 x0 x1 x2 x3) = (e22 x2) := by kernel_rfl
def g88_22 (N : Nat) (S112 : V0 → Int → Option (Int)) (k0 : V0 → Option R) (x0 x1 x2 : V0) (x3 : Int) : Option R :=
l88_22 N S112 (fun y0 y1 y2 y3 => k0 y2) N x0 x1 x2 x3
theorem t88_22 (S112) (h112 : (ctr112 S112).holds cl) (x0 x1 x2 x3) : exec cl N c88_22 (e97 x0 x1 x2 x3) K = (g88_22 N S112 (fun y0 => K (.exit 0) (e22 y0)) x0 x1 x2 x3) := by
  simp only [c88_22, exec_out, exec_loop, kp88_0, lt88_22 S112 h112, kp88_5]
  rfl
theorem kp88_6 (x0) : keep [5] (e22 x0) = (e22 x0) := by kernel_rfl
def g88_24 (S113 : V0 → Option V1) (k0 : V0 → Option R) (x0 : V0) : Option R :=
(S113 x0).bind fun r497 =>
k0 r497
theorem t88_24 (S113) (h113 : (ctr113 S113).holds cl) (x0) : exec cl N c88_24 (e22 x0) K = (g88_24 S113 (fun y0 => K .normal [(4, .v U2 y0)]) x0) := by
  rw [← put_eq h113]
  kernel_rfl
def g88_25b (N : Nat) (S112 : V0 → Int → Option (Int)) (S113 : V0 → Option V1) (k0 : V0 → Option R) (x0 x1 : V0) : Option R :=
(g88_25 (g88_2 (g88_22 N S112 ((g88_24 S113 k0)))) x0 x1)
theorem t88_25b (S112) (S113) (h112 : (ctr112 S112).holds cl) (h113 : (ctr113 S113).holds cl) (x0 x1) : exec cl N c88_25 (e14 x0 x1) K = (g88_25b N S112 S113 (fun y0 => K .ret [(4, .v U2 y0)]) x0 x1) := by
  simp only [exec_seq, seqK_normal, seqK_exit, seqK_ret, t88_25, t88_2, c88_23, exec_out, exec_block, t88_22 S112 h112, blockK_normal, blockK_ret, blockK_eq, kp88_6, t88_24 S113 h113, exec_ret]
  rfl
theorem rk88_0 (y0) : retK d88 .ret [(4, .v U2 y0)] = some [.v U2 y0] := by kernel_rfl
def g88 (N : Nat) (S112 : V0 → Int → Option (Int)) (S113 : V0 → Option V1) (x0 x1 : V0) (k : V0 → Option R) : Option R :=
(g88_25b N S112 S113 k x0 x1)
theorem gen88 {N : Nat} {cl : Cal} (S112 : V0 → Int → Option (Int)) (S113 : V0 → Option V1) (h112 : (ctr112 S112).holds cl) (h113 : (ctr113 S113).holds cl) (x0 : V0) (x1 : V0) {R : Type} (k : List E → Option R) : exec cl N c88 (params 0 [.v U2 x0, .v U2 x1]) (fun e env => (retK d88 e env).bind k) = g88 N S112 S113 x0 x1 (fun (r0 : V0) => k [.v U2 r0]) := by
  have e0 : params 0 [.v U2 x0, .v U2 x1] = (e14 x0 x1) := by kernel_rfl
  simp only [c88, e0, t88_25b S112 S113 h112 h113, rk88_0, Option.bind_some]
  rfl
def ctr88 (S : V0 → V0 → Option V1) : Ctr := { A := V0 × V0 × Unit, B := V0, f := 88, enc := fun a => [.v U2 a.1, .v U2 a.2.1], dec := (decC (decV U2) (decC (decV U2) dec0)), S := fun a => S a.1 a.2.1, ent := fun b => [.v U2 b], ok := (decV_cons (T := U2) (decV_cons (T := U2) (fun es b h => dec0_some h))) }
def S88 (N : Nat) (x0 : V0) (x1 : V0) : Option V1 := g88 N (S112 N) (S113 N) x0 x1 (fun (r0 : V0) => some (r0))
def g90_0 (k0 : V0 → V0 → Option R) (x0 x1 : V0) : Option R :=
k0 x0 x1
theorem t90_0 (x0 x1) : exec cl N c90_0 (e14 x0 x1) K = (g90_0 (fun y0 y1 => K .normal (e14 y0 y1)) x0 x1) := by
  kernel_rfl
def g90_1 (k0 : V0 → V0 → Bool → Option R) (x0 x1 : V0) : Option R :=
k0 x0 x1 (decide ((x0.length : Int) < (x1.length : Int)))
theorem t90_1 (x0 x1) : exec cl N c90_1 (e14 x0 x1) K = (g90_1 (fun y0 y1 y2 => K .normal (e23 y0 y1 y2)) x0 x1) := by
  kernel_rfl
def g90_2 (k0 : Int → Option R) (x0 x1 : V0) (x2 : Bool) : Option R :=
k0 (-1 : Int)
theorem t90_2 (x0 x1 x2) : exec cl N c90_2 (e23 x0 x1 x2) K = (g90_2 (fun y0 => K .normal [(4, .v U1 y0)]) x0 x1 x2) := by
  kernel_rfl
theorem kp90_0 (x0) : keep [0, 1, 4] [(4, .v U1 x0)] = (e24 x0) := by kernel_rfl
theorem kp90_1 (x0 x1 x2) : keep [0, 1, 4] (e23 x0 x1 x2) = (e25 x0 x1) := by kernel_rfl
theorem hb90_0 (x0 x1 x2) : boolOf? (ent (e23 x0 x1 x2) (.t 10)) = some x2 := by kernel_rfl
def g90_4 (k0 : V0 → V0 → Bool → Option R) (x0 x1 : V0) : Option R :=
k0 x0 x1 (decide ((x0.length : Int) > (x1.length : Int)))
theorem t90_4 (x0 x1) : exec cl N c90_4 (e25 x0 x1) K = (g90_4 (fun y0 y1 y2 => K .normal (e101 y0 y1 y2)) x0 x1) := by
  kernel_rfl
def g90_5 (k0 : Int → Option R) (x0 x1 : V0) (x2 : Bool) : Option R :=
k0 (1 : Int)
theorem t90_5 (x0 x1 x2) : exec cl N c90_5 (e101 x0 x1 x2) K = (g90_5 (fun y0 => K .normal [(4, .v U1 y0)]) x0 x1 x2) := by
  kernel_rfl
theorem kp90_2 (x0 x1 x2) : keep [0, 1, 4] (e101 x0 x1 x2) = (e25 x0 x1) := by kernel_rfl
theorem hb90_1 (x0 x1 x2) : boolOf? (ent (e101 x0 x1 x2) (.t 15)) = some x2 := by kernel_rfl
def g90_7 (k0 : V0 → V0 → Int → Option R) (x0 x1 : V0) : Option R :=
k0 x0 x1 (IntKind.i64.wrap ((x0.length : Int) - (1 : Int)))
theorem t90_7 (x0 x1) : exec cl N c90_7 (e25 x0 x1) K = (g90_7 (fun y0 y1 y2 => K .normal (e26 y0 y1 y2)) x0 x1) := by
  kernel_rfl
theorem kp90_3 (x0 x1 x2) : keep [0, 1, 5] (e26 x0 x1 x2) = (e26 x0 x1 x2) := by kernel_rfl
def g90_8 (k0 : V0 → V0 → Int → Bool → Option R) (x0 x1 : V0) (x2 : Int) : Option R :=
k0 x0 x1 x2 (decide (x2 ≥ (0 : Int)))
theorem t90_8 (x0 x1 x2) : exec cl N c90_8 (e26 x0 x1 x2) K = (g90_8 (fun y0 y1 y2 y3 => K .normal (e27 y0 y1 y2 y3)) x0 x1 x2) := by
  kernel_rfl
theorem kp90_4 (x0 x1 x2 x3) : keep [0, 1, 5] (e27 x0 x1 x2 x3) = (e26 x0 x1 x2) := by kernel_rfl
theorem hb90_2 (x0 x1 x2 x3) : boolOf? (ent (e27 x0 x1 x2 x3) (.t 20)) = some x3 := by kernel_rfl
def g90_10 (k0 : V0 → V0 → Int → Bool → Option R) (x0 x1 : V0) (x2 : Int) : Option R :=
if 0 ≤ x2 ∧ x2 < (x0.length : Int) then
if 0 ≤ x2 ∧ x2 < (x1.length : Int) then
k0 x0 x1 x2 (decide ((x0.getD x2.toNat (0 : Int)) < (x1.getD x2.toNat (0 : Int))))
else none
else none
theorem t90_10 (x0 x1 x2) : exec cl N c90_10 (e26 x0 x1 x2) K = (g90_10 (fun y0 y1 y2 y3 => K .normal (e28 y0 y1 y2 y3)) x0 x1 x2) := by
  kernel_rfl
def g90_11 (k0 : Int → Option R) (x0 x1 : V0) (x2 : Int) (x3 : Bool) : Option R :=
k0 (-1 : Int)
theorem t90_11 (x0 x1 x2 x3) : exec cl N c90_11 (e28 x0 x1 x2 x3) K = (g90_11 (fun y0 => K .normal [(4, .v U1 y0)]) x0 x1 x2 x3) := by
  kernel_rfl
theorem kp90_5 (x0) : keep [0, 1, 4, 5] [(4, .v U1 x0)] = (e29 x0) := by kernel_rfl
theorem kp90_6 (x0 x1 x2 x3) : keep [0, 1, 4, 5] (e28 x0 x1 x2 x3) = (e30 x0 x1 x2) := by kernel_rfl
theorem hb90_3 (x0 x1 x2 x3) : boolOf? (ent (e28 x0 x1 x2 x3) (.t 31)) = some x3 := by kernel_rfl
def g90_13 (k0 : V0 → V0 → Int → Bool → Option R) (x0 x1 : V0) (x2 : Int) : Option R :=
if 0 ≤ x2 ∧ x2 < (x0.length : Int) then
if 0 ≤ x2 ∧ x2 < (x1.length : Int) then
k0 x0 x1 x2 (decide ((x0.getD x2.toNat (0 : Int)) > (x1.getD x2.toNat (0 : Int))))
else none
else none
theorem t90_13 (x0 x1 x2) : exec cl N c90_13 (e30 x0 x1 x2) K = (g90_13 (fun y0 y1 y2 y3 => K .normal (e102 y0 y1 y2 y3)) x0 x1 x2) := by
  kernel_rfl
def g90_14 (k0 : Int → Option R) (x0 x1 : V0) (x2 : Int) (x3 : Bool) : Option R :=
k0 (1 : Int)
theorem t90_14 (x0 x1 x2 x3) : exec cl N c90_14 (e102 x0 x1 x2 x3) K = (g90_14 (fun y0 => K .normal [(4, .v U1 y0)]) x0 x1 x2 x3) := by
  kernel_rfl
theorem kp90_7 (x0 x1 x2 x3) : keep [0, 1, 4, 5] (e102 x0 x1 x2 x3) = (e30 x0 x1 x2) := by kernel_rfl
theorem hb90_4 (x0 x1 x2 x3) : boolOf? (ent (e102 x0 x1 x2 x3) (.t 40)) = some x3 := by kernel_rfl
theorem kp90_8 (x0) : keep [0, 1, 4, 5] (e29 x0) = (e29 x0) := by kernel_rfl
theorem kp90_9 (x0 x1 x2) : keep [0, 1, 4, 5] (e30 x0 x1 x2) = (e30 x0 x1 x2) := by kernel_rfl
def g90_17 (k0 : V0 → V0 → Int → Option R) (x0 x1 : V0) (x2 : Int) : Option R :=
k0 x0 x1 (IntKind.i64.wrap (x2 - (1 : Int)))
theorem t90_17 (x0 x1 x2) : exec cl N c90_17 (e30 x0 x1 x2) K = (g90_17 (fun y0 y1 y2 => K .normal (e26 y0 y1 y2)) x0 x1 x2) := by
  kernel_rfl
def g90_18 (k0 : Int → Option R) (k1 : V0 → V0 → Int → Option R) (k2 : V0 → V0 → Int → Option R) (x0 x1 : V0) (x2 : Int) : Option R :=
(g90_8 (fun y0 y1 y2 y3 => brB y3 ((g90_10 (fun y0 y1 y2 y3 => brB y3 (g90_11 k0 y0 y1 y2 y3) ((g90_13 (fun y0 y1 y2 y3 => brB y3 (g90_14 k0 y0 y1 y2 y3) (((g90_17 k1)) y0 y1 y2))) y0 y1 y2))) y0 y1 y2) (k2 y0 y1 y2)) x0 x1 x2)
theorem t90_18 (x0 x1 x2) : exec cl N c90_18 (e26 x0 x1 x2) K = (g90_18 (fun y0 => K .ret (e29 y0)) (fun y0 y1 y2 => K .normal (e26 y0 y1 y2)) (fun y0 y1 y2 => K (.exit 0) (e26 y0 y1 y2)) x0 x1 x2) := by
  simp only [c90_18, exec_seq, seqK_normal, seqK_exit, seqK_ret, t90_8, c90_9, exec_out, exec_cond', hb90_2, Option.bind_some, brB_true, brB_false, exec_skip, exec_exit, kp90_4, c90_16, exec_block, t90_10, c90_12, hb90_3, t90_11, exec_ret, kp90_5, kp90_6, t90_13, c90_15, hb90_4, t90_14, kp90_7, blockK_normal, blockK_ret, blockK_eq, kp90_8, kp90_9, t90_17]
  rfl
def l90_19 {R : Type} (k0 : Int → Option R) (k1 : V0 → V0 → Int → Option R) : Nat → V0 → V0 → Int → Option R
  | 0, _, _, _ => none
  | m + 1, x0, x1, x2 => (g90_18 k0 (l90_19 k0 k1 m) k1 x0 x1 x2)
theorem lt90_19 : ∀ (m) (x0 x1 x2), iter [0, 1, 5] (fun env K => exec cl N c90_18 env K) K m (e26 x0 x1 x2) = l90_19 (fun y0 => K .ret (e29 y0)) (fun y0 y1 y2 => K (.exit 0) (e26 y0 y1 y2)) m x0 x1 x2 := by
  intro m
  induction m with
  | zero => intros; rfl
  | succ m ih =>
    intro x0 x1 x2
    simp only [iter_succ, t90_18, loopK_normal, loopK_exit, loopK_ret, kp90_3, ih]
    rfl
theorem kp90_10 (x0) : keep [4] (e29 x0) = [(4, .v U1 x0)] := by kernel_rfl
theorem kp90_11 (x0 x1 x2) : keep [4] (e26 x0 x1 x2) = [(4, .dead)] := by kernel_rfl
def g90_19 (N : Nat) (k0 : Int → Option R) (k1 : Option R) (x0 x1 : V0) (x2 : Int) : Option R :=
l90_19 k0 (fun y0 y1 y2 => k1) N x0 x1 x2
theorem t90_19 (x0 x1 x2) : exec cl N c90_19 (e26 x0 x1 x2) K = (g90_19 N (fun y0 => K .ret [(4, .v U1 y0)]) (K (.exit 0) [(4, .dead)]) x0 x1 x2) := by
  simp only [c90_19, exec_out, exec_loop, kp90_3, lt90_19, kp90_10, kp90_11]
  rfl
theorem kp90_12 (x0) : keep [4] [(4, .v U1 x0)] = [(4, .v U1 x0)] := by kernel_rfl
theorem kp90_13 : keep [4] [(4, .dead)] = [(4, .dead)] := by kernel_rfl
def g90_21 (k0 : Int → Option R) : Option R :=
k0 (0 : Int)
theorem t90_21 : exec cl N c90_21 [(4, .dead)] K = (g90_21 (fun y0 => K .normal [(4, .v U1 y0)])) := by
  kernel_rfl
def g90_22 (N : Nat) (k0 : Int → Option R) (k1 : Int → Option R) (x0 x1 : V0) : Option R :=
(g90_0 (g90_1 (fun y0 y1 y2 => brB y2 (g90_2 k0 y0 y1 y2) ((g90_4 (fun y0 y1 y2 => brB y2 (g90_5 k0 y0 y1 y2) ((g90_7 (g90_19 N k1 (g90_21 k1))) y0 y1))) y0 y1))) x0 x1)
theorem t90_22 (x0 x1) : exec cl N c90_22 (e14 x0 x1) K = (g90_22 N (fun y0 => K .ret (e24 y0)) (fun y0 => K .ret [(4, .v U1 y0)]) x0 x1) := by
  simp only [c90_22, exec_seq, seqK_normal, seqK_exit, seqK_ret, t90_0, t90_1, c90_3, exec_out, exec_cond', hb90_0, Option.bind_some, brB_true, brB_false, t90_2, exec_ret, exec_skip, kp90_0, kp90_1, t90_4, c90_6, hb90_1, t90_5, kp90_2, t90_7, c90_20, exec_block, t90_19, blockK_normal, blockK_ret, blockK_eq, kp90_12, kp90_13, t90_21]
  rfl
theorem rk90_0 (y0) : retK d90 .ret (e24 y0) = some [.v U1 y0] := by kernel_rfl
theorem rk90_1 (y0) : retK d90 .ret [(4, .v U1 y0)] = some [.v U1 y0] := by kernel_rfl
def g90 (N : Nat) (x0 x1 : V0) (k : Int → Option R) : Option R :=
(g90_22 N k k x0 x1)
theorem gen90 {N : Nat} {cl : Cal} (x0 : V0) (x1 : V0) {R : Type} (k : List E → Option R) : exec cl N c90 (params 0 [.v U2 x0, .v U2 x1]) (fun e env => (retK d90 e env).bind k) = g90 N x0 x1 (fun (r0 : Int) => k [.v U1 r0]) := by
  have e0 : params 0 [.v U2 x0, .v U2 x1] = (e14 x0 x1) := by kernel_rfl
  simp only [c90, e0, t90_22, rk90_0, rk90_1, Option.bind_some]
  rfl
def ctr90 (S : V0 → V0 → Option (Int)) : Ctr := { A := V0 × V0 × Unit, B := Int, f := 90, enc := fun a => [.v U2 a.1, .v U2 a.2.1], dec := (decC (decV U2) (decC (decV U2) dec0)), S := fun a => S a.1 a.2.1, ent := fun b => [.v U1 b], ok := (decV_cons (T := U2) (decV_cons (T := U2) (fun es b h => dec0_some h))) }
def S90 (N : Nat) (x0 : V0) (x1 : V0) : Option (Int) := g90 N x0 x1 (fun (r0 : Int) => some (r0))
end Go.Fw.L51
