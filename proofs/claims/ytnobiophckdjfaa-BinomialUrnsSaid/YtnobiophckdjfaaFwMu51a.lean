/- Printed by an own program for this claim: the machine's code of functions, or their typed forms with their equations; no conditions. -/
import Derived.Test.YtnobiophckdjfaaFwYu51
import Derived.Test.YtnobiophckdjfaaFwB4
set_option linter.unusedVariables false
set_option linter.unusedSimpArgs false
namespace Go.Fw.L51
open Go Go.Fw
set_option maxRecDepth 100000
set_option linter.unusedVariables false
set_option linter.unusedSimpArgs false
abbrev cv1 (f : FuncId) (T0 : Ty) {B : Type} (S : den T0 → Option B) (ent : B → List E) : Ctr := { A := den T0 × Unit, B := B, f := f, enc := fun a => [.v T0 a.1], dec := (decC (decV T0) dec0), S := fun a => S a.1, ent := ent, ok := (decV_cons (T := T0) (fun es b h => dec0_some h)) }
abbrev cv2 (f : FuncId) (T0 T1 : Ty) {B : Type} (S : den T0 → den T1 → Option B) (ent : B → List E) : Ctr := { A := den T0 × den T1 × Unit, B := B, f := f, enc := fun a => [.v T0 a.1, .v T1 a.2.1], dec := (decC (decV T0) (decC (decV T1) dec0)), S := fun a => S a.1 a.2.1, ent := ent, ok := (decV_cons (T := T0) (decV_cons (T := T1) (fun es b h => dec0_some h))) }
abbrev cv3 (f : FuncId) (T0 T1 T2 : Ty) {B : Type} (S : den T0 → den T1 → den T2 → Option B) (ent : B → List E) : Ctr := { A := den T0 × den T1 × den T2 × Unit, B := B, f := f, enc := fun a => [.v T0 a.1, .v T1 a.2.1, .v T2 a.2.2.1], dec := (decC (decV T0) (decC (decV T1) (decC (decV T2) dec0))), S := fun a => S a.1 a.2.1 a.2.2.1, ent := ent, ok := (decV_cons (T := T0) (decV_cons (T := T1) (decV_cons (T := T2) (fun es b h => dec0_some h)))) }
abbrev cv4 (f : FuncId) (T0 T1 T2 T3 : Ty) {B : Type} (S : den T0 → den T1 → den T2 → den T3 → Option B) (ent : B → List E) : Ctr := { A := den T0 × den T1 × den T2 × den T3 × Unit, B := B, f := f, enc := fun a => [.v T0 a.1, .v T1 a.2.1, .v T2 a.2.2.1, .v T3 a.2.2.2.1], dec := (decC (decV T0) (decC (decV T1) (decC (decV T2) (decC (decV T3) dec0)))), S := fun a => S a.1 a.2.1 a.2.2.1 a.2.2.2.1, ent := ent, ok := (decV_cons (T := T0) (decV_cons (T := T1) (decV_cons (T := T2) (decV_cons (T := T3) (fun es b h => dec0_some h))))) }
abbrev e0 := fun x0 x1 x2 x3 => ([(0, .v U1 x0), (1, .v U1 x1), (2, .v U1 x2), (3, .v U1 x3)] : Env)
abbrev e1 := fun x0 x1 => ([(0, .v U2 x0), (14, .v .bool x1)] : Env)
abbrev e2 := fun x0 x1 => ([(0, .v U2 x0), (2, .loc U5 (.pair (.own true 3 .no) .no) x1)] : Env)
abbrev e3 := fun x0 x1 x2 => ([(0, .v U2 x0), (2, .loc U5 (.pair (.own true 3 .no) .no) x1), (7, .v .bool x2)] : Env)
abbrev e4 := fun x0 => ([(0, .dead), (2, .loc U5 (.pair (.own true 3 .no) .no) x0)] : Env)
abbrev e5 := fun x0 x1 => ([(0, .v U1 x0), (2, .loc U5 (.pair (.own true 3 .no) .no) x1)] : Env)
abbrev e6 := fun x0 x1 x2 => ([(0, .v U1 x0), (2, .loc U5 (.pair (.own true 3 .no) .no) x1), (6, .v .bool x2)] : Env)
abbrev e7 := fun x0 x1 => ([(2, .loc U5 (.pair (.own true 3 .no) .no) x0), (3, .v U1 x1)] : Env)
abbrev e8 := fun x0 x1 => ([(0, .dead), (2, .loc U5 (.pair (.own true 3 .no) .no) x0), (3, .v U1 x1)] : Env)
abbrev e9 := fun x0 x1 => ([(0, .v U1 x0), (2, .loc U5 (.pair (.own true 3 .no) .no) x1), (3, .dead)] : Env)
abbrev e10 := fun x0 x1 x2 => ([(0, .v U1 x0), (2, .loc U5 (.pair (.own true 3 .no) .no) x1), (4, .own true 3 U1 .no x2)] : Env)
abbrev e11 := fun x0 x1 x2 x3 => ([(0, .v U1 x0), (2, .loc U5 (.pair (.own true 3 .no) .no) x1), (4, .own true 3 U1 .no x2), (9, .v .bool x3)] : Env)
abbrev e12 := fun x0 x1 => ([(2, .loc U5 (.pair (.own true 3 .no) .no) x0), (4, .own true 3 U1 .no x1)] : Env)
abbrev e13 := fun x0 x1 => ([(2, .loc U5 .no x0), (3, .v U1 x1)] : Env)
abbrev e14 := fun x0 x1 => ([(0, .v U2 x0), (1, .v U2 x1)] : Env)
abbrev e15 := fun x0 x1 x2 => ([(0, .v U2 x0), (1, .v U2 x1), (5, .own true 3 U1 .no x2)] : Env)
abbrev e16 := fun x0 x1 x2 x3 x4 => ([(1, .v U2 x0), (5, .own true 3 U1 .no x1), (17, .v U2 x2), (18, .v U1 x3), (19, .v U1 x4)] : Env)
abbrev e17 := fun x0 x1 x2 x3 x4 x5 => ([(1, .v U2 x0), (5, .own true 3 U1 .no x1), (17, .v U2 x2), (18, .v U1 x3), (19, .v U1 x4), (20, .v .bool x5)] : Env)
abbrev e18 := fun x0 x1 x2 x3 x4 x5 x6 x7 => ([(1, .v U2 x0), (5, .own true 3 U1 .no x1), (6, .v U1 x2), (7, .v U1 x3), (8, .v U1 x4), (17, .v U2 x5), (18, .v U1 x6), (19, .v U1 x7)] : Env)
abbrev e19 := fun x0 x1 x2 x3 x4 x5 x6 x7 x8 x9 x10 => ([(1, .v U2 x0), (5, .own true 3 U1 .no x1), (6, .v U1 x2), (7, .v U1 x3), (8, .v U1 x4), (17, .v U2 x5), (18, .v U1 x6), (19, .v U1 x7), (24, .v U2 x8), (25, .v U1 x9), (26, .v U1 x10)] : Env)
abbrev e20 := fun x0 x1 x2 x3 x4 x5 x6 x7 x8 x9 x10 x11 => ([(1, .v U2 x0), (5, .own true 3 U1 .no x1), (6, .v U1 x2), (7, .v U1 x3), (8, .v U1 x4), (17, .v U2 x5), (18, .v U1 x6), (19, .v U1 x7), (24, .v U2 x8), (25, .v U1 x9), (26, .v U1 x10), (27, .v .bool x11)] : Env)
abbrev e21 := fun x0 x1 x2 x3 x4 x5 x6 => ([(1, .v U2 x0), (5, .own true 3 U1 .no x1), (6, .v U1 x2), (8, .v U1 x3), (17, .v U2 x4), (18, .v U1 x5), (19, .v U1 x6)] : Env)
abbrev e22 := fun x0 => ([(5, .own true 3 U1 .no x0)] : Env)
abbrev e23 := fun x0 x1 x2 => ([(0, .v U2 x0), (1, .v U2 x1), (10, .v .bool x2)] : Env)
abbrev e24 := fun x0 => ([(0, .dead), (1, .dead), (4, .v U1 x0)] : Env)
abbrev e25 := fun x0 x1 => ([(0, .v U2 x0), (1, .v U2 x1), (4, .dead)] : Env)
abbrev e26 := fun x0 x1 x2 => ([(0, .v U2 x0), (1, .v U2 x1), (5, .v U1 x2)] : Env)
abbrev e27 := fun x0 x1 x2 x3 => ([(0, .v U2 x0), (1, .v U2 x1), (5, .v U1 x2), (20, .v .bool x3)] : Env)
abbrev e28 := fun x0 x1 x2 x3 => ([(0, .v U2 x0), (1, .v U2 x1), (5, .v U1 x2), (31, .v .bool x3)] : Env)
abbrev e29 := fun x0 => ([(0, .dead), (1, .dead), (4, .v U1 x0), (5, .dead)] : Env)
abbrev e30 := fun x0 x1 x2 => ([(0, .v U2 x0), (1, .v U2 x1), (4, .dead), (5, .v U1 x2)] : Env)
abbrev e31 := fun x0 x1 x2 x3 x4 => ([(1, .v U2 x0), (5, .own true 3 U1 .no x1), (6, .v U1 x2), (11, .v U1 x3), (12, .v U1 x4)] : Env)
abbrev e32 := fun x0 x1 x2 x3 x4 x5 => ([(1, .v U2 x0), (5, .own true 3 U1 .no x1), (6, .v U1 x2), (11, .v U1 x3), (12, .v U1 x4), (13, .v .bool x5)] : Env)
abbrev e33 := fun x0 x1 x2 x3 x4 => ([(1, .v U2 x0), (5, .own true 3 U1 .no x1), (7, .v U1 x2), (11, .v U1 x3), (12, .v U1 x4)] : Env)
abbrev e34 := fun x0 x1 x2 x3 x4 x5 => ([(1, .v U2 x0), (5, .own true 3 U1 .no x1), (7, .v U1 x2), (11, .v U1 x3), (12, .v U1 x4), (25, .v .bool x5)] : Env)
abbrev e35 := fun x0 x1 x2 x3 x4 x5 x6 => ([(1, .v U2 x0), (5, .own true 3 U1 .no x1), (6, .v U1 x2), (7, .v U1 x3), (11, .v U1 x4), (12, .v U1 x5), (40, .v .bool x6)] : Env)
abbrev e36 := fun x0 x1 x2 x3 => ([(0, .v U2 x0), (1, .v U2 x1), (6, .own true 3 U1 .no x2), (7, .v U2 x3)] : Env)
abbrev e37 := fun x0 x1 x2 x3 x4 => ([(0, .v U2 x0), (1, .v U2 x1), (6, .own true 3 U1 .no x2), (7, .v U2 x3), (8, .v U1 x4)] : Env)
abbrev e38 := fun x0 x1 x2 x3 x4 x5 => ([(0, .v U2 x0), (1, .v U2 x1), (6, .own true 3 U1 .no x2), (7, .v U2 x3), (8, .v U1 x4), (16, .v .bool x5)] : Env)
abbrev e39 := fun x0 x1 x2 x3 x4 x5 x6 => ([(0, .v U2 x0), (1, .v U2 x1), (6, .own true 3 U1 .no x2), (7, .v U2 x3), (8, .v U1 x4), (9, .v U1 x5), (10, .v U1 x6)] : Env)
abbrev e40 := fun x0 x1 x2 x3 x4 x5 x6 x7 => ([(0, .v U2 x0), (1, .v U2 x1), (6, .own true 3 U1 .no x2), (7, .v U2 x3), (8, .v U1 x4), (9, .v U1 x5), (10, .v U1 x6), (29, .v .bool x7)] : Env)
abbrev e41 := fun x0 x1 x2 x3 x4 x5 x6 x7 x8 => ([(0, .v U2 x0), (1, .v U2 x1), (6, .own true 3 U1 .no x2), (7, .v U2 x3), (8, .v U1 x4), (9, .v U1 x5), (10, .v U1 x6), (11, .v U1 x7), (41, .v .bool x8)] : Env)
abbrev e42 := fun x0 x1 x2 x3 x4 x5 => ([(0, .v U2 x0), (1, .v U2 x1), (6, .own true 3 U1 .no x2), (7, .v U2 x3), (8, .v U1 x4), (9, .v U1 x5)] : Env)
abbrev e43 := fun x0 x1 x2 x3 x4 x5 x6 => ([(0, .v U2 x0), (1, .v U2 x1), (6, .own true 3 U1 .no x2), (7, .v U2 x3), (8, .v U1 x4), (9, .v U1 x5), (46, .v .bool x6)] : Env)
abbrev e44 := fun x0 x1 => ([(6, .own true 3 U1 .no x0), (7, .v U2 x1)] : Env)
abbrev e45 := fun x0 x1 => ([(4, .v U2 x0), (5, .v U2 x1)] : Env)
abbrev e46 := fun x0 x1 x2 => ([(0, .v U2 x0), (2, .loc U5 (.pair (.own true 3 .no) .no) x1), (6, .v .bool x2)] : Env)
abbrev e47 := fun x0 x1 => ([(0, .v U2 x0), (2, .loc U5 (.pair (.own true 3 .no) .no) x1), (3, .dead)] : Env)
abbrev e48 := fun x0 x1 => ([(0, .v U1 x0), (1, .v U1 x1)] : Env)
abbrev e49 := fun x0 x1 x2 => ([(0, .v U1 x0), (1, .v U1 x1), (4, .loc U5 (.pair (.own true 3 .no) .no) x2)] : Env)
abbrev e50 := fun x0 x1 x2 x3 => ([(0, .v U1 x0), (1, .v U1 x1), (4, .loc U5 (.pair (.own true 3 .no) .no) x2), (22, .v .bool x3)] : Env)
abbrev e51 := fun x0 x1 => ([(4, .loc U5 (.pair (.own true 3 .no) .no) x0), (5, .v U1 x1)] : Env)
abbrev e52 := fun x0 x1 => ([(0, .dead), (1, .dead), (4, .loc U5 (.pair (.own true 3 .no) .no) x0), (5, .v U1 x1)] : Env)
abbrev e53 := fun x0 x1 x2 => ([(0, .v U1 x0), (1, .v U1 x1), (4, .loc U5 (.pair (.own true 3 .no) .no) x2), (5, .dead)] : Env)
abbrev e54 := fun x0 x1 x2 x3 => ([(0, .v U1 x0), (1, .v U1 x1), (4, .loc U5 (.pair (.own true 3 .no) .no) x2), (6, .v U2 x3)] : Env)
abbrev e55 := fun x0 x1 x2 x3 x4 => ([(0, .v U1 x0), (1, .v U1 x1), (4, .loc U5 (.pair (.own true 3 .no) .no) x2), (6, .v U2 x3), (7, .v U1 x4)] : Env)
abbrev e56 := fun x0 x1 x2 x3 x4 x5 => ([(0, .v U1 x0), (1, .v U1 x1), (4, .loc U5 (.pair (.own true 3 .no) .no) x2), (6, .v U2 x3), (7, .v U1 x4), (31, .v .bool x5)] : Env)
abbrev e57 := fun x0 x1 => ([(4, .loc U5 (.pair (.own true 3 .no) .no) x0), (6, .v U2 x1)] : Env)
abbrev e58 := fun x0 x1 => ([(4, .loc U5 .no x0), (5, .v U1 x1)] : Env)
abbrev e59 := fun x0 x1 x2 x3 => ([(0, .v U1 x0), (1, .v U1 x1), (4, .loc U5 (.pair (.own true 3 .no) .no) x2), (13, .v .bool x3)] : Env)
abbrev e60 := fun x0 => ([(0, .dead), (1, .dead), (4, .loc U5 .no x0)] : Env)
abbrev e61 := fun x0 x1 => ([(0, .v U2 x0), (1, .v U6 x1)] : Env)
abbrev e62 := fun x0 x1 x2 x3 => ([(0, .v U2 x0), (1, .v U6 x1), (7, .v U1 x2), (8, .v U1 x3)] : Env)
abbrev e63 := fun x0 x1 x2 x3 x4 => ([(0, .v U2 x0), (1, .v U6 x1), (7, .v U1 x2), (8, .v U1 x3), (9, .v .bool x4)] : Env)
abbrev e64 := fun x0 x1 x2 x3 x4 x5 => ([(0, .v U2 x0), (1, .v U6 x1), (5, .v U1 x2), (7, .v U1 x3), (8, .v U1 x4), (16, .v .bool x5)] : Env)
abbrev e65 := fun x0 => ([(0, .dead), (1, .dead), (4, .v U1 x0), (7, .dead), (8, .dead)] : Env)
abbrev e66 := fun x0 x1 x2 x3 => ([(0, .v U2 x0), (1, .v U6 x1), (4, .dead), (7, .v U1 x2), (8, .v U1 x3)] : Env)
abbrev e67 := fun x0 x1 => ([(3, .v U2 x0), (22, .v .bool x1)] : Env)
abbrev e68 := fun x0 x1 => ([(0, .v U5 x0), (1, .v U5 x1)] : Env)
abbrev e69 := fun x0 x1 x2 => ([(2, .loc U5 .no x0), (3, .loc U5 .no x1), (4, .loc U5 (.pair (.own true 3 .no) .no) x2)] : Env)
abbrev e70 := fun x0 x1 x2 x3 => ([(2, .loc U5 .no x0), (3, .loc U5 .no x1), (4, .loc U5 (.pair (.own true 3 .no) .no) x2), (13, .v .bool x3)] : Env)
abbrev e71 := fun x0 x1 => ([(2, .dead), (3, .dead), (4, .loc U5 (.pair (.own true 3 .no) .no) x0), (5, .v U1 x1)] : Env)
abbrev e72 := fun x0 x1 x2 => ([(2, .loc U5 .no x0), (3, .loc U5 .no x1), (4, .loc U5 (.pair (.own true 3 .no) .no) x2), (5, .dead)] : Env)
abbrev e73 := fun x0 x1 x2 x3 => ([(2, .loc U5 .no x0), (3, .loc U5 .no x1), (4, .loc U5 (.pair (.own true 3 .no) .no) x2), (17, .v .bool x3)] : Env)
abbrev e74 := fun x0 x1 x2 => ([(4, .loc U5 (.pair (.own true 3 .no) .no) x0), (6, .v U2 x1), (7, .v U2 x2)] : Env)
abbrev e75 := fun x0 x1 x2 x3 => ([(4, .loc U5 (.pair (.own true 3 .no) .no) x0), (6, .v U2 x1), (7, .v U2 x2), (27, .v .bool x3)] : Env)
abbrev e76 := fun x0 x1 x2 x3 => ([(2, .loc U5 .no x0), (3, .loc U5 .no x1), (4, .loc U5 (.pair (.own true 3 .no) .no) x2), (5, .loc U5 (.pair (.own true 3 .no) .no) x3)] : Env)
abbrev e77 := fun x0 x1 x2 x3 x4 => ([(2, .loc U5 .no x0), (3, .loc U5 .no x1), (4, .loc U5 (.pair (.own true 3 .no) .no) x2), (5, .loc U5 (.pair (.own true 3 .no) .no) x3), (9, .v .bool x4)] : Env)
abbrev e78 := fun x0 x1 x2 => ([(4, .loc U5 (.pair (.own true 3 .no) .no) x0), (5, .loc U5 (.pair (.own true 3 .no) .no) x1), (6, .v U1 x2)] : Env)
abbrev e79 := fun x0 x1 x2 => ([(2, .dead), (3, .dead), (4, .loc U5 (.pair (.own true 3 .no) .no) x0), (5, .loc U5 (.pair (.own true 3 .no) .no) x1), (6, .v U1 x2)] : Env)
abbrev e80 := fun x0 x1 x2 x3 x4 => ([(2, .loc U5 .no x0), (3, .loc U5 .no x1), (4, .loc U5 (.pair (.own true 3 .no) .no) x2), (5, .loc U5 (.pair (.own true 3 .no) .no) x3), (20, .v .bool x4)] : Env)
abbrev e81 := fun x0 x1 x2 x3 => ([(2, .loc U5 .no x0), (3, .loc U5 .no x1), (4, .loc U5 (.pair (.own true 3 .no) .no) x2), (5, .loc U5 (.pair (.own true 3 .no) .no) x3), (6, .dead)] : Env)
abbrev e82 := fun x0 x1 x2 => ([(4, .loc U5 .no x0), (5, .loc U5 .no x1), (6, .v U1 x2)] : Env)
abbrev e83 := fun x0 x1 x2 => ([(0, .v .bool x0), (1, .v U5 x1), (2, .v U5 x2)] : Env)
abbrev e84 := fun x0 x1 x2 => ([(2, .loc U5 .no x0), (3, .loc U5 .no x1), (4, .loc U9 (.pair .no (.pair (.pair (.own true 3 .no) .no) (.pair (.pair (.own true 3 .no) .no) .no))) x2)] : Env)
abbrev e85 := fun x0 x1 x2 x3 => ([(2, .loc U5 .no x0), (3, .loc U5 .no x1), (4, .loc U9 (.pair .no (.pair (.pair (.own true 3 .no) .no) (.pair (.pair (.own true 3 .no) .no) .no))) x2), (13, .v .bool x3)] : Env)
abbrev e86 := fun x0 x1 => ([(4, .loc U9 .no x0), (5, .v U1 x1)] : Env)
abbrev e87 := fun x0 x1 => ([(2, .dead), (3, .dead), (4, .loc U9 .no x0), (5, .v U1 x1)] : Env)
abbrev e88 := fun x0 x1 x2 => ([(2, .loc U5 .no x0), (3, .loc U5 .no x1), (4, .loc U9 (.pair .no (.pair (.pair (.own true 3 .no) .no) (.pair (.pair (.own true 3 .no) .no) .no))) x2), (5, .dead)] : Env)
abbrev e89 := fun x0 x1 x2 x3 => ([(2, .loc U5 .no x0), (3, .loc U5 .no x1), (4, .loc U9 (.pair .no (.pair (.pair (.own true 3 .no) .no) (.pair (.pair (.own true 3 .no) .no) .no))) x2), (16, .v .bool x3)] : Env)
abbrev e90 := fun x0 x1 x2 x3 x4 => ([(0, .v U1 x0), (1, .v U1 x1), (2, .v U1 x2), (3, .v U1 x3), (8, .loc U9 (.pair .no (.pair (.pair (.own true 3 .no) .no) (.pair (.pair (.own true 3 .no) .no) .no))) x4)] : Env)
abbrev e91 := fun x0 x1 x2 x3 x4 x5 x6 => ([(0, .v U1 x0), (1, .v U1 x1), (2, .v U1 x2), (3, .v U1 x3), (8, .loc U9 (.pair .no (.pair (.pair (.own true 3 .no) .no) (.pair (.pair (.own true 3 .no) .no) .no))) x4), (10, .v U1 x5), (17, .v .bool x6)] : Env)
abbrev e92 := fun x0 x1 => ([(8, .loc U9 .no x0), (9, .v U1 x1)] : Env)
abbrev e93 := fun x0 x1 => ([(0, .dead), (1, .dead), (2, .dead), (3, .dead), (8, .loc U9 .no x0), (9, .v U1 x1)] : Env)
abbrev e94 := fun x0 x1 x2 x3 x4 => ([(0, .v U1 x0), (1, .v U1 x1), (2, .v U1 x2), (3, .v U1 x3), (8, .loc U9 (.pair .no (.pair (.pair (.own true 3 .no) .no) (.pair (.pair (.own true 3 .no) .no) .no))) x4), (9, .dead)] : Env)
abbrev e95 := fun x0 x1 x2 => ([(0, .v U2 x0), (1, .v U2 x1), (13, .v .bool x2)] : Env)
abbrev e96 := fun x0 x1 x2 x3 => ([(0, .v U2 x0), (1, .v U2 x1), (5, .own true 3 U1 .no x2), (6, .v U1 x3)] : Env)
abbrev e97 := fun x0 x1 x2 x3 x4 x5 => ([(1, .v U2 x0), (5, .own true 3 U1 .no x1), (6, .v U1 x2), (20, .v U2 x3), (21, .v U1 x4), (22, .v U1 x5)] : Env)
abbrev e98 := fun x0 x1 x2 x3 x4 x5 x6 => ([(1, .v U2 x0), (5, .own true 3 U1 .no x1), (6, .v U1 x2), (20, .v U2 x3), (21, .v U1 x4), (22, .v U1 x5), (23, .v .bool x6)] : Env)
abbrev e99 := fun x0 x1 x2 x3 x4 x5 x6 => ([(1, .v U2 x0), (5, .own true 3 U1 .no x1), (6, .v U1 x2), (7, .v U1 x3), (20, .v U2 x4), (21, .v U1 x5), (22, .v U1 x6)] : Env)
abbrev e100 := fun x0 x1 x2 x3 x4 x5 x6 x7 => ([(1, .v U2 x0), (5, .own true 3 U1 .no x1), (6, .v U1 x2), (7, .v U1 x3), (20, .v U2 x4), (21, .v U1 x5), (22, .v U1 x6), (33, .v .bool x7)] : Env)
abbrev e101 := fun x0 x1 => ([(5, .own true 3 U1 .no x0), (6, .v U1 x1)] : Env)
abbrev e102 := fun x0 x1 x2 => ([(5, .own true 3 U1 .no x0), (6, .v U1 x1), (49, .v .bool x2)] : Env)
abbrev e103 := fun x0 => ([(4, .ref 5 []), (5, .own true 3 U1 .no x0)] : Env)
abbrev e104 := fun x0 x1 x2 x3 x4 x5 x6 => ([(0, .v U1 x0), (1, .v U1 x1), (2, .v U1 x2), (3, .v U1 x3), (8, .loc U9 (.pair .no (.pair (.pair (.own true 3 .no) .no) (.pair (.pair (.own true 3 .no) .no) .no))) x4), (10, .v U1 x5), (19, .v .bool x6)] : Env)
abbrev e105 := fun x0 x1 x2 x3 x4 x5 => ([(0, .v U1 x0), (1, .v U1 x1), (2, .v U1 x2), (3, .v U1 x3), (8, .loc U9 (.pair .no (.pair (.pair (.own true 3 .no) .no) (.pair (.pair (.own true 3 .no) .no) .no))) x4), (11, .loc U5 .no x5)] : Env)
abbrev e106 := fun x0 x1 x2 x3 x4 x5 => ([(0, .v U1 x0), (1, .v U1 x1), (2, .v U1 x2), (8, .loc U9 (.pair .no (.pair (.pair (.own true 3 .no) .no) (.pair (.pair (.own true 3 .no) .no) .no))) x3), (11, .loc U5 .no x4), (12, .v U1 x5)] : Env)
abbrev e107 := fun x0 x1 x2 x3 x4 x5 x6 => ([(0, .v U1 x0), (1, .v U1 x1), (2, .v U1 x2), (8, .loc U9 (.pair .no (.pair (.pair (.own true 3 .no) .no) (.pair (.pair (.own true 3 .no) .no) .no))) x3), (11, .loc U5 .no x4), (12, .v U1 x5), (26, .v .bool x6)] : Env)
abbrev e108 := fun x0 x1 x2 x3 => ([(0, .v U1 x0), (2, .v U1 x1), (8, .loc U9 (.pair .no (.pair (.pair (.own true 3 .no) .no) (.pair (.pair (.own true 3 .no) .no) .no))) x2), (11, .loc U5 .no x3)] : Env)
abbrev e109 := fun x0 x1 x2 => ([(1, .loc U5 .no x0), (3, .v U1 x1), (22, .v .bool x2)] : Env)
abbrev e110 := fun x0 => ([(1, .dead), (2, .v .bool x0), (3, .dead)] : Env)
abbrev e111 := fun x0 x1 x2 => ([(1, .loc U5 .no x0), (3, .v U1 x1), (4, .v U1 x2)] : Env)
abbrev e112 := fun x0 x1 x2 x3 => ([(1, .loc U5 .no x0), (3, .v U1 x1), (4, .v U1 x2), (25, .v .bool x3)] : Env)
abbrev e113 := fun x0 x1 x2 x3 => ([(1, .loc U5 .no x0), (3, .v U1 x1), (4, .v U1 x2), (41, .v .bool x3)] : Env)
abbrev e114 := fun x0 => ([(1, .dead), (2, .v .bool x0), (3, .dead), (4, .dead)] : Env)
abbrev e115 := fun x0 x1 x2 => ([(1, .loc U5 .no x0), (2, .dead), (3, .v U1 x1), (4, .v U1 x2)] : Env)
abbrev e116 := fun x0 x1 x2 x3 => ([(0, .v U2 x0), (3, .own true 3 U1 .no x1), (4, .v U1 x2), (5, .v U1 x3)] : Env)
abbrev e117 := fun x0 x1 x2 x3 x4 => ([(0, .v U2 x0), (3, .own true 3 U1 .no x1), (4, .v U1 x2), (5, .v U1 x3), (14, .v .bool x4)] : Env)
abbrev e118 := fun x0 => ([(3, .own true 3 U1 .no x0)] : Env)
abbrev e119 := fun x0 x1 x2 => ([(0, .v U2 x0), (1, .v U2 x1), (15, .v .bool x2)] : Env)
abbrev e120 := fun x0 x1 x2 x3 => ([(0, .v U2 x0), (1, .v U2 x1), (5, .v U1 x2), (40, .v .bool x3)] : Env)
abbrev e121 := fun x0 x1 => ([(0, .v U2 x0), (1, .v U1 x1)] : Env)
abbrev e122 := fun x0 x1 x2 => ([(0, .v U2 x0), (1, .v U1 x1), (8, .v .bool x2)] : Env)
abbrev e123 := fun x0 x1 x2 x3 x4 => ([(0, .v U2 x0), (1, .v U2 x1), (5, .own true 3 U1 .no x2), (6, .v U1 x3), (7, .v U1 x4)] : Env)
abbrev e124 := fun x0 x1 x2 x3 x4 x5 => ([(0, .v U2 x0), (1, .v U2 x1), (5, .own true 3 U1 .no x2), (6, .v U1 x3), (7, .v U1 x4), (12, .v .bool x5)] : Env)
abbrev e125 := fun x0 x1 x2 x3 x4 x5 => ([(0, .v U2 x0), (1, .v U2 x1), (5, .own true 3 U1 .no x2), (6, .v U1 x3), (7, .v U1 x4), (8, .v U1 x5)] : Env)
abbrev e126 := fun x0 x1 x2 x3 x4 x5 x6 => ([(0, .v U2 x0), (1, .v U2 x1), (5, .own true 3 U1 .no x2), (6, .v U1 x3), (7, .v U1 x4), (8, .v U1 x5), (26, .v .bool x6)] : Env)
abbrev e127 := fun x0 x1 x2 x3 x4 x5 => ([(0, .v U2 x0), (1, .v U2 x1), (5, .own true 3 U1 .no x2), (6, .v U1 x3), (7, .v U1 x4), (18, .v .bool x5)] : Env)
abbrev e128 := fun x0 x1 x2 x3 => ([(2, .loc U5 .no x0), (3, .loc U5 .no x1), (4, .loc U5 (.pair (.own true 3 .no) .no) x2), (18, .v .bool x3)] : Env)
abbrev e129 := fun x0 x1 x2 x3 => ([(4, .loc U5 (.pair (.own true 3 .no) .no) x0), (6, .v U2 x1), (7, .v U2 x2), (26, .v .bool x3)] : Env)
abbrev e130 := fun x0 x1 => ([(4, .loc U5 .no x0), (5, .v U1 x1), (6, .dead), (7, .dead)] : Env)
abbrev e131 := fun x0 x1 x2 => ([(4, .loc U5 (.pair (.own true 3 .no) .no) x0), (5, .dead), (6, .v U2 x1), (7, .v U2 x2)] : Env)
abbrev e132 := fun x0 x1 x2 x3 => ([(4, .loc U5 (.pair (.own true 3 .no) .no) x0), (6, .v U2 x1), (7, .v U2 x2), (8, .v U1 x3)] : Env)
abbrev e133 := fun x0 x1 x2 x3 x4 => ([(4, .loc U5 (.pair (.own true 3 .no) .no) x0), (6, .v U2 x1), (7, .v U2 x2), (8, .v U1 x3), (33, .v .bool x4)] : Env)
abbrev e134 := fun x0 x1 x2 x3 x4 => ([(4, .loc U5 (.pair (.own true 3 .no) .no) x0), (6, .v U2 x1), (7, .v U2 x2), (8, .v U1 x3), (37, .v .bool x4)] : Env)
abbrev e135 := fun x0 x1 x2 x3 x4 => ([(4, .loc U5 (.pair (.own true 3 .no) .no) x0), (6, .v U2 x1), (7, .v U2 x2), (8, .v U1 x3), (50, .v .bool x4)] : Env)
abbrev e136 := fun x0 x1 x2 x3 x4 => ([(4, .loc U5 (.pair (.own true 3 .no) .no) x0), (6, .v U2 x1), (7, .v U2 x2), (8, .v U1 x3), (55, .v .bool x4)] : Env)
abbrev e137 := fun x0 x1 x2 x3 x4 => ([(4, .loc U5 (.pair (.own true 3 .no) .no) x0), (6, .v U2 x1), (7, .v U2 x2), (8, .v U1 x3), (60, .v .bool x4)] : Env)
abbrev e138 := fun x0 x1 x2 => ([(4, .loc U5 (.pair (.own true 3 .no) .no) x0), (6, .v U2 x1), (8, .v U1 x2)] : Env)
abbrev e139 := fun x0 x1 x2 => ([(4, .loc U5 (.pair (.own true 3 .no) .no) x0), (8, .v U1 x1), (9, .v U2 x2)] : Env)
abbrev e140 := fun x0 x1 x2 x3 => ([(4, .loc U5 (.pair (.own true 3 .no) .no) x0), (8, .v U1 x1), (9, .v U2 x2), (10, .v U1 x3)] : Env)
abbrev e141 := fun x0 x1 x2 x3 x4 => ([(4, .loc U5 (.pair (.own true 3 .no) .no) x0), (8, .v U1 x1), (9, .v U2 x2), (10, .v U1 x3), (74, .v .bool x4)] : Env)
abbrev e142 := fun x0 x1 => ([(4, .loc U5 (.pair (.own true 3 .no) .no) x0), (9, .v U2 x1)] : Env)
abbrev e143 := fun x0 x1 => ([(1, .loc U9 .no x0), (28, .v .bool x1)] : Env)
abbrev e144 := fun x0 => ([(1, .dead), (2, .v .bool x0)] : Env)
abbrev e145 := fun x0 x1 x2 x3 x4 => ([(0, .v U2 x0), (1, .v U2 x1), (5, .own true 3 U1 .no x2), (6, .v U1 x3), (20, .v .bool x4)] : Env)
abbrev e146 := fun x0 x1 x2 x3 x4 x5 x6 => ([(0, .v U2 x0), (1, .v U2 x1), (5, .own true 3 U1 .no x2), (6, .v U1 x3), (7, .v U1 x4), (8, .v U1 x5), (30, .v .bool x6)] : Env)
abbrev e147 := fun x0 x1 x2 x3 => ([(0, .v U5 x0), (1, .v U5 x1), (2, .v U5 x2), (3, .v U5 x3)] : Env)
abbrev e148 := fun x0 x1 x2 x3 x4 x5 => ([(6, .loc U5 .no x0), (7, .loc U5 .no x1), (8, .loc U5 .no x2), (9, .loc U5 .no x3), (11, .loc U5 .no x4), (12, .v U1 x5)] : Env)
abbrev e149 := fun x0 x1 x2 x3 x4 x5 x6 => ([(6, .loc U5 .no x0), (7, .loc U5 .no x1), (8, .loc U5 .no x2), (9, .loc U5 .no x3), (11, .loc U5 .no x4), (12, .v U1 x5), (21, .v .bool x6)] : Env)
abbrev e150 := fun x0 x1 x2 => ([(8, .loc U5 .no x0), (9, .loc U5 .no x1), (10, .v U1 x2)] : Env)
abbrev e151 := fun x0 x1 x2 => ([(6, .dead), (7, .dead), (8, .loc U5 .no x0), (9, .loc U5 .no x1), (10, .v U1 x2), (11, .dead)] : Env)
abbrev e152 := fun x0 x1 x2 x3 x4 => ([(6, .loc U5 .no x0), (7, .loc U5 .no x1), (8, .loc U5 .no x2), (9, .loc U5 .no x3), (10, .dead), (11, .loc U5 .no x4)] : Env)
abbrev e153 := fun x0 x1 x2 x3 x4 x5 => ([(0, .v U2 x0), (1, .v U2 x1), (6, .own true 3 U1 .no x2), (7, .v U2 x3), (8, .v U1 x4), (19, .v .bool x5)] : Env)
abbrev e154 := fun x0 x1 x2 x3 x4 x5 x6 x7 => ([(0, .v U2 x0), (1, .v U2 x1), (6, .own true 3 U1 .no x2), (7, .v U2 x3), (8, .v U1 x4), (9, .v U1 x5), (10, .v U1 x6), (32, .v .bool x7)] : Env)
abbrev e155 := fun x0 x1 x2 x3 x4 x5 x6 x7 x8 => ([(0, .v U2 x0), (1, .v U2 x1), (6, .own true 3 U1 .no x2), (7, .v U2 x3), (8, .v U1 x4), (9, .v U1 x5), (10, .v U1 x6), (11, .v U1 x7), (44, .v .bool x8)] : Env)
abbrev e156 := fun x0 x1 x2 x3 x4 => ([(2, .loc U5 .no x0), (3, .loc U5 .no x1), (4, .loc U5 (.pair (.own true 3 .no) .no) x2), (5, .loc U5 (.pair (.own true 3 .no) .no) x3), (16, .v .bool x4)] : Env)
abbrev e157 := fun x0 x1 x2 x3 x4 => ([(2, .loc U5 .no x0), (3, .loc U5 .no x1), (4, .loc U5 (.pair (.own true 3 .no) .no) x2), (5, .loc U5 (.pair (.own true 3 .no) .no) x3), (22, .v .bool x4)] : Env)
abbrev e158 := fun x0 x1 => ([(0, .v U9 x0), (1, .v U9 x1)] : Env)
abbrev e159 := fun x0 x1 x2 => ([(2, .loc U9 .no x0), (3, .loc U9 .no x1), (4, .loc U9 (.pair .no (.pair (.pair (.own true 3 .no) .no) (.pair (.pair (.own true 3 .no) .no) .no))) x2)] : Env)
abbrev e160 := fun x0 x1 x2 x3 => ([(2, .loc U9 .no x0), (3, .loc U9 .no x1), (4, .loc U9 (.pair .no (.pair (.pair (.own true 3 .no) .no) (.pair (.pair (.own true 3 .no) .no) .no))) x2), (23, .v .bool x3)] : Env)
abbrev e161 := fun x0 x1 x2 => ([(2, .loc U9 .no x0), (3, .loc U9 .no x1), (4, .loc U9 (.pair .no (.pair (.pair (.own true 3 .no) .no) (.pair (.pair (.own true 3 .no) .no) .no))) x2), (5, .dead)] : Env)
abbrev e162 := fun x0 x1 x2 x3 x4 x5 => ([(2, .loc U9 .no x0), (3, .loc U9 .no x1), (4, .loc U9 (.pair .no (.pair (.pair (.own true 3 .no) .no) (.pair (.pair (.own true 3 .no) .no) .no))) x2), (6, .loc U5 .no x3), (7, .loc U5 .no x4), (8, .v U1 x5)] : Env)
abbrev e163 := fun x0 x1 x2 x3 x4 x5 x6 => ([(2, .loc U9 .no x0), (3, .loc U9 .no x1), (4, .loc U9 (.pair .no (.pair (.pair (.own true 3 .no) .no) (.pair (.pair (.own true 3 .no) .no) .no))) x2), (6, .loc U5 .no x3), (7, .loc U5 .no x4), (8, .v U1 x5), (39, .v .bool x6)] : Env)
abbrev e164 := fun x0 x1 => ([(2, .dead), (3, .dead), (4, .loc U9 .no x0), (5, .v U1 x1), (6, .dead), (7, .dead)] : Env)
abbrev e165 := fun x0 x1 x2 x3 x4 => ([(2, .loc U9 .no x0), (3, .loc U9 .no x1), (4, .loc U9 (.pair .no (.pair (.pair (.own true 3 .no) .no) (.pair (.pair (.own true 3 .no) .no) .no))) x2), (5, .dead), (6, .loc U5 .no x3), (7, .loc U5 .no x4)] : Env)
abbrev e166 := fun x0 x1 x2 x3 x4 x5 x6 => ([(2, .loc U9 .no x0), (3, .loc U9 .no x1), (4, .loc U9 (.pair .no (.pair (.pair (.own true 3 .no) .no) (.pair (.pair (.own true 3 .no) .no) .no))) x2), (6, .loc U5 .no x3), (7, .loc U5 .no x4), (8, .v U1 x5), (9, .loc U5 .no x6)] : Env)
abbrev e167 := fun x0 x1 x2 x3 x4 x5 x6 x7 => ([(2, .loc U9 .no x0), (3, .loc U9 .no x1), (4, .loc U9 (.pair .no (.pair (.pair (.own true 3 .no) .no) (.pair (.pair (.own true 3 .no) .no) .no))) x2), (6, .loc U5 .no x3), (7, .loc U5 .no x4), (8, .v U1 x5), (9, .loc U5 .no x6), (51, .v .bool x7)] : Env)
abbrev e168 := fun x0 x1 => ([(2, .dead), (3, .dead), (4, .loc U9 .no x0), (5, .v U1 x1), (6, .dead), (7, .dead), (9, .dead)] : Env)
abbrev e169 := fun x0 x1 x2 x3 x4 x5 => ([(2, .loc U9 .no x0), (3, .loc U9 .no x1), (4, .loc U9 (.pair .no (.pair (.pair (.own true 3 .no) .no) (.pair (.pair (.own true 3 .no) .no) .no))) x2), (5, .dead), (6, .loc U5 .no x3), (7, .loc U5 .no x4), (9, .loc U5 .no x5)] : Env)
abbrev e170 := fun x0 x1 x2 x3 x4 x5 x6 => ([(2, .loc U9 .no x0), (3, .loc U9 .no x1), (4, .loc U9 (.pair .no (.pair (.pair (.own true 3 .no) .no) (.pair (.pair (.own true 3 .no) .no) .no))) x2), (6, .loc U5 .no x3), (7, .loc U5 .no x4), (9, .loc U5 .no x5), (58, .v .bool x6)] : Env)
abbrev e171 := fun x0 x1 x2 x3 x4 => ([(2, .loc U9 .no x0), (4, .loc U9 (.pair .no (.pair (.pair (.own true 3 .no) .no) (.pair (.pair (.own true 3 .no) .no) .no))) x1), (9, .loc U5 .no x2), (10, .loc U5 .no x3), (11, .v U1 x4)] : Env)
abbrev e172 := fun x0 x1 x2 x3 x4 x5 => ([(2, .loc U9 .no x0), (4, .loc U9 (.pair .no (.pair (.pair (.own true 3 .no) .no) (.pair (.pair (.own true 3 .no) .no) .no))) x1), (9, .loc U5 .no x2), (10, .loc U5 .no x3), (11, .v U1 x4), (66, .v .bool x5)] : Env)
abbrev e173 := fun x0 x1 => ([(2, .dead), (4, .loc U9 .no x0), (5, .v U1 x1), (9, .dead), (10, .dead)] : Env)
abbrev e174 := fun x0 x1 x2 x3 => ([(2, .loc U9 .no x0), (4, .loc U9 (.pair .no (.pair (.pair (.own true 3 .no) .no) (.pair (.pair (.own true 3 .no) .no) .no))) x1), (5, .dead), (9, .loc U5 .no x2), (10, .loc U5 .no x3)] : Env)
abbrev e175 := fun x0 x1 x2 x3 x4 x5 x6 => ([(2, .loc U9 .no x0), (3, .loc U9 .no x1), (4, .loc U9 (.pair .no (.pair (.pair (.own true 3 .no) .no) (.pair (.pair (.own true 3 .no) .no) .no))) x2), (6, .loc U5 .no x3), (7, .loc U5 .no x4), (9, .loc U5 .no x5), (77, .v .bool x6)] : Env)
abbrev e176 := fun x0 x1 => ([(3, .dead), (4, .loc U9 .no x0), (5, .v U1 x1), (6, .dead), (7, .dead), (9, .dead)] : Env)
abbrev e177 := fun x0 x1 x2 x3 x4 => ([(3, .loc U9 .no x0), (4, .loc U9 (.pair .no (.pair (.pair (.own true 3 .no) .no) (.pair (.pair (.own true 3 .no) .no) .no))) x1), (5, .dead), (6, .loc U5 .no x2), (7, .loc U5 .no x3), (9, .loc U5 .no x4)] : Env)
abbrev e178 := fun x0 x1 => ([(0, .v U10 x0), (2, .loc U9 (.pair .no (.pair (.pair (.own true 3 .no) .no) (.pair (.pair (.own true 3 .no) .no) .no))) x1)] : Env)
abbrev e179 := fun x0 x1 x2 => ([(0, .v U10 x0), (2, .loc U9 (.pair .no (.pair (.pair (.own true 3 .no) .no) (.pair (.pair (.own true 3 .no) .no) .no))) x1), (4, .v U1 x2)] : Env)
abbrev e180 := fun x0 x1 x2 x3 => ([(0, .v U10 x0), (2, .loc U9 (.pair .no (.pair (.pair (.own true 3 .no) .no) (.pair (.pair (.own true 3 .no) .no) .no))) x1), (4, .v U1 x2), (12, .v .bool x3)] : Env)
abbrev e181 := fun x0 x1 x2 x3 => ([(0, .v U10 x0), (2, .loc U9 (.pair .no (.pair (.pair (.own true 3 .no) .no) (.pair (.pair (.own true 3 .no) .no) .no))) x1), (4, .v U1 x2), (20, .v .bool x3)] : Env)
abbrev e182 := fun x0 x1 => ([(2, .loc U9 .no x0), (3, .v U1 x1)] : Env)
abbrev e183 := fun x0 x1 => ([(0, .dead), (2, .loc U9 .no x0), (3, .v U1 x1), (4, .dead)] : Env)
abbrev e184 := fun x0 x1 x2 => ([(0, .v U10 x0), (2, .loc U9 (.pair .no (.pair (.pair (.own true 3 .no) .no) (.pair (.pair (.own true 3 .no) .no) .no))) x1), (3, .dead), (4, .v U1 x2)] : Env)
abbrev e185 := fun x0 x1 => ([(0, .dead), (2, .loc U9 .no x0), (3, .v U1 x1)] : Env)
abbrev e186 := fun x0 x1 => ([(0, .v U10 x0), (2, .loc U9 (.pair .no (.pair (.pair (.own true 3 .no) .no) (.pair (.pair (.own true 3 .no) .no) .no))) x1), (3, .dead)] : Env)
abbrev e187 := fun x0 x1 x2 => ([(0, .v U10 x0), (2, .loc U9 (.pair .no (.pair (.pair (.own true 3 .no) .no) (.pair (.pair (.own true 3 .no) .no) .no))) x1), (5, .loc U9 .no x2)] : Env)
abbrev e188 := fun x0 x1 x2 x3 => ([(0, .v U10 x0), (2, .loc U9 (.pair .no (.pair (.pair (.own true 3 .no) .no) (.pair (.pair (.own true 3 .no) .no) .no))) x1), (5, .loc U9 .no x2), (6, .v U1 x3)] : Env)
abbrev e189 := fun x0 x1 x2 x3 x4 => ([(0, .v U10 x0), (2, .loc U9 (.pair .no (.pair (.pair (.own true 3 .no) .no) (.pair (.pair (.own true 3 .no) .no) .no))) x1), (5, .loc U9 .no x2), (6, .v U1 x3), (26, .v .bool x4)] : Env)
abbrev e190 := fun x0 x1 x2 x3 x4 x5 => ([(0, .v U10 x0), (2, .loc U9 (.pair .no (.pair (.pair (.own true 3 .no) .no) (.pair (.pair (.own true 3 .no) .no) .no))) x1), (5, .loc U9 .no x2), (6, .v U1 x3), (7, .loc U9 .no x4), (8, .v U1 x5)] : Env)
abbrev e191 := fun x0 x1 x2 x3 x4 x5 x6 => ([(0, .v U10 x0), (2, .loc U9 (.pair .no (.pair (.pair (.own true 3 .no) .no) (.pair (.pair (.own true 3 .no) .no) .no))) x1), (5, .loc U9 .no x2), (6, .v U1 x3), (7, .loc U9 .no x4), (8, .v U1 x5), (39, .v .bool x6)] : Env)
abbrev e192 := fun x0 x1 => ([(0, .dead), (2, .loc U9 .no x0), (3, .v U1 x1), (5, .dead), (6, .dead), (7, .dead)] : Env)
abbrev e193 := fun x0 x1 x2 x3 x4 => ([(0, .v U10 x0), (2, .loc U9 (.pair .no (.pair (.pair (.own true 3 .no) .no) (.pair (.pair (.own true 3 .no) .no) .no))) x1), (3, .dead), (5, .loc U9 .no x2), (6, .v U1 x3), (7, .loc U9 .no x4)] : Env)
abbrev e194 := fun x0 x1 => ([(0, .dead), (2, .loc U9 .no x0), (3, .v U1 x1), (5, .dead), (6, .dead)] : Env)
abbrev e195 := fun x0 x1 x2 x3 => ([(0, .v U10 x0), (2, .loc U9 (.pair .no (.pair (.pair (.own true 3 .no) .no) (.pair (.pair (.own true 3 .no) .no) .no))) x1), (3, .dead), (5, .loc U9 .no x2), (6, .v U1 x3)] : Env)
abbrev e196 := fun x0 x1 => ([(2, .loc U9 .no x0), (3, .v U1 x1), (5, .dead)] : Env)
abbrev e197 := fun x0 x1 => ([(2, .loc U9 (.pair .no (.pair (.pair (.own true 3 .no) .no) (.pair (.pair (.own true 3 .no) .no) .no))) x0), (3, .dead), (5, .loc U9 .no x1)] : Env)
abbrev e198 := fun x0 x1 x2 => ([(2, .loc U9 (.pair .no (.pair (.pair (.own true 3 .no) .no) (.pair (.pair (.own true 3 .no) .no) .no))) x0), (3, .loc U9 .no x1), (4, .v U1 x2)] : Env)
abbrev e199 := fun x0 x1 x2 => ([(2, .loc U9 (.pair .no (.pair (.pair (.own true 3 .no) .no) (.pair (.pair (.own true 3 .no) .no) .no))) x0), (3, .loc U9 .no x1), (11, .v .bool x2)] : Env)
abbrev e200 := fun x0 => ([(2, .loc U9 .no x0), (3, .dead)] : Env)
abbrev e201 := fun x0 x1 => ([(2, .loc U9 (.pair .no (.pair (.pair (.own true 3 .no) .no) (.pair (.pair (.own true 3 .no) .no) .no))) x0), (3, .loc U9 .no x1)] : Env)
abbrev e202 := fun x0 x1 x2 => ([(0, .v U1 x0), (1, .v U1 x1), (4, .loc U9 (.pair .no (.pair (.pair (.own true 3 .no) .no) (.pair (.pair (.own true 3 .no) .no) .no))) x2)] : Env)
abbrev e203 := fun x0 x1 x2 x3 => ([(0, .v U1 x0), (1, .v U1 x1), (4, .loc U9 (.pair .no (.pair (.pair (.own true 3 .no) .no) (.pair (.pair (.own true 3 .no) .no) .no))) x2), (8, .v .bool x3)] : Env)
abbrev e204 := fun x0 x1 => ([(0, .dead), (1, .dead), (4, .loc U9 .no x0), (5, .v U1 x1)] : Env)
abbrev e205 := fun x0 x1 x2 => ([(0, .v U1 x0), (1, .v U1 x1), (4, .loc U9 (.pair .no (.pair (.pair (.own true 3 .no) .no) (.pair (.pair (.own true 3 .no) .no) .no))) x2), (5, .dead)] : Env)
abbrev e206 := fun x0 x1 x2 x3 => ([(0, .v U1 x0), (1, .v U1 x1), (4, .loc U9 (.pair .no (.pair (.pair (.own true 3 .no) .no) (.pair (.pair (.own true 3 .no) .no) .no))) x2), (23, .v .bool x3)] : Env)
abbrev e207 := fun x0 x1 x2 x3 => ([(0, .v U1 x0), (1, .v U1 x1), (4, .loc U9 (.pair .no (.pair (.pair (.own true 3 .no) .no) (.pair (.pair (.own true 3 .no) .no) .no))) x2), (6, .v .bool x3)] : Env)
abbrev e208 := fun x0 x1 x2 x3 x4 => ([(0, .v U1 x0), (1, .v U1 x1), (4, .loc U9 (.pair .no (.pair (.pair (.own true 3 .no) .no) (.pair (.pair (.own true 3 .no) .no) .no))) x2), (6, .v .bool x3), (31, .v .bool x4)] : Env)
abbrev e209 := fun x0 x1 x2 x3 x4 => ([(0, .v U1 x0), (1, .v U1 x1), (4, .loc U9 (.pair .no (.pair (.pair (.own true 3 .no) .no) (.pair (.pair (.own true 3 .no) .no) .no))) x2), (6, .v .bool x3), (35, .v .bool x4)] : Env)
abbrev e210 := fun x0 x1 => ([(1, .loc U3 .no x0), (18, .v .bool x1)] : Env)
abbrev e211 := fun x0 x1 x2 x3 x4 => ([(1, .loc U3 .no x0), (3, .v U1 x1), (4, .v U1 x2), (5, .v U1 x3), (6, .own true 26 U9 .no x4)] : Env)
abbrev e212 := fun x0 x1 x2 x3 x4 x5 x6 => ([(1, .loc U3 .no x0), (3, .v U1 x1), (4, .v U1 x2), (5, .v U1 x3), (6, .own true 26 U9 .no x4), (36, .v U1 x5), (37, .v U1 x6)] : Env)
abbrev e213 := fun x0 x1 x2 x3 x4 x5 x6 x7 => ([(1, .loc U3 .no x0), (3, .v U1 x1), (4, .v U1 x2), (5, .v U1 x3), (6, .own true 26 U9 .no x4), (36, .v U1 x5), (37, .v U1 x6), (38, .v .bool x7)] : Env)
abbrev e214 := fun x0 x1 x2 x3 x4 x5 x6 x7 x8 => ([(1, .loc U3 .no x0), (3, .v U1 x1), (4, .v U1 x2), (5, .v U1 x3), (6, .own true 26 U9 .no x4), (8, .loc U9 .no x5), (9, .v U1 x6), (36, .v U1 x7), (37, .v U1 x8)] : Env)
abbrev e215 := fun x0 x1 x2 x3 x4 x5 x6 x7 x8 => ([(1, .loc U3 .no x0), (3, .v U1 x1), (4, .v U1 x2), (5, .v U1 x3), (6, .own true 26 U9 .no x4), (8, .loc U9 .no x5), (36, .v U1 x6), (37, .v U1 x7), (49, .v .bool x8)] : Env)
abbrev e216 := fun x0 => ([(1, .dead), (2, .v .bool x0), (3, .dead), (4, .dead), (5, .dead), (6, .dead), (8, .dead), (36, .dead), (37, .dead)] : Env)
abbrev e217 := fun x0 x1 x2 x3 x4 x5 x6 x7 => ([(1, .loc U3 .no x0), (2, .dead), (3, .v U1 x1), (4, .v U1 x2), (5, .v U1 x3), (6, .own true 26 U9 .no x4), (8, .loc U9 .no x5), (36, .v U1 x6), (37, .v U1 x7)] : Env)
abbrev e218 := fun x0 => ([(1, .dead), (2, .v .bool x0), (3, .dead), (4, .dead), (5, .dead), (6, .dead), (36, .dead), (37, .dead)] : Env)
abbrev e219 := fun x0 x1 x2 x3 x4 x5 x6 => ([(1, .loc U3 .no x0), (2, .dead), (3, .v U1 x1), (4, .v U1 x2), (5, .v U1 x3), (6, .own true 26 U9 .no x4), (36, .v U1 x5), (37, .v U1 x6)] : Env)
abbrev e220 := fun x0 => ([(1, .dead), (2, .v .bool x0), (3, .dead), (4, .dead), (5, .dead), (6, .dead)] : Env)
abbrev e221 := fun x0 x1 x2 x3 x4 => ([(1, .loc U3 .no x0), (2, .dead), (3, .v U1 x1), (4, .v U1 x2), (5, .v U1 x3), (6, .own true 26 U9 .no x4)] : Env)
variable {N : Nat} {cl : Cal} {R : Type} {K : KE R}
def g62_0 (k0 : Int → Int → Int → Int → Option R) (x0 x1 x2 x3 : Int) : Option R :=
k0 x0 x1 x2 x3
theorem t62_0 (x0 x1 x2 x3) : exec cl N c62_0 (e0 x0 x1 x2 x3) K = (g62_0 (fun y0 y1 y2 y3 => K .normal (e0 y0 y1 y2 y3)) x0 x1 x2 x3) := by
 kernel_rfl
def g62_1 (k0 : Bool → Option R) (x0 x1 x2 x3 : Int) : Option R :=
brB (decide (x0 < (0 : Int))) (k0 true) (brB (decide (x0 > (400 : Int))) (k0 true) (brB (decide (x1 < (0 : Int))) (k0 true) (brB (decide (x1 > x0)) (k0 true) (brB (decide (x2 < (0 : Int))) (k0 true) (brB (decide (x2 > x0)) (k0 true) (brB (decide (x3 < (0 : Int))) (k0 true) (k0 (decide (x3 > x2)))))))))
theorem t62_1 (x0 x1 x2 x3) : exec cl N c62_1 (e0 x0 x1 x2 x3) K = (g62_1 (fun y0 => K .normal [(41, .v .bool y0)]) x0 x1 x2 x3) := by
 kernel_rfl
def g62_2 (k0 : Int → Option R) (x0 : Bool) : Option R :=
k0 (6 : Int)
theorem t62_2 (x0) : exec cl N c62_2 [(41, .v .bool x0)] K = (g62_2 (fun y0 => K .normal [(8, .v U1 y0)]) x0) := by
 kernel_rfl
theorem kp62_0 (x0) : keep [8] [(8, .v U1 x0)] = [(8, .v U1 x0)] := by kernel_rfl
theorem kp62_1 (x0) : keep [8] [(41, .v .bool x0)] = [(8, .dead)] := by kernel_rfl
theorem hb62_0 (x0) : boolOf? (ent [(41, .v .bool x0)] (.t 41)) = some x0 := by kernel_rfl
def g62_4 (k0 : Int → Option R) : Option R :=
k0 (0 : Int)
theorem t62_4 : exec cl N c62_4 [(8, .dead)] K = (g62_4 (fun y0 => K .normal [(8, .v U1 y0)])) := by
 kernel_rfl
def g62_5 (k0 : Int → Option R) (x0 x1 x2 x3 : Int) : Option R :=
(g62_0 (g62_1 (fun y0 => brB y0 (g62_2 k0 y0) (g62_4 k0))) x0 x1 x2 x3)
theorem t62_5 (x0 x1 x2 x3) : exec cl N c62_5 (e0 x0 x1 x2 x3) K = (g62_5 (fun y0 => K .ret [(8, .v U1 y0)]) x0 x1 x2 x3) := by
 simp only [c62_5, exec_seq, seqK_normal, seqK_exit, seqK_ret, t62_0, t62_1, c62_3, exec_out, exec_cond', hb62_0, Option.bind_some, brB_true, brB_false, t62_2, exec_ret, exec_skip, kp62_0, kp62_1, t62_4]
 rfl
theorem rk62_0 (y0) : retK d62 .ret [(8, .v U1 y0)] = some [.v U1 y0] := by kernel_rfl
def g62 (x0 x1 x2 x3 : Int) (k : Int → Option R) : Option R :=
(g62_5 k x0 x1 x2 x3)
theorem gen62 (x0 x1 x2 x3) (k : List E → Option R) : exec cl N c62 (e0 x0 x1 x2 x3) (fun e env => (retK d62 e env).bind k) = g62 x0 x1 x2 x3 (fun r0 => k [.v U1 r0]) := by
 simp only [c62, t62_5, rk62_0, Option.bind_some]
 rfl
def ctr62 (S : Int → Int → Int → Int → Option (Int)) : Ctr := cv4 62 U1 U1 U1 U1 S fun b => [.v U1 b]
def S62 (N : Nat) (x0 : Int) (x1 : Int) (x2 : Int) (x3 : Int) : Option (Int) := g62 x0 x1 x2 x3 (fun (r0 : Int) => some (r0))
def g118_0 (k0 : V0 → Option R) (x0 : V0) : Option R :=
k0 x0
theorem t118_0 (x0) : exec cl N c118_0 [(0, .v U2 x0)] K = (g118_0 (fun y0 => K .normal [(0, .v U2 y0)]) x0) := by
 kernel_rfl
theorem kp118_0 (x0) : keep [0] [(0, .v U2 x0)] = [(0, .v U2 x0)] := by kernel_rfl
def g118_1 (k0 : V0 → Bool → Option R) (x0 : V0) : Option R :=
brB (decide ((x0.length : Int) > (0 : Int))) (let v61 : Int := (IntKind.i64.wrap ((x0.length : Int) - (1 : Int)))
if 0 ≤ v61 ∧ v61 < (x0.length : Int) then
k0 x0 ((x0.getD v61.toNat (0 : Int)) == (0 : Int))
else none) (k0 x0 false)
theorem t118_1 (x0) : exec cl N c118_1 [(0, .v U2 x0)] K = (g118_1 (fun y0 y1 => K .normal (e1 y0 y1)) x0) := by
 kernel_rfl
theorem kp118_1 (x0 x1) : keep [0] (e1 x0 x1) = [(0, .v U2 x0)] := by kernel_rfl
theorem hb118_0 (x0 x1) : boolOf? (ent (e1 x0 x1) (.t 14)) = some x1 := by kernel_rfl
def g118_3 (k0 : V0 → Option R) (x0 : V0) : Option R :=
let v63 : Int := (IntKind.i64.wrap ((x0.length : Int) - (1 : Int)))
if 0 ≤ (0 : Int) ∧ (0 : Int) ≤ v63 ∧ v63 ≤ (x0.length : Int) ∧ (x0.length : Int) ≤ (x0.length : Int) then
k0 ((x0.drop (0 : Int).toNat).take (v63.toNat - (0 : Int).toNat))
else none
theorem t118_3 (x0) : exec cl N c118_3 [(0, .v U2 x0)] K = (g118_3 (fun y0 => K .normal [(0, .v U2 y0)]) x0) := by
 kernel_rfl
def g118_5 (k0 : V0 → Option R) (k1 : V0 → Option R) (x0 : V0) : Option R :=
(g118_1 (fun y0 y1 => brB y1 ((g118_3 k0) y0) (k1 y0)) x0)
theorem t118_5 (x0) : exec cl N c118_5 [(0, .v U2 x0)] K = (g118_5 (fun y0 => K .normal [(0, .v U2 y0)]) (fun y0 => K (.exit 0) [(0, .v U2 y0)]) x0) := by
 simp only [c118_5, exec_seq, seqK_normal, seqK_exit, seqK_ret, t118_1, c118_2, exec_out, exec_cond', hb118_0, Option.bind_some, brB_true, brB_false, exec_skip, exec_exit, kp118_1, c118_4, exec_block, t118_3, blockK_normal, blockK_ret, blockK_eq, kp118_0]
 rfl
def l118_6 {R : Type} (k0 : V0 → Option R) : Nat → V0 → Option R
 | 0, _ => none
 | m + 1, x0 => (g118_5 (l118_6 k0 m) k0 x0)
theorem lt118_6 : ∀ (m) (x0), iter [0] (fun env K => exec cl N c118_5 env K) K m [(0, .v U2 x0)] = l118_6 (fun y0 => K (.exit 0) [(0, .v U2 y0)]) m x0 := by
 intro m
 induction m with
 | zero => intros; rfl
 | succ m ih =>
   intro x0
   simp only [iter_succ, t118_5, loopK_normal, loopK_exit, loopK_ret, kp118_0, ih]
   rfl
def g118_6 (N : Nat) (k0 : V0 → Option R) (x0 : V0) : Option R :=
l118_6 k0 N x0
theorem t118_6 (x0) : exec cl N c118_6 [(0, .v U2 x0)] K = (g118_6 N (fun y0 => K (.exit 0) [(0, .v U2 y0)]) x0) := by
 simp only [c118_6, exec_out, exec_loop, kp118_0, lt118_6, kp118_0]
 rfl
def g118_8 (k0 : V0 → Option R) (x0 : V0) : Option R :=
k0 x0
theorem t118_8 (x0) : exec cl N c118_8 [(0, .v U2 x0)] K = (g118_8 (fun y0 => K .normal [(2, .v U2 y0)]) x0) := by
 kernel_rfl
def g118_9 (N : Nat) (k0 : V0 → Option R) (x0 : V0) : Option R :=
(g118_0 (g118_6 N ((g118_8 k0))) x0)
theorem t118_9 (x0) : exec cl N c118_9 [(0, .v U2 x0)] K = (g118_9 N (fun y0 => K .ret [(2, .v U2 y0)]) x0) := by
 simp only [c118_9, exec_seq, seqK_normal, seqK_exit, seqK_ret, t118_0, c118_7, exec_out, exec_block, t118_6, blockK_normal, blockK_ret, blockK_eq, kp118_0, t118_8, exec_ret]
 rfl
theorem rk118_0 (y0) : retK d118 .ret [(2, .v U2 y0)] = some [.v U2 y0] := by kernel_rfl
def g118 (N : Nat) (x0 : V0) (k : V0 → Option R) : Option R :=
(g118_9 N k x0)
theorem gen118 (x0) (k : List E → Option R) : exec cl N c118 [(0, .v U2 x0)] (fun e env => (retK d118 e env).bind k) = g118 N x0 (fun r0 => k [.v U2 r0]) := by
 simp only [c118, t118_9, rk118_0, Option.bind_some]
 rfl
def ctr118 (S : V0 → Option V1) : Ctr := cv1 118 U2 S fun b => [.v U2 b]
def S118 (N : Nat) (x0 : V0) : Option V1 := g118 N x0 (fun (r0 : V0) => some (r0))
def g105_6 (S118 : V0 → Option V1) (k0 : V0 → V2 → Option R) (x0 : V0) : Option R :=
(S118 x0).bind fun r67 =>
k0 r67 ([], ())
theorem t105_6 (S118) (h118 : (ctr118 S118).holds cl) (x0) : exec cl N c105_6 [(0, .v U2 x0)] K = (g105_6 S118 (fun y0 y1 => exec cl N (.seq (.seq c105_2 c105_4) (.seq c105_5 .ret)) (e2 y0 y1) K) x0) := by
 rw [← put_eq h118]
 kernel_rfl
def g105_2 (k0 : V0 → V2 → Bool → Option R) (x0 : V0) (x1 : V2) : Option R :=
k0 x0 x1 ((x0.length : Int) == (0 : Int))
theorem t105_2 (x0 x1) : exec cl N c105_2 (e2 x0 x1) K = (g105_2 (fun y0 y1 y2 => K .normal (e3 y0 y1 y2)) x0 x1) := by
 kernel_rfl
def g105_3 (k0 : V2 → Option R) (x0 : V0) (x1 : V2) (x2 : Bool) : Option R :=
k0 ([], ())
theorem t105_3 (x0 x1 x2) : exec cl N c105_3 (e3 x0 x1 x2) K = (g105_3 (fun y0 => K .normal [(2, .loc U5 (.pair (.own true 3 .no) .no) y0)]) x0 x1 x2) := by
 kernel_rfl
theorem kp105_0 (x0) : keep [0, 2] [(2, .loc U5 (.pair (.own true 3 .no) .no) x0)] = (e4 x0) := by kernel_rfl
theorem kp105_1 (x0 x1 x2) : keep [0, 2] (e3 x0 x1 x2) = (e2 x0 x1) := by kernel_rfl
theorem hb105_0 (x0 x1 x2) : boolOf? (ent (e3 x0 x1 x2) (.t 7)) = some x2 := by kernel_rfl
def g105_5 (k0 : V2 → Option R) (x0 : V0) (x1 : V2) : Option R :=
k0 (x0, ())
theorem t105_5 (x0 x1) : exec cl N c105_5 (e2 x0 x1) K = (g105_5 (fun y0 => K .normal [(2, .loc U5 .no y0)]) x0 x1) := by
 kernel_rfl
def g105_6b (S118 : V0 → Option V1) (k0 : V2 → Option R) (k1 : V2 → Option R) (x0 : V0) : Option R :=
(g105_6 S118 (g105_2 (fun y0 y1 y2 => brB y2 (g105_3 k0 y0 y1 y2) ((g105_5 k1) y0 y1))) x0)
theorem t105_6b (S118) (h118 : (ctr118 S118).holds cl) (x0) : exec cl N c105_6 [(0, .v U2 x0)] K = (g105_6b S118 (fun y0 => K .ret (e4 y0)) (fun y0 => K .ret [(2, .loc U5 .no y0)]) x0) := by
 simp only [exec_seq, seqK_normal, seqK_exit, seqK_ret, t105_6 S118 h118, t105_2, c105_4, exec_out, exec_cond', hb105_0, Option.bind_some, brB_true, brB_false, t105_3, exec_ret, exec_skip, kp105_0, kp105_1, t105_5]
 rfl
theorem rk105_0 (y0) : retK d105 .ret (e4 y0) = some [.v U5 y0] := by kernel_rfl
theorem rk105_1 (y0) : retK d105 .ret [(2, .loc U5 .no y0)] = some [.v U5 y0] := by kernel_rfl
def g105 (S118 : V0 → Option V1) (x0 : V0) (k : V2 → Option R) : Option R :=
(g105_6b S118 k k x0)
theorem gen105 (S118) (h118 : (ctr118 S118).holds cl) (x0) (k : List E → Option R) : exec cl N c105 [(0, .v U2 x0)] (fun e env => (retK d105 e env).bind k) = g105 S118 x0 (fun r0 => k [.v U5 r0]) := by
 simp only [c105, t105_6b S118 h118, rk105_0, rk105_1, Option.bind_some]
 rfl
def ctr105 (S : V0 → Option V3) : Ctr := cv1 105 U2 S fun b => [.v U5 b]
def S105 (N : Nat) (x0 : V0) : Option V3 := g105 (S118 N) x0 (fun (r0 : V2) => some (r0))
def g81_0 (k0 : Int → V2 → Option R) (x0 : Int) : Option R :=
k0 x0 ([], ())
theorem t81_0 (x0) : exec cl N c81_0 [(0, .v U1 x0)] K = (g81_0 (fun y0 y1 => K .normal (e5 y0 y1)) x0) := by
 kernel_rfl
def g81_1 (k0 : Int → V2 → Bool → Option R) (x0 : Int) (x1 : V2) : Option R :=
k0 x0 x1 (decide (x0 < (0 : Int)))
theorem t81_1 (x0 x1) : exec cl N c81_1 (e5 x0 x1) K = (g81_1 (fun y0 y1 y2 => K .normal (e6 y0 y1 y2)) x0 x1) := by
 kernel_rfl
def g81_2 (k0 : V2 → Int → Option R) (x0 : Int) (x1 : V2) (x2 : Bool) : Option R :=
k0 ([], ()) (6 : Int)
theorem t81_2 (x0 x1 x2) : exec cl N c81_2 (e6 x0 x1 x2) K = (g81_2 (fun y0 y1 => K .normal (e7 y0 y1)) x0 x1 x2) := by
 kernel_rfl
theorem kp81_0 (x0 x1) : keep [0, 2, 3] (e7 x0 x1) = (e8 x0 x1) := by kernel_rfl
theorem kp81_1 (x0 x1 x2) : keep [0, 2, 3] (e6 x0 x1 x2) = (e9 x0 x1) := by kernel_rfl
theorem hb81_0 (x0 x1 x2) : boolOf? (ent (e6 x0 x1 x2) (.t 6)) = some x2 := by kernel_rfl
def g81_4 (k0 : Int → V2 → V0 → Option R) (x0 : Int) (x1 : V2) : Option R :=
k0 x0 x1 []
theorem t81_4 (x0 x1) : exec cl N c81_4 (e9 x0 x1) K = (g81_4 (fun y0 y1 y2 => K .normal (e10 y0 y1 y2)) x0 x1) := by
 kernel_rfl
theorem kp81_2 (x0 x1 x2) : keep [0, 2, 4] (e10 x0 x1 x2) = (e10 x0 x1 x2) := by kernel_rfl
def g81_5 (k0 : Int → V2 → V0 → Bool → Option R) (x0 : Int) (x1 : V2) (x2 : V0) : Option R :=
k0 x0 x1 x2 (decide (x0 > (0 : Int)))
theorem t81_5 (x0 x1 x2) : exec cl N c81_5 (e10 x0 x1 x2) K = (g81_5 (fun y0 y1 y2 y3 => K .normal (e11 y0 y1 y2 y3)) x0 x1 x2) := by
 kernel_rfl
theorem kp81_3 (x0 x1 x2 x3) : keep [0, 2, 4] (e11 x0 x1 x2 x3) = (e10 x0 x1 x2) := by kernel_rfl
theorem hb81_1 (x0 x1 x2 x3) : boolOf? (ent (e11 x0 x1 x2 x3) (.t 9)) = some x3 := by kernel_rfl
def g81_7 (k0 : Int → V2 → V0 → Option R) (x0 : Int) (x1 : V2) (x2 : V0) : Option R :=
let v72 : Int := (Int.tmod x0 (10000 : Int))
if x2.length + [v72].length ≤ 17592186044416 then
k0 x0 x1 (x2 ++ [v72])
else none
theorem t81_7 (x0 x1 x2) : exec cl N c81_7 (e10 x0 x1 x2) K = (g81_7 (fun y0 y1 y2 => K .normal (e10 y0 y1 y2)) x0 x1 x2) := by
 kernel_rfl
def g81_9 (k0 : Int → V2 → V0 → Option R) (x0 : Int) (x1 : V2) (x2 : V0) : Option R :=
k0 (IntKind.i64.wrap (Int.tdiv x0 (10000 : Int))) x1 x2
theorem t81_9 (x0 x1 x2) : exec cl N c81_9 (e10 x0 x1 x2) K = (g81_9 (fun y0 y1 y2 => K .normal (e10 y0 y1 y2)) x0 x1 x2) := by
 kernel_rfl
def g81_10 (k0 : Int → V2 → V0 → Option R) (k1 : Int → V2 → V0 → Option R) (x0 : Int) (x1 : V2) (x2 : V0) : Option R :=
(g81_5 (fun y0 y1 y2 y3 => brB y3 ((g81_7 ((g81_9 k0))) y0 y1 y2) (k1 y0 y1 y2)) x0 x1 x2)
theorem t81_10 (x0 x1 x2) : exec cl N c81_10 (e10 x0 x1 x2) K = (g81_10 (fun y0 y1 y2 => K .normal (e10 y0 y1 y2)) (fun y0 y1 y2 => K (.exit 0) (e10 y0 y1 y2)) x0 x1 x2) := by
 simp only [c81_10, exec_seq, seqK_normal, seqK_exit, seqK_ret, t81_5, c81_6, exec_out, exec_cond', hb81_1, Option.bind_some, brB_true, brB_false, exec_skip, exec_exit, kp81_3, c81_8, exec_block, t81_7, blockK_normal, blockK_ret, blockK_eq, kp81_2, t81_9]
 rfl
def l81_11 {R : Type} (k0 : Int → V2 → V0 → Option R) : Nat → Int → V2 → V0 → Option R
 | 0, _, _, _ => none
 | m + 1, x0, x1, x2 => (g81_10 (l81_11 k0 m) k0 x0 x1 x2)
theorem lt81_11 : ∀ (m) (x0 x1 x2), iter [0, 2, 4] (fun env K => exec cl N c81_10 env K) K m (e10 x0 x1 x2) = l81_11 (fun y0 y1 y2 => K (.exit 0) (e10 y0 y1 y2)) m x0 x1 x2 := by
 intro m
 induction m with
 | zero => intros; rfl
 | succ m ih =>
   intro x0 x1 x2
   simp only [iter_succ, t81_10, loopK_normal, loopK_exit, loopK_ret, kp81_2, ih]
   rfl
theorem kp81_4 (x0 x1 x2) : keep [2, 4] (e10 x0 x1 x2) = (e12 x1 x2) := by kernel_rfl
def g81_11 (N : Nat) (k0 : V2 → V0 → Option R) (x0 : Int) (x1 : V2) (x2 : V0) : Option R :=
l81_11 (fun y0 y1 y2 => k0 y1 y2) N x0 x1 x2
theorem t81_11 (x0 x1 x2) : exec cl N c81_11 (e10 x0 x1 x2) K = (g81_11 N (fun y0 y1 => K (.exit 0) (e12 y0 y1)) x0 x1 x2) := by
 simp only [c81_11, exec_out, exec_loop, kp81_2, lt81_11, kp81_4]
 rfl
theorem kp81_5 (x0 x1) : keep [2, 4] (e12 x0 x1) = (e12 x0 x1) := by kernel_rfl
def g81_13 (S105 : V0 → Option V3) (k0 : V2 → Int → Option R) (x0 : V2) (x1 : V0) : Option R :=
(S105 x1).bind fun r74 =>
k0 r74 (0 : Int)
theorem t81_13 (S105) (h105 : (ctr105 S105).holds cl) (x0 x1) : exec cl N c81_13 (e12 x0 x1) K = (g81_13 S105 (fun y0 y1 => K .normal (e13 y0 y1)) x0 x1) := by
 rw [← put_eq h105]
 kernel_rfl
def g81_14 (N : Nat) (S105 : V0 → Option V3) (k0 : V2 → Int → Option R) (k1 : V2 → Int → Option R) (x0 : Int) : Option R :=
(g81_0 (g81_1 (fun y0 y1 y2 => brB y2 (g81_2 k0 y0 y1 y2) ((g81_4 (g81_11 N ((g81_13 S105 k1)))) y0 y1))) x0)
theorem t81_14 (S105) (h105 : (ctr105 S105).holds cl) (x0) : exec cl N c81_14 [(0, .v U1 x0)] K = (g81_14 N S105 (fun y0 y1 => K .ret (e8 y0 y1)) (fun y0 y1 => K .ret (e13 y0 y1)) x0) := by
 simp only [c81_14, exec_seq, seqK_normal, seqK_exit, seqK_ret, t81_0, t81_1, c81_3, exec_out, exec_cond', hb81_0, Option.bind_some, brB_true, brB_false, t81_2, exec_ret, exec_skip, kp81_0, kp81_1, t81_4, c81_12, exec_block, t81_11, blockK_normal, blockK_ret, blockK_eq, kp81_5, t81_13 S105 h105]
 rfl
theorem rk81_0 (y0 y1) : retK d81 .ret (e8 y0 y1) = some [.v U5 y0, .v U1 y1] := by kernel_rfl
theorem rk81_1 (y0 y1) : retK d81 .ret (e13 y0 y1) = some [.v U5 y0, .v U1 y1] := by kernel_rfl
def g81 (N : Nat) (S105 : V0 → Option V3) (x0 : Int) (k : V2 → Int → Option R) : Option R :=
(g81_14 N S105 k k x0)
theorem gen81 (S105) (h105 : (ctr105 S105).holds cl) (x0) (k : List E → Option R) : exec cl N c81 [(0, .v U1 x0)] (fun e env => (retK d81 e env).bind k) = g81 N S105 x0 (fun r0 r1 => k [.v U5 r0, .v U1 r1]) := by
 simp only [c81, t81_14 S105 h105, rk81_0, rk81_1, Option.bind_some]
 rfl
def ctr81 (S : Int → Option V5) : Ctr := cv1 81 U1 S fun b => [.v U5 b.1, .v U1 b.2]
def S81 (N : Nat) (x0 : Int) : Option V5 := g81 N (S105 N) x0 (fun (r0 : V2) (r1 : Int) => some (r0, r1))
def g49_3 (S81 : Int → Option V5) (k0 : V2 → Option R) (x0 : Int) : Option R :=
(S81 x0).bind fun r78 =>
k0 r78.1
theorem t49_3 (S81) (h81 : (ctr81 S81).holds cl) (x0) : exec cl N c49_3 [(0, .v U1 x0)] K = (g49_3 S81 (fun y0 => exec cl N .ret [(2, .loc U5 .no y0)] K) x0) := by
 rw [← put_eq h81]
 kernel_rfl
def g49_3b (S81 : Int → Option V5) (k0 : V2 → Option R) (x0 : Int) : Option R :=
(g49_3 S81 k0 x0)
theorem t49_3b (S81) (h81 : (ctr81 S81).holds cl) (x0) : exec cl N c49_3 [(0, .v U1 x0)] K = (g49_3b S81 (fun y0 => K .ret [(2, .loc U5 .no y0)]) x0) := by
 simp only [exec_seq, seqK_normal, seqK_exit, seqK_ret, t49_3 S81 h81, exec_ret]
 rfl
theorem rk49_0 (y0) : retK d49 .ret [(2, .loc U5 .no y0)] = some [.v U5 y0] := by kernel_rfl
def g49 (S81 : Int → Option V5) (x0 : Int) (k : V2 → Option R) : Option R :=
(g49_3b S81 k x0)
theorem gen49 (S81) (h81 : (ctr81 S81).holds cl) (x0) (k : List E → Option R) : exec cl N c49 [(0, .v U1 x0)] (fun e env => (retK d49 e env).bind k) = g49 S81 x0 (fun r0 => k [.v U5 r0]) := by
 simp only [c49, t49_3b S81 h81, rk49_0, Option.bind_some]
 rfl
def ctr49 (S : Int → Option V3) : Ctr := cv1 49 U1 S fun b => [.v U5 b]
def S49 (N : Nat) (x0 : Int) : Option V3 := g49 (S81 N) x0 (fun (r0 : V2) => some (r0))
def g114_28 (k0 : V0 → V0 → V0 → Option R) (x0 x1 : V0) : Option R :=
let v118 : Int := (IntKind.i64.wrap ((x0.length : Int) + (x1.length : Int)))
if 0 ≤ v118 ∧ v118 ≤ v118 ∧ v118 ≤ ((17592186044416 : Nat) : Int) then
k0 x0 x1 (List.replicate v118.toNat (0 : Int))
else none
theorem t114_28 (x0 x1) : exec cl N c114_28 (e14 x0 x1) K = (g114_28 (fun y0 y1 y2 => exec cl N (.seq (.seq c114_2 c114_26) (.seq c114_27 .ret)) (e15 y0 y1 y2) K) x0 x1) := by
 kernel_rfl
def g114_2 (k0 : V0 → V0 → V0 → Int → Int → Option R) (x0 x1 x2 : V0) : Option R :=
k0 x1 x2 x0 (x0.length : Int) (0 : Int)
theorem t114_2 (x0 x1 x2) : exec cl N c114_2 (e15 x0 x1 x2) K = (g114_2 (fun y0 y1 y2 y3 y4 => K .normal (e16 y0 y1 y2 y3 y4)) x0 x1 x2) := by
 kernel_rfl
theorem kp114_0 (x0 x1 x2 x3 x4) : keep [1, 5, 17, 18, 19] (e16 x0 x1 x2 x3 x4) = (e16 x0 x1 x2 x3 x4) := by kernel_rfl
def g114_3 (k0 : V0 → V0 → V0 → Int → Int → Bool → Option R) (x0 x1 x2 : V0) (x3 x4 : Int) : Option R :=
k0 x0 x1 x2 x3 x4 (decide (x4 < x3))
theorem t114_3 (x0 x1 x2 x3 x4) : exec cl N c114_3 (e16 x0 x1 x2 x3 x4) K = (g114_3 (fun y0 y1 y2 y3 y4 y5 => K .normal (e17 y0 y1 y2 y3 y4 y5)) x0 x1 x2 x3 x4) := by
 kernel_rfl
theorem kp114_1 (x0 x1 x2 x3 x4 x5) : keep [1, 5, 17, 18, 19] (e17 x0 x1 x2 x3 x4 x5) = (e16 x0 x1 x2 x3 x4) := by kernel_rfl
theorem hb114_0 (x0 x1 x2 x3 x4 x5) : boolOf? (ent (e17 x0 x1 x2 x3 x4 x5) (.t 20)) = some x5 := by kernel_rfl
def g114_21 (k0 : V0 → V0 → Int → Int → Int → V0 → Int → Int → Option R) (x0 x1 x2 : V0) (x3 x4 : Int) : Option R :=
if 0 ≤ x4 ∧ x4 < (x2.length : Int) then
k0 x0 x1 x4 (x2.getD x4.toNat (0 : Int)) (0 : Int) x2 x3 x4
else none
theorem t114_21 (x0 x1 x2 x3 x4) : exec cl N c114_21 (e16 x0 x1 x2 x3 x4) K = (g114_21 (fun y0 y1 y2 y3 y4 y5 y6 y7 => exec cl N (.seq (.seq c114_7 c114_19) c114_20) (e18 y0 y1 y2 y3 y4 y5 y6 y7) K) x0 x1 x2 x3 x4) := by
 kernel_rfl
def g114_7 (k0 : V0 → V0 → Int → Int → Int → V0 → Int → Int → V0 → Int → Int → Option R) (x0 x1 : V0) (x2 x3 x4 : Int) (x5 : V0) (x6 x7 : Int) : Option R :=
k0 x0 x1 x2 x3 x4 x5 x6 x7 x0 (x0.length : Int) (0 : Int)
theorem t114_7 (x0 x1 x2 x3 x4 x5 x6 x7) : exec cl N c114_7 (e18 x0 x1 x2 x3 x4 x5 x6 x7) K = (g114_7 (fun y0 y1 y2 y3 y4 y5 y6 y7 y8 y9 y10 => K .normal (e19 y0 y1 y2 y3 y4 y5 y6 y7 y8 y9 y10)) x0 x1 x2 x3 x4 x5 x6 x7) := by
 kernel_rfl
theorem kp114_2 (x0 x1 x2 x3 x4 x5 x6 x7 x8 x9 x10) : keep [1, 5, 6, 7, 8, 17, 18, 19, 24, 25, 26] (e19 x0 x1 x2 x3 x4 x5 x6 x7 x8 x9 x10) = (e19 x0 x1 x2 x3 x4 x5 x6 x7 x8 x9 x10) := by kernel_rfl
def g114_8 (k0 : V0 → V0 → Int → Int → Int → V0 → Int → Int → V0 → Int → Int → Bool → Option R) (x0 x1 : V0) (x2 x3 x4 : Int) (x5 : V0) (x6 x7 : Int) (x8 : V0) (x9 x10 : Int) : Option R :=
k0 x0 x1 x2 x3 x4 x5 x6 x7 x8 x9 x10 (decide (x10 < x9))
theorem t114_8 (x0 x1 x2 x3 x4 x5 x6 x7 x8 x9 x10) : exec cl N c114_8 (e19 x0 x1 x2 x3 x4 x5 x6 x7 x8 x9 x10) K = (g114_8 (fun y0 y1 y2 y3 y4 y5 y6 y7 y8 y9 y10 y11 => K .normal (e20 y0 y1 y2 y3 y4 y5 y6 y7 y8 y9 y10 y11)) x0 x1 x2 x3 x4 x5 x6 x7 x8 x9 x10) := by
 kernel_rfl
theorem kp114_3 (x0 x1 x2 x3 x4 x5 x6 x7 x8 x9 x10 x11) : keep [1, 5, 6, 7, 8, 17, 18, 19, 24, 25, 26] (e20 x0 x1 x2 x3 x4 x5 x6 x7 x8 x9 x10 x11) = (e19 x0 x1 x2 x3 x4 x5 x6 x7 x8 x9 x10) := by kernel_rfl
theorem hb114_1 (x0 x1 x2 x3 x4 x5 x6 x7 x8 x9 x10 x11) : boolOf? (ent (e20 x0 x1 x2 x3 x4 x5 x6 x7 x8 x9 x10 x11) (.t 27)) = some x11 := by kernel_rfl
def g114_14 (k0 : V0 → V0 → Int → Int → Int → V0 → Int → Int → V0 → Int → Int → Option R) (x0 x1 : V0) (x2 x3 x4 : Int) (x5 : V0) (x6 x7 : Int) (x8 : V0) (x9 x10 : Int) : Option R :=
if 0 ≤ x10 ∧ x10 < (x8.length : Int) then
let v133 : Int := (IntKind.i64.wrap (x2 + x10))
if 0 ≤ v133 ∧ v133 < (x1.length : Int) then
if v133.toNat < x1.length then
let v137 : Int := (IntKind.i64.wrap (x4 + (IntKind.i64.wrap ((x1.getD v133.toNat (0 : Int)) + (IntKind.i64.wrap (x3 * (x8.getD x10.toNat (0 : Int))))))))
let v138 : Int := (IntKind.i64.wrap (x2 + x10))
if 0 ≤ v138 ∧ v138 < (x1.length : Int) then
if v138.toNat < x1.length then
k0 x0 (x1.set v138.toNat (Int.tmod v137 (10000 : Int))) x2 x3 (IntKind.i64.wrap (Int.tdiv v137 (10000 : Int))) x5 x6 x7 x8 x9 x10
else none
else none
else none
else none
else none
theorem t114_14 (x0 x1 x2 x3 x4 x5 x6 x7 x8 x9 x10) : exec cl N c114_14 (e19 x0 x1 x2 x3 x4 x5 x6 x7 x8 x9 x10) K = (g114_14 (fun y0 y1 y2 y3 y4 y5 y6 y7 y8 y9 y10 => K .normal (e19 y0 y1 y2 y3 y4 y5 y6 y7 y8 y9 y10)) x0 x1 x2 x3 x4 x5 x6 x7 x8 x9 x10) := by
 kernel_rfl
def g114_16 (k0 : V0 → V0 → Int → Int → Int → V0 → Int → Int → V0 → Int → Int → Option R) (x0 x1 : V0) (x2 x3 x4 : Int) (x5 : V0) (x6 x7 : Int) (x8 : V0) (x9 x10 : Int) : Option R :=
k0 x0 x1 x2 x3 x4 x5 x6 x7 x8 x9 (IntKind.i64.wrap (x10 + (1 : Int)))
theorem t114_16 (x0 x1 x2 x3 x4 x5 x6 x7 x8 x9 x10) : exec cl N c114_16 (e19 x0 x1 x2 x3 x4 x5 x6 x7 x8 x9 x10) K = (g114_16 (fun y0 y1 y2 y3 y4 y5 y6 y7 y8 y9 y10 => K .normal (e19 y0 y1 y2 y3 y4 y5 y6 y7 y8 y9 y10)) x0 x1 x2 x3 x4 x5 x6 x7 x8 x9 x10) := by
 kernel_rfl
def g114_17 (k0 : V0 → V0 → Int → Int → Int → V0 → Int → Int → V0 → Int → Int → Option R) (k1 : V0 → V0 → Int → Int → Int → V0 → Int → Int → V0 → Int → Int → Option R) (x0 x1 : V0) (x2 x3 x4 : Int) (x5 : V0) (x6 x7 : Int) (x8 : V0) (x9 x10 : Int) : Option R :=
(g114_8 (fun y0 y1 y2 y3 y4 y5 y6 y7 y8 y9 y10 y11 => brB y11 ((g114_14 ((g114_16 k0))) y0 y1 y2 y3 y4 y5 y6 y7 y8 y9 y10) (k1 y0 y1 y2 y3 y4 y5 y6 y7 y8 y9 y10)) x0 x1 x2 x3 x4 x5 x6 x7 x8 x9 x10)
theorem t114_17 (x0 x1 x2 x3 x4 x5 x6 x7 x8 x9 x10) : exec cl N c114_17 (e19 x0 x1 x2 x3 x4 x5 x6 x7 x8 x9 x10) K = (g114_17 (fun y0 y1 y2 y3 y4 y5 y6 y7 y8 y9 y10 => K .normal (e19 y0 y1 y2 y3 y4 y5 y6 y7 y8 y9 y10)) (fun y0 y1 y2 y3 y4 y5 y6 y7 y8 y9 y10 => K (.exit 2) (e19 y0 y1 y2 y3 y4 y5 y6 y7 y8 y9 y10)) x0 x1 x2 x3 x4 x5 x6 x7 x8 x9 x10) := by
 simp only [c114_17, exec_seq, seqK_normal, seqK_exit, seqK_ret, t114_8, c114_9, exec_out, exec_cond', hb114_1, Option.bind_some, brB_true, brB_false, exec_skip, exec_exit, kp114_3, c114_15, exec_block, t114_14, blockK_normal, blockK_ret, blockK_eq, kp114_2, t114_16]
 rfl
def l114_18 {R : Type} (k0 : V0 → V0 → Int → Int → Int → V0 → Int → Int → V0 → Int → Int → Option R) : Nat → V0 → V0 → Int → Int → Int → V0 → Int → Int → V0 → Int → Int → Option R
 | 0, _, _, _, _, _, _, _, _, _, _, _ => none
 | m + 1, x0, x1, x2, x3, x4, x5, x6, x7, x8, x9, x10 => (g114_17 (l114_18 k0 m) k0 x0 x1 x2 x3 x4 x5 x6 x7 x8 x9 x10)
theorem lt114_18 : ∀ (m) (x0 x1 x2 x3 x4 x5 x6 x7 x8 x9 x10), iter [1, 5, 6, 7, 8, 17, 18, 19, 24, 25, 26] (fun env K => exec cl N c114_17 env K) K m (e19 x0 x1 x2 x3 x4 x5 x6 x7 x8 x9 x10) = l114_18 (fun y0 y1 y2 y3 y4 y5 y6 y7 y8 y9 y10 => K (.exit 2) (e19 y0 y1 y2 y3 y4 y5 y6 y7 y8 y9 y10)) m x0 x1 x2 x3 x4 x5 x6 x7 x8 x9 x10 := by
 intro m
 induction m with
 | zero => intros; rfl
 | succ m ih =>
   intro x0 x1 x2 x3 x4 x5 x6 x7 x8 x9 x10
   simp only [iter_succ, t114_17, loopK_normal, loopK_exit, loopK_ret, kp114_2, ih]
   rfl
theorem kp114_4 (x0 x1 x2 x3 x4 x5 x6 x7 x8 x9 x10) : keep [1, 5, 6, 8, 17, 18, 19] (e19 x0 x1 x2 x3 x4 x5 x6 x7 x8 x9 x10) = (e21 x0 x1 x2 x4 x5 x6 x7) := by kernel_rfl
def g114_18 (N : Nat) (k0 : V0 → V0 → Int → Int → V0 → Int → Int → Option R) (x0 x1 : V0) (x2 x3 x4 : Int) (x5 : V0) (x6 x7 : Int) (x8 : V0) (x9 x10 : Int) : Option R :=
l114_18 (fun y0 y1 y2 y3 y4 y5 y6 y7 y8 y9 y10 => k0 y0 y1 y2 y4 y5 y6 y7) N x0 x1 x2 x3 x4 x5 x6 x7 x8 x9 x10
theorem t114_18 (x0 x1 x2 x3 x4 x5 x6 x7 x8 x9 x10) : exec cl N c114_18 (e19 x0 x1 x2 x3 x4 x5 x6 x7 x8 x9 x10) K = (g114_18 N (fun y0 y1 y2 y3 y4 y5 y6 => K (.exit 2) (e21 y0 y1 y2 y3 y4 y5 y6)) x0 x1 x2 x3 x4 x5 x6 x7 x8 x9 x10) := by
 simp only [c114_18, exec_out, exec_loop, kp114_2, lt114_18, kp114_4]
 rfl
theorem kp114_5 (x0 x1 x2 x3 x4 x5 x6) : keep [1, 5, 6, 8, 17, 18, 19] (e21 x0 x1 x2 x3 x4 x5 x6) = (e21 x0 x1 x2 x3 x4 x5 x6) := by kernel_rfl
def g114_20 (k0 : V0 → V0 → V0 → Int → Int → Option R) (x0 x1 : V0) (x2 x3 : Int) (x4 : V0) (x5 x6 : Int) : Option R :=
let v142 : Int := (IntKind.i64.wrap (x2 + (x0.length : Int)))
if 0 ≤ v142 ∧ v142 < (x1.length : Int) then
if v142.toNat < x1.length then
if 0 ≤ v142 ∧ v142 < (x1.length : Int) then
if v142.toNat < x1.length then
k0 x0 (x1.set v142.toNat (IntKind.i64.wrap ((x1.getD v142.toNat (0 : Int)) + x3))) x4 x5 x6
else none
else none
else none
else none
theorem t114_20 (x0 x1 x2 x3 x4 x5 x6) : exec cl N c114_20 (e21 x0 x1 x2 x3 x4 x5 x6) K = (g114_20 (fun y0 y1 y2 y3 y4 => K .normal (e16 y0 y1 y2 y3 y4)) x0 x1 x2 x3 x4 x5 x6) := by
 kernel_rfl
def g114_23 (k0 : V0 → V0 → V0 → Int → Int → Option R) (x0 x1 x2 : V0) (x3 x4 : Int) : Option R :=
k0 x0 x1 x2 x3 (IntKind.i64.wrap (x4 + (1 : Int)))
theorem t114_23 (x0 x1 x2 x3 x4) : exec cl N c114_23 (e16 x0 x1 x2 x3 x4) K = (g114_23 (fun y0 y1 y2 y3 y4 => K .normal (e16 y0 y1 y2 y3 y4)) x0 x1 x2 x3 x4) := by
 kernel_rfl
def g114_24 (N : Nat) (k0 : V0 → V0 → V0 → Int → Int → Option R) (k1 : V0 → V0 → V0 → Int → Int → Option R) (x0 x1 x2 : V0) (x3 x4 : Int) : Option R :=
(g114_3 (fun y0 y1 y2 y3 y4 y5 => brB y5 ((g114_21 (g114_7 (g114_18 N ((g114_20 ((g114_23 k0))))))) y0 y1 y2 y3 y4) (k1 y0 y1 y2 y3 y4)) x0 x1 x2 x3 x4)
theorem t114_24 (x0 x1 x2 x3 x4) : exec cl N c114_24 (e16 x0 x1 x2 x3 x4) K = (g114_24 N (fun y0 y1 y2 y3 y4 => K .normal (e16 y0 y1 y2 y3 y4)) (fun y0 y1 y2 y3 y4 => K (.exit 0) (e16 y0 y1 y2 y3 y4)) x0 x1 x2 x3 x4) := by
 simp only [c114_24, exec_seq, seqK_normal, seqK_exit, seqK_ret, t114_3, c114_4, exec_out, exec_cond', hb114_0, Option.bind_some, brB_true, brB_false, exec_skip, exec_exit, kp114_1, c114_22, exec_block, t114_21, t114_7, c114_19, t114_18, blockK_normal, blockK_ret, blockK_eq, kp114_5, t114_20, kp114_0, t114_23]
 rfl
def l114_25 {R : Type} (N : Nat) (k0 : V0 → V0 → V0 → Int → Int → Option R) : Nat → V0 → V0 → V0 → Int → Int → Option R
 | 0, _, _, _, _, _ => none
 | m + 1, x0, x1, x2, x3, x4 => (g114_24 N (l114_25 N k0 m) k0 x0 x1 x2 x3 x4)
theorem lt114_25 : ∀ (m) (x0 x1 x2 x3 x4), iter [1, 5, 17, 18, 19] (fun env K => exec cl N c114_24 env K) K m (e16 x0 x1 x2 x3 x4) = l114_25 N (fun y0 y1 y2 y3 y4 => K (.exit 0) (e16 y0 y1 y2 y3 y4)) m x0 x1 x2 x3 x4 := by
 intro m
 induction m with
 | zero => intros; rfl
 | succ m ih =>
   intro x0 x1 x2 x3 x4
   simp only [iter_succ, t114_24, loopK_normal, loopK_exit, loopK_ret, kp114_0, ih]
   rfl
theorem kp114_6 (x0 x1 x2 x3 x4) : keep [5] (e16 x0 x1 x2 x3 x4) = (e22 x1) := by kernel_rfl
def g114_25 (N : Nat) (k0 : V0 → Option R) (x0 x1 x2 : V0) (x3 x4 : Int) : Option R :=
l114_25 N (fun y0 y1 y2 y3 y4 => k0 y1) N x0 x1 x2 x3 x4
theorem t114_25 (x0 x1 x2 x3 x4) : exec cl N c114_25 (e16 x0 x1 x2 x3 x4) K = (g114_25 N (fun y0 => K (.exit 0) (e22 y0)) x0 x1 x2 x3 x4) := by
 simp only [c114_25, exec_out, exec_loop, kp114_0, lt114_25, kp114_6]
 rfl
theorem kp114_7 (x0) : keep [5] (e22 x0) = (e22 x0) := by kernel_rfl
def g114_27 (S118 : V0 → Option V1) (k0 : V0 → Option R) (x0 : V0) : Option R :=
(S118 x0).bind fun r146 =>
k0 r146
theorem t114_27 (S118) (h118 : (ctr118 S118).holds cl) (x0) : exec cl N c114_27 (e22 x0) K = (g114_27 S118 (fun y0 => K .normal [(4, .v U2 y0)]) x0) := by
 rw [← put_eq h118]
 kernel_rfl
def g114_28b (N : Nat) (S118 : V0 → Option V1) (k0 : V0 → Option R) (x0 x1 : V0) : Option R :=
(g114_28 (g114_2 (g114_25 N ((g114_27 S118 k0)))) x0 x1)
theorem t114_28b (S118) (h118 : (ctr118 S118).holds cl) (x0 x1) : exec cl N c114_28 (e14 x0 x1) K = (g114_28b N S118 (fun y0 => K .ret [(4, .v U2 y0)]) x0 x1) := by
 simp only [exec_seq, seqK_normal, seqK_exit, seqK_ret, t114_28, t114_2, c114_26, exec_out, exec_block, t114_25, blockK_normal, blockK_ret, blockK_eq, kp114_7, t114_27 S118 h118, exec_ret]
 rfl
theorem rk114_0 (y0) : retK d114 .ret [(4, .v U2 y0)] = some [.v U2 y0] := by kernel_rfl
def g114 (N : Nat) (S118 : V0 → Option V1) (x0 x1 : V0) (k : V0 → Option R) : Option R :=
(g114_28b N S118 k x0 x1)
theorem gen114 (S118) (h118 : (ctr118 S118).holds cl) (x0 x1) (k : List E → Option R) : exec cl N c114 (e14 x0 x1) (fun e env => (retK d114 e env).bind k) = g114 N S118 x0 x1 (fun r0 => k [.v U2 r0]) := by
 simp only [c114, t114_28b S118 h118, rk114_0, Option.bind_some]
 rfl
def ctr114 (S : V0 → V0 → Option V1) : Ctr := cv2 114 U2 U2 S fun b => [.v U2 b]
def S114 (N : Nat) (x0 : V0) (x1 : V0) : Option V1 := g114 N (S118 N) x0 x1 (fun (r0 : V0) => some (r0))
def g96_0 (k0 : V0 → V0 → Option R) (x0 x1 : V0) : Option R :=
k0 x0 x1
theorem t96_0 (x0 x1) : exec cl N c96_0 (e14 x0 x1) K = (g96_0 (fun y0 y1 => K .normal (e14 y0 y1)) x0 x1) := by
 kernel_rfl
def g96_1 (k0 : V0 → V0 → Bool → Option R) (x0 x1 : V0) : Option R :=
k0 x0 x1 ((x0.length : Int) != (x1.length : Int))
theorem t96_1 (x0 x1) : exec cl N c96_1 (e14 x0 x1) K = (g96_1 (fun y0 y1 y2 => K .normal (e23 y0 y1 y2)) x0 x1) := by
 kernel_rfl
def g96_2 (k0 : Bool → Option R) (x0 x1 : V0) (x2 : Bool) : Option R :=
k0 (decide ((x0.length : Int) < (x1.length : Int)))
theorem t96_2 (x0 x1 x2) : exec cl N c96_2 (e23 x0 x1 x2) K = (g96_2 (fun y0 => K .normal [(15, .v .bool y0)]) x0 x1 x2) := by
 kernel_rfl
def g96_3 (k0 : Int → Option R) (x0 : Bool) : Option R :=
k0 (-1 : Int)
theorem t96_3 (x0) : exec cl N c96_3 [(15, .v .bool x0)] K = (g96_3 (fun y0 => K .normal [(4, .v U1 y0)]) x0) := by
 kernel_rfl
theorem kp96_0 (x0) : keep [4] [(4, .v U1 x0)] = [(4, .v U1 x0)] := by kernel_rfl
theorem kp96_1 (x0) : keep [4] [(15, .v .bool x0)] = [(4, .dead)] := by kernel_rfl
theorem hb96_0 (x0) : boolOf? (ent [(15, .v .bool x0)] (.t 15)) = some x0 := by kernel_rfl
def g96_5 (k0 : Int → Option R) : Option R :=
k0 (1 : Int)
theorem t96_5 : exec cl N c96_5 [(4, .dead)] K = (g96_5 (fun y0 => K .normal [(4, .v U1 y0)])) := by
 kernel_rfl
theorem kp96_2 (x0) : keep [0, 1, 4] [(4, .v U1 x0)] = (e24 x0) := by kernel_rfl
theorem kp96_3 (x0 x1 x2) : keep [0, 1, 4] (e23 x0 x1 x2) = (e25 x0 x1) := by kernel_rfl
theorem hb96_1 (x0 x1 x2) : boolOf? (ent (e23 x0 x1 x2) (.t 10)) = some x2 := by kernel_rfl
def g96_7 (k0 : V0 → V0 → Int → Option R) (x0 x1 : V0) : Option R :=
k0 x0 x1 (IntKind.i64.wrap ((x0.length : Int) - (1 : Int)))
theorem t96_7 (x0 x1) : exec cl N c96_7 (e25 x0 x1) K = (g96_7 (fun y0 y1 y2 => K .normal (e26 y0 y1 y2)) x0 x1) := by
 kernel_rfl
theorem kp96_4 (x0 x1 x2) : keep [0, 1, 5] (e26 x0 x1 x2) = (e26 x0 x1 x2) := by kernel_rfl
def g96_8 (k0 : V0 → V0 → Int → Bool → Option R) (x0 x1 : V0) (x2 : Int) : Option R :=
k0 x0 x1 x2 (decide (x2 ≥ (0 : Int)))
theorem t96_8 (x0 x1 x2) : exec cl N c96_8 (e26 x0 x1 x2) K = (g96_8 (fun y0 y1 y2 y3 => K .normal (e27 y0 y1 y2 y3)) x0 x1 x2) := by
 kernel_rfl
theorem kp96_5 (x0 x1 x2 x3) : keep [0, 1, 5] (e27 x0 x1 x2 x3) = (e26 x0 x1 x2) := by kernel_rfl
theorem hb96_2 (x0 x1 x2 x3) : boolOf? (ent (e27 x0 x1 x2 x3) (.t 20)) = some x3 := by kernel_rfl
def g96_10 (k0 : V0 → V0 → Int → Bool → Option R) (x0 x1 : V0) (x2 : Int) : Option R :=
if 0 ≤ x2 ∧ x2 < (x0.length : Int) then
if 0 ≤ x2 ∧ x2 < (x1.length : Int) then
k0 x0 x1 x2 ((x0.getD x2.toNat (0 : Int)) != (x1.getD x2.toNat (0 : Int)))
else none
else none
theorem t96_10 (x0 x1 x2) : exec cl N c96_10 (e26 x0 x1 x2) K = (g96_10 (fun y0 y1 y2 y3 => K .normal (e28 y0 y1 y2 y3)) x0 x1 x2) := by
 kernel_rfl
def g96_11 (k0 : Bool → Option R) (x0 x1 : V0) (x2 : Int) (x3 : Bool) : Option R :=
if 0 ≤ x2 ∧ x2 < (x0.length : Int) then
if 0 ≤ x2 ∧ x2 < (x1.length : Int) then
k0 (decide ((x0.getD x2.toNat (0 : Int)) < (x1.getD x2.toNat (0 : Int))))
else none
else none
theorem t96_11 (x0 x1 x2 x3) : exec cl N c96_11 (e28 x0 x1 x2 x3) K = (g96_11 (fun y0 => K .normal [(40, .v .bool y0)]) x0 x1 x2 x3) := by
 kernel_rfl
def g96_12 (k0 : Int → Option R) (x0 : Bool) : Option R :=
k0 (-1 : Int)
theorem t96_12 (x0) : exec cl N c96_12 [(40, .v .bool x0)] K = (g96_12 (fun y0 => K .normal [(4, .v U1 y0)]) x0) := by
 kernel_rfl
theorem kp96_6 (x0) : keep [4] [(40, .v .bool x0)] = [(4, .dead)] := by kernel_rfl
theorem hb96_3 (x0) : boolOf? (ent [(40, .v .bool x0)] (.t 40)) = some x0 := by kernel_rfl
def g96_14 (k0 : Int → Option R) : Option R :=
k0 (1 : Int)
theorem t96_14 : exec cl N c96_14 [(4, .dead)] K = (g96_14 (fun y0 => K .normal [(4, .v U1 y0)])) := by
 kernel_rfl
theorem kp96_7 (x0) : keep [0, 1, 4, 5] [(4, .v U1 x0)] = (e29 x0) := by kernel_rfl
theorem kp96_8 (x0 x1 x2 x3) : keep [0, 1, 4, 5] (e28 x0 x1 x2 x3) = (e30 x0 x1 x2) := by kernel_rfl
theorem hb96_4 (x0 x1 x2 x3) : boolOf? (ent (e28 x0 x1 x2 x3) (.t 31)) = some x3 := by kernel_rfl
theorem kp96_9 (x0) : keep [0, 1, 4, 5] (e29 x0) = (e29 x0) := by kernel_rfl
theorem kp96_10 (x0 x1 x2) : keep [0, 1, 4, 5] (e30 x0 x1 x2) = (e30 x0 x1 x2) := by kernel_rfl
def g96_17 (k0 : V0 → V0 → Int → Option R) (x0 x1 : V0) (x2 : Int) : Option R :=
k0 x0 x1 (IntKind.i64.wrap (x2 - (1 : Int)))
theorem t96_17 (x0 x1 x2) : exec cl N c96_17 (e30 x0 x1 x2) K = (g96_17 (fun y0 y1 y2 => K .normal (e26 y0 y1 y2)) x0 x1 x2) := by
 kernel_rfl
def g96_18 (k0 : Int → Option R) (k1 : V0 → V0 → Int → Option R) (k2 : V0 → V0 → Int → Option R) (x0 x1 : V0) (x2 : Int) : Option R :=
(g96_8 (fun y0 y1 y2 y3 => brB y3 ((g96_10 (fun y0 y1 y2 y3 => brB y3 (g96_11 (fun y0 => brB y0 (g96_12 k0 y0) (g96_14 k0)) y0 y1 y2 y3) (((g96_17 k1)) y0 y1 y2))) y0 y1 y2) (k2 y0 y1 y2)) x0 x1 x2)
theorem t96_18 (x0 x1 x2) : exec cl N c96_18 (e26 x0 x1 x2) K = (g96_18 (fun y0 => K .ret (e29 y0)) (fun y0 y1 y2 => K .normal (e26 y0 y1 y2)) (fun y0 y1 y2 => K (.exit 0) (e26 y0 y1 y2)) x0 x1 x2) := by
 simp only [c96_18, exec_seq, seqK_normal, seqK_exit, seqK_ret, t96_8, c96_9, exec_out, exec_cond', hb96_2, Option.bind_some, brB_true, brB_false, exec_skip, exec_exit, kp96_5, c96_16, exec_block, t96_10, c96_15, hb96_4, t96_11, c96_13, hb96_3, t96_12, exec_ret, kp96_0, kp96_6, t96_14, kp96_7, kp96_8, blockK_normal, blockK_ret, blockK_eq, kp96_10, kp96_9, t96_17]
 rfl
def l96_19 {R : Type} (k0 : Int → Option R) (k1 : V0 → V0 → Int → Option R) : Nat → V0 → V0 → Int → Option R
 | 0, _, _, _ => none
 | m + 1, x0, x1, x2 => (g96_18 k0 (l96_19 k0 k1 m) k1 x0 x1 x2)
theorem lt96_19 : ∀ (m) (x0 x1 x2), iter [0, 1, 5] (fun env K => exec cl N c96_18 env K) K m (e26 x0 x1 x2) = l96_19 (fun y0 => K .ret (e29 y0)) (fun y0 y1 y2 => K (.exit 0) (e26 y0 y1 y2)) m x0 x1 x2 := by
 intro m
 induction m with
 | zero => intros; rfl
 | succ m ih =>
   intro x0 x1 x2
   simp only [iter_succ, t96_18, loopK_normal, loopK_exit, loopK_ret, kp96_4, ih]
   rfl
theorem kp96_11 (x0) : keep [4] (e29 x0) = [(4, .v U1 x0)] := by kernel_rfl
theorem kp96_12 (x0 x1 x2) : keep [4] (e26 x0 x1 x2) = [(4, .dead)] := by kernel_rfl
def g96_19 (N : Nat) (k0 : Int → Option R) (k1 : Option R) (x0 x1 : V0) (x2 : Int) : Option R :=
l96_19 k0 (fun y0 y1 y2 => k1) N x0 x1 x2
theorem t96_19 (x0 x1 x2) : exec cl N c96_19 (e26 x0 x1 x2) K = (g96_19 N (fun y0 => K .ret [(4, .v U1 y0)]) (K (.exit 0) [(4, .dead)]) x0 x1 x2) := by
 simp only [c96_19, exec_out, exec_loop, kp96_4, lt96_19, kp96_11, kp96_12]
 rfl
theorem kp96_13 : keep [4] [(4, .dead)] = [(4, .dead)] := by kernel_rfl
def g96_21 (k0 : Int → Option R) : Option R :=
k0 (0 : Int)
theorem t96_21 : exec cl N c96_21 [(4, .dead)] K = (g96_21 (fun y0 => K .normal [(4, .v U1 y0)])) := by
 kernel_rfl
def g96_22 (N : Nat) (k0 : Int → Option R) (k1 : Int → Option R) (x0 x1 : V0) : Option R :=
(g96_0 (g96_1 (fun y0 y1 y2 => brB y2 (g96_2 (fun y0 => brB y0 (g96_3 k0 y0) (g96_5 k0)) y0 y1 y2) ((g96_7 (g96_19 N k1 (g96_21 k1))) y0 y1))) x0 x1)
theorem t96_22 (x0 x1) : exec cl N c96_22 (e14 x0 x1) K = (g96_22 N (fun y0 => K .ret (e24 y0)) (fun y0 => K .ret [(4, .v U1 y0)]) x0 x1) := by
 simp only [c96_22, exec_seq, seqK_normal, seqK_exit, seqK_ret, t96_0, t96_1, c96_6, exec_out, exec_cond', hb96_1, Option.bind_some, brB_true, brB_false, t96_2, c96_4, hb96_0, t96_3, exec_ret, exec_skip, kp96_0, kp96_1, t96_5, kp96_2, kp96_3, t96_7, c96_20, exec_block, t96_19, blockK_normal, blockK_ret, blockK_eq, kp96_13, t96_21]
 rfl
theorem rk96_0 (y0) : retK d96 .ret (e24 y0) = some [.v U1 y0] := by kernel_rfl
theorem rk96_1 (y0) : retK d96 .ret [(4, .v U1 y0)] = some [.v U1 y0] := by kernel_rfl
def g96 (N : Nat) (x0 x1 : V0) (k : Int → Option R) : Option R :=
(g96_22 N k k x0 x1)
theorem gen96 (x0 x1) (k : List E → Option R) : exec cl N c96 (e14 x0 x1) (fun e env => (retK d96 e env).bind k) = g96 N x0 x1 (fun r0 => k [.v U1 r0]) := by
 simp only [c96, t96_22, rk96_0, rk96_1, Option.bind_some]
 rfl
def ctr96 (S : V0 → V0 → Option (Int)) : Ctr := cv2 96 U2 U2 S fun b => [.v U1 b]
def S96 (N : Nat) (x0 : V0) (x1 : V0) : Option (Int) := g96 N x0 x1 (fun (r0 : Int) => some (r0))
def g119_26 (S117 : V0 → Option V1) (k0 : V0 → V0 → Int → Option R) (x0 x1 : V0) : Option R :=
(S117 x0).bind fun r199 =>
k0 x1 r199 (0 : Int)
theorem t119_26 (S117) (h117 : (ctr117 S117).holds cl) (x0 x1) : exec cl N c119_26 (e14 x0 x1) K = (g119_26 S117 (fun y0 y1 y2 => exec cl N (.seq (.seq c119_3 c119_24) (.seq c119_25 .ret)) [(1, .v U2 y0), (5, .own true 3 U1 .no y1), (6, .v U1 y2)] K) x0 x1) := by
 rw [← put_eq h117]
 kernel_rfl
def g119_3 (k0 : V0 → V0 → Int → Int → Int → Option R) (x0 x1 : V0) (x2 : Int) : Option R :=
k0 x0 x1 x2 (x1.length : Int) (0 : Int)
theorem t119_3 (x0 x1 x2) : exec cl N c119_3 [(1, .v U2 x0), (5, .own true 3 U1 .no x1), (6, .v U1 x2)] K = (g119_3 (fun y0 y1 y2 y3 y4 => K .normal (e31 y0 y1 y2 y3 y4)) x0 x1 x2) := by
 kernel_rfl
theorem kp119_0 (x0 x1 x2 x3 x4) : keep [1, 5, 6, 11, 12] (e31 x0 x1 x2 x3 x4) = (e31 x0 x1 x2 x3 x4) := by kernel_rfl
def g119_4 (k0 : V0 → V0 → Int → Int → Int → Bool → Option R) (x0 x1 : V0) (x2 x3 x4 : Int) : Option R :=
k0 x0 x1 x2 x3 x4 (decide (x4 < x3))
theorem t119_4 (x0 x1 x2 x3 x4) : exec cl N c119_4 (e31 x0 x1 x2 x3 x4) K = (g119_4 (fun y0 y1 y2 y3 y4 y5 => K .normal (e32 y0 y1 y2 y3 y4 y5)) x0 x1 x2 x3 x4) := by
 kernel_rfl
theorem kp119_1 (x0 x1 x2 x3 x4 x5) : keep [1, 5, 6, 11, 12] (e32 x0 x1 x2 x3 x4 x5) = (e31 x0 x1 x2 x3 x4) := by kernel_rfl
theorem hb119_0 (x0 x1 x2 x3 x4 x5) : boolOf? (ent (e32 x0 x1 x2 x3 x4 x5) (.t 13)) = some x5 := by kernel_rfl
def g119_19 (k0 : V0 → V0 → Int → Int → Int → Option R) (x0 x1 : V0) (x2 x3 x4 : Int) : Option R :=
if 0 ≤ x4 ∧ x4 < (x1.length : Int) then
if x4.toNat < x1.length then
if 0 ≤ x4 ∧ x4 < (x1.length : Int) then
if x4.toNat < x1.length then
k0 x0 (x1.set x4.toNat (IntKind.i64.wrap ((x1.getD x4.toNat (0 : Int)) - x2))) x4 x3 x4
else none
else none
else none
else none
theorem t119_19 (x0 x1 x2 x3 x4) : exec cl N c119_19 (e31 x0 x1 x2 x3 x4) K = (g119_19 (fun y0 y1 y2 y3 y4 => exec cl N (.seq c119_11 c119_18) (e33 y0 y1 y2 y3 y4) K) x0 x1 x2 x3 x4) := by
 kernel_rfl
def g119_8 (k0 : V0 → V0 → Int → Int → Int → Bool → Option R) (x0 x1 : V0) (x2 x3 x4 : Int) : Option R :=
k0 x0 x1 x2 x3 x4 (decide (x2 < (x0.length : Int)))
theorem t119_8 (x0 x1 x2 x3 x4) : exec cl N c119_8 (e33 x0 x1 x2 x3 x4) K = (g119_8 (fun y0 y1 y2 y3 y4 y5 => K .normal (e34 y0 y1 y2 y3 y4 y5)) x0 x1 x2 x3 x4) := by
 kernel_rfl
def g119_9 (k0 : V0 → V0 → Int → Int → Int → Option R) (x0 x1 : V0) (x2 x3 x4 : Int) (x5 : Bool) : Option R :=
if 0 ≤ x2 ∧ x2 < (x1.length : Int) then
if x2.toNat < x1.length then
if 0 ≤ x2 ∧ x2 < (x0.length : Int) then
if 0 ≤ x2 ∧ x2 < (x1.length : Int) then
if x2.toNat < x1.length then
k0 x0 (x1.set x2.toNat (IntKind.i64.wrap ((x1.getD x2.toNat (0 : Int)) - (x0.getD x2.toNat (0 : Int))))) x2 x3 x4
else none
else none
else none
else none
else none
theorem t119_9 (x0 x1 x2 x3 x4 x5) : exec cl N c119_9 (e34 x0 x1 x2 x3 x4 x5) K = (g119_9 (fun y0 y1 y2 y3 y4 => K .normal (e33 y0 y1 y2 y3 y4)) x0 x1 x2 x3 x4 x5) := by
 kernel_rfl
theorem kp119_2 (x0 x1 x2 x3 x4) : keep [1, 5, 7, 11, 12] (e33 x0 x1 x2 x3 x4) = (e33 x0 x1 x2 x3 x4) := by kernel_rfl
theorem kp119_3 (x0 x1 x2 x3 x4 x5) : keep [1, 5, 7, 11, 12] (e34 x0 x1 x2 x3 x4 x5) = (e33 x0 x1 x2 x3 x4) := by kernel_rfl
theorem hb119_1 (x0 x1 x2 x3 x4 x5) : boolOf? (ent (e34 x0 x1 x2 x3 x4 x5) (.t 25)) = some x5 := by kernel_rfl
def g119_11 (k0 : V0 → V0 → Int → Int → Int → Option R) (x0 x1 : V0) (x2 x3 x4 : Int) : Option R :=
(g119_8 (fun y0 y1 y2 y3 y4 y5 => brB y5 (g119_9 k0 y0 y1 y2 y3 y4 y5) (k0 y0 y1 y2 y3 y4)) x0 x1 x2 x3 x4)
theorem t119_11 (x0 x1 x2 x3 x4) : exec cl N c119_11 (e33 x0 x1 x2 x3 x4) K = (g119_11 (fun y0 y1 y2 y3 y4 => K .normal (e33 y0 y1 y2 y3 y4)) x0 x1 x2 x3 x4) := by
 simp only [c119_11, exec_seq, seqK_normal, seqK_exit, seqK_ret, t119_8, c119_10, exec_out, exec_cond', hb119_1, Option.bind_some, brB_true, brB_false, t119_9, exec_skip, kp119_2, kp119_3]
 rfl
def g119_18 (k0 : V0 → V0 → Int → Int → Int → Int → Bool → Option R) (x0 x1 : V0) (x2 x3 x4 : Int) : Option R :=
if 0 ≤ x2 ∧ x2 < (x1.length : Int) then
if x2.toNat < x1.length then
k0 x0 x1 (0 : Int) x2 x3 x4 (decide ((x1.getD x2.toNat (0 : Int)) < (0 : Int)))
else none
else none
theorem t119_18 (x0 x1 x2 x3 x4) : exec cl N c119_18 (e33 x0 x1 x2 x3 x4) K = (g119_18 (fun y0 y1 y2 y3 y4 y5 y6 => exec cl N c119_17 (e35 y0 y1 y2 y3 y4 y5 y6) K) x0 x1 x2 x3 x4) := by
 kernel_rfl
def g119_16 (k0 : V0 → V0 → Int → Int → Int → Option R) (x0 x1 : V0) (x2 x3 x4 x5 : Int) (x6 : Bool) : Option R :=
if 0 ≤ x3 ∧ x3 < (x1.length : Int) then
if x3.toNat < x1.length then
if 0 ≤ x3 ∧ x3 < (x1.length : Int) then
if x3.toNat < x1.length then
k0 x0 (x1.set x3.toNat (IntKind.i64.wrap ((x1.getD x3.toNat (0 : Int)) + (10000 : Int)))) (1 : Int) x4 x5
else none
else none
else none
else none
theorem t119_16 (x0 x1 x2 x3 x4 x5 x6) : exec cl N c119_16 (e35 x0 x1 x2 x3 x4 x5 x6) K = (g119_16 (fun y0 y1 y2 y3 y4 => K .normal (e31 y0 y1 y2 y3 y4)) x0 x1 x2 x3 x4 x5 x6) := by
 kernel_rfl
theorem kp119_4 (x0 x1 x2 x3 x4 x5 x6) : keep [1, 5, 6, 11, 12] (e35 x0 x1 x2 x3 x4 x5 x6) = (e31 x0 x1 x2 x4 x5) := by kernel_rfl
theorem hb119_2 (x0 x1 x2 x3 x4 x5 x6) : boolOf? (ent (e35 x0 x1 x2 x3 x4 x5 x6) (.t 40)) = some x6 := by kernel_rfl
def g119_20 (k0 : V0 → V0 → Int → Int → Int → Option R) (x0 x1 : V0) (x2 x3 x4 : Int) : Option R :=
(g119_19 (g119_11 (g119_18 (fun y0 y1 y2 y3 y4 y5 y6 => brB y6 (g119_16 k0 y0 y1 y2 y3 y4 y5 y6) (k0 y0 y1 y2 y4 y5)))) x0 x1 x2 x3 x4)
theorem t119_20 (x0 x1 x2 x3 x4) : exec cl N c119_20 (e31 x0 x1 x2 x3 x4) K = (g119_20 (fun y0 y1 y2 y3 y4 => K .normal (e31 y0 y1 y2 y3 y4)) x0 x1 x2 x3 x4) := by
 simp only [c119_20, exec_out, exec_block, exec_seq, seqK_normal, seqK_exit, seqK_ret, t119_19, t119_11, t119_18, c119_17, exec_cond', hb119_2, Option.bind_some, brB_true, brB_false, t119_16, exec_skip, kp119_0, kp119_4, blockK_normal, blockK_ret, blockK_eq]
 rfl
def g119_21 (k0 : V0 → V0 → Int → Int → Int → Option R) (x0 x1 : V0) (x2 x3 x4 : Int) : Option R :=
k0 x0 x1 x2 x3 (IntKind.i64.wrap (x4 + (1 : Int)))
theorem t119_21 (x0 x1 x2 x3 x4) : exec cl N c119_21 (e31 x0 x1 x2 x3 x4) K = (g119_21 (fun y0 y1 y2 y3 y4 => K .normal (e31 y0 y1 y2 y3 y4)) x0 x1 x2 x3 x4) := by
 kernel_rfl
def g119_22 (k0 : V0 → V0 → Int → Int → Int → Option R) (k1 : V0 → V0 → Int → Int → Int → Option R) (x0 x1 : V0) (x2 x3 x4 : Int) : Option R :=
(g119_4 (fun y0 y1 y2 y3 y4 y5 => brB y5 ((g119_20 (g119_21 k0)) y0 y1 y2 y3 y4) (k1 y0 y1 y2 y3 y4)) x0 x1 x2 x3 x4)
theorem t119_22 (x0 x1 x2 x3 x4) : exec cl N c119_22 (e31 x0 x1 x2 x3 x4) K = (g119_22 (fun y0 y1 y2 y3 y4 => K .normal (e31 y0 y1 y2 y3 y4)) (fun y0 y1 y2 y3 y4 => K (.exit 0) (e31 y0 y1 y2 y3 y4)) x0 x1 x2 x3 x4) := by
 simp only [c119_22, exec_seq, seqK_normal, seqK_exit, seqK_ret, t119_4, c119_5, exec_out, exec_cond', hb119_0, Option.bind_some, brB_true, brB_false, exec_skip, exec_exit, kp119_1, t119_20, t119_21]
 rfl
def l119_23 {R : Type} (k0 : V0 → V0 → Int → Int → Int → Option R) : Nat → V0 → V0 → Int → Int → Int → Option R
 | 0, _, _, _, _, _ => none
 | m + 1, x0, x1, x2, x3, x4 => (g119_22 (l119_23 k0 m) k0 x0 x1 x2 x3 x4)
theorem lt119_23 : ∀ (m) (x0 x1 x2 x3 x4), iter [1, 5, 6, 11, 12] (fun env K => exec cl N c119_22 env K) K m (e31 x0 x1 x2 x3 x4) = l119_23 (fun y0 y1 y2 y3 y4 => K (.exit 0) (e31 y0 y1 y2 y3 y4)) m x0 x1 x2 x3 x4 := by
 intro m
 induction m with
 | zero => intros; rfl
 | succ m ih =>
   intro x0 x1 x2 x3 x4
   simp only [iter_succ, t119_22, loopK_normal, loopK_exit, loopK_ret, kp119_0, ih]
   rfl
theorem kp119_5 (x0 x1 x2 x3 x4) : keep [5] (e31 x0 x1 x2 x3 x4) = (e22 x1) := by kernel_rfl
def g119_23 (N : Nat) (k0 : V0 → Option R) (x0 x1 : V0) (x2 x3 x4 : Int) : Option R :=
l119_23 (fun y0 y1 y2 y3 y4 => k0 y1) N x0 x1 x2 x3 x4
theorem t119_23 (x0 x1 x2 x3 x4) : exec cl N c119_23 (e31 x0 x1 x2 x3 x4) K = (g119_23 N (fun y0 => K (.exit 0) (e22 y0)) x0 x1 x2 x3 x4) := by
 simp only [c119_23, exec_out, exec_loop, kp119_0, lt119_23, kp119_5]
 rfl
theorem kp119_6 (x0) : keep [5] (e22 x0) = (e22 x0) := by kernel_rfl
def g119_25 (S118 : V0 → Option V1) (k0 : V0 → Option R) (x0 : V0) : Option R :=
(S118 x0).bind fun r213 =>
k0 r213
theorem t119_25 (S118) (h118 : (ctr118 S118).holds cl) (x0) : exec cl N c119_25 (e22 x0) K = (g119_25 S118 (fun y0 => K .normal [(4, .v U2 y0)]) x0) := by
 rw [← put_eq h118]
 kernel_rfl
def g119_26b (N : Nat) (S117 : V0 → Option V1) (S118 : V0 → Option V1) (k0 : V0 → Option R) (x0 x1 : V0) : Option R :=
(g119_26 S117 (g119_3 (g119_23 N ((g119_25 S118 k0)))) x0 x1)
theorem t119_26b (S117) (S118) (h117 : (ctr117 S117).holds cl) (h118 : (ctr118 S118).holds cl) (x0 x1) : exec cl N c119_26 (e14 x0 x1) K = (g119_26b N S117 S118 (fun y0 => K .ret [(4, .v U2 y0)]) x0 x1) := by
 simp only [exec_seq, seqK_normal, seqK_exit, seqK_ret, t119_26 S117 h117, t119_3, c119_24, exec_out, exec_block, t119_23, blockK_normal, blockK_ret, blockK_eq, kp119_6, t119_25 S118 h118, exec_ret]
 rfl
theorem rk119_0 (y0) : retK d119 .ret [(4, .v U2 y0)] = some [.v U2 y0] := by kernel_rfl
def g119 (N : Nat) (S117 : V0 → Option V1) (S118 : V0 → Option V1) (x0 x1 : V0) (k : V0 → Option R) : Option R :=
(g119_26b N S117 S118 k x0 x1)
theorem gen119 (S117) (S118) (h117 : (ctr117 S117).holds cl) (h118 : (ctr118 S118).holds cl) (x0 x1) (k : List E → Option R) : exec cl N c119 (e14 x0 x1) (fun e env => (retK d119 e env).bind k) = g119 N S117 S118 x0 x1 (fun r0 => k [.v U2 r0]) := by
 simp only [c119, t119_26b S117 S118 h117 h118, rk119_0, Option.bind_some]
 rfl
def ctr119 (S : V0 → V0 → Option V1) : Ctr := cv2 119 U2 U2 S fun b => [.v U2 b]
def S119 (N : Nat) (x0 : V0) (x1 : V0) : Option V1 := g119 N (S117 N) (S118 N) x0 x1 (fun (r0 : V0) => some (r0))
def g115_33 (k0 : V0 → V0 → V0 → V0 → Option R) (x0 x1 : V0) : Option R :=
k0 x0 x1 [] []
theorem t115_33 (x0 x1) : exec cl N c115_33 (e14 x0 x1) K = (g115_33 (fun y0 y1 y2 y3 => exec cl N (.seq (.seq c115_2 c115_29) c115_32) (e36 y0 y1 y2 y3) K) x0 x1) := by
 kernel_rfl
def g115_2 (k0 : V0 → V0 → V0 → V0 → Int → Option R) (x0 x1 x2 x3 : V0) : Option R :=
k0 x0 x1 x2 x3 (IntKind.i64.wrap ((x0.length : Int) - (1 : Int)))
theorem t115_2 (x0 x1 x2 x3) : exec cl N c115_2 (e36 x0 x1 x2 x3) K = (g115_2 (fun y0 y1 y2 y3 y4 => K .normal (e37 y0 y1 y2 y3 y4)) x0 x1 x2 x3) := by
 kernel_rfl
theorem kp115_0 (x0 x1 x2 x3 x4) : keep [0, 1, 6, 7, 8] (e37 x0 x1 x2 x3 x4) = (e37 x0 x1 x2 x3 x4) := by kernel_rfl
def g115_3 (k0 : V0 → V0 → V0 → V0 → Int → Bool → Option R) (x0 x1 x2 x3 : V0) (x4 : Int) : Option R :=
k0 x0 x1 x2 x3 x4 (decide (x4 ≥ (0 : Int)))
theorem t115_3 (x0 x1 x2 x3 x4) : exec cl N c115_3 (e37 x0 x1 x2 x3 x4) K = (g115_3 (fun y0 y1 y2 y3 y4 y5 => K .normal (e38 y0 y1 y2 y3 y4 y5)) x0 x1 x2 x3 x4) := by
 kernel_rfl
theorem kp115_1 (x0 x1 x2 x3 x4 x5) : keep [0, 1, 6, 7, 8] (e38 x0 x1 x2 x3 x4 x5) = (e37 x0 x1 x2 x3 x4) := by kernel_rfl
theorem hb115_0 (x0 x1 x2 x3 x4 x5) : boolOf? (ent (e38 x0 x1 x2 x3 x4 x5) (.t 16)) = some x5 := by kernel_rfl
def g115_24 (S118 : V0 → Option V1) (k0 : V0 → V0 → V0 → V0 → Int → Int → Int → Option R) (x0 x1 x2 x3 : V0) (x4 : Int) : Option R :=
if 0 ≤ x4 ∧ x4 < (x0.length : Int) then
if [(x0.getD x4.toNat (0 : Int))].length + x3.length ≤ 17592186044416 then
(S118 ([(x0.getD x4.toNat (0 : Int))] ++ x3)).bind fun r222 =>
k0 x0 x1 x2 r222 x4 (0 : Int) (9999 : Int)
else none
else none
theorem t115_24 (S118) (h118 : (ctr118 S118).holds cl) (x0 x1 x2 x3 x4) : exec cl N c115_24 (e37 x0 x1 x2 x3 x4) K = (g115_24 S118 (fun y0 y1 y2 y3 y4 y5 y6 => exec cl N (.seq c115_18 (.seq c115_22 c115_23)) (e39 y0 y1 y2 y3 y4 y5 y6) K) x0 x1 x2 x3 x4) := by
 rw [← put_eq h118]
 kernel_rfl
theorem kp115_2 (x0 x1 x2 x3 x4 x5 x6) : keep [0, 1, 6, 7, 8, 9, 10] (e39 x0 x1 x2 x3 x4 x5 x6) = (e39 x0 x1 x2 x3 x4 x5 x6) := by kernel_rfl
def g115_7 (k0 : V0 → V0 → V0 → V0 → Int → Int → Int → Bool → Option R) (x0 x1 x2 x3 : V0) (x4 x5 x6 : Int) : Option R :=
k0 x0 x1 x2 x3 x4 x5 x6 (decide (x5 < x6))
theorem t115_7 (x0 x1 x2 x3 x4 x5 x6) : exec cl N c115_7 (e39 x0 x1 x2 x3 x4 x5 x6) K = (g115_7 (fun y0 y1 y2 y3 y4 y5 y6 y7 => K .normal (e40 y0 y1 y2 y3 y4 y5 y6 y7)) x0 x1 x2 x3 x4 x5 x6) := by
 kernel_rfl
theorem kp115_3 (x0 x1 x2 x3 x4 x5 x6 x7) : keep [0, 1, 6, 7, 8, 9, 10] (e40 x0 x1 x2 x3 x4 x5 x6 x7) = (e39 x0 x1 x2 x3 x4 x5 x6) := by kernel_rfl
theorem hb115_1 (x0 x1 x2 x3 x4 x5 x6 x7) : boolOf? (ent (e40 x0 x1 x2 x3 x4 x5 x6 x7) (.t 29)) = some x7 := by kernel_rfl
def g115_14 (S96 : V0 → V0 → Option (Int)) (S114 : V0 → V0 → Option V1) (k0 : V0 → V0 → V0 → V0 → Int → Int → Int → Int → Bool → Option R) (x0 x1 x2 x3 : V0) (x4 x5 x6 : Int) : Option R :=
let v229 : Int := (IntKind.i64.wrap (Int.tdiv (IntKind.i64.wrap ((IntKind.i64.wrap (x5 + x6)) + (1 : Int))) (2 : Int)))
(S114 x1 [v229]).bind fun r230 =>
(S96 r230 x3).bind fun r231 =>
k0 x0 x1 x2 x3 x4 x5 x6 v229 (decide (r231 ≤ (0 : Int)))
theorem t115_14 (S96) (S114) (h96 : (ctr96 S96).holds cl) (h114 : (ctr114 S114).holds cl) (x0 x1 x2 x3 x4 x5 x6) : exec cl N c115_14 (e39 x0 x1 x2 x3 x4 x5 x6) K = (g115_14 S96 S114 (fun y0 y1 y2 y3 y4 y5 y6 y7 y8 => exec cl N c115_13 (e41 y0 y1 y2 y3 y4 y5 y6 y7 y8) K) x0 x1 x2 x3 x4 x5 x6) := by
 rw [← put_eq h96]
 rw [← put_eq h114]
 kernel_rfl
def g115_11 (k0 : V0 → V0 → V0 → V0 → Int → Int → Int → Option R) (x0 x1 x2 x3 : V0) (x4 x5 x6 x7 : Int) (x8 : Bool) : Option R :=
k0 x0 x1 x2 x3 x4 x7 x6
theorem t115_11 (x0 x1 x2 x3 x4 x5 x6 x7 x8) : exec cl N c115_11 (e41 x0 x1 x2 x3 x4 x5 x6 x7 x8) K = (g115_11 (fun y0 y1 y2 y3 y4 y5 y6 => K .normal (e39 y0 y1 y2 y3 y4 y5 y6)) x0 x1 x2 x3 x4 x5 x6 x7 x8) := by
 kernel_rfl
def g115_12 (k0 : V0 → V0 → V0 → V0 → Int → Int → Int → Option R) (x0 x1 x2 x3 : V0) (x4 x5 x6 x7 : Int) (x8 : Bool) : Option R :=
k0 x0 x1 x2 x3 x4 x5 (IntKind.i64.wrap (x7 - (1 : Int)))
theorem t115_12 (x0 x1 x2 x3 x4 x5 x6 x7 x8) : exec cl N c115_12 (e41 x0 x1 x2 x3 x4 x5 x6 x7 x8) K = (g115_12 (fun y0 y1 y2 y3 y4 y5 y6 => K .normal (e39 y0 y1 y2 y3 y4 y5 y6)) x0 x1 x2 x3 x4 x5 x6 x7 x8) := by
 kernel_rfl
theorem hb115_2 (x0 x1 x2 x3 x4 x5 x6 x7 x8) : boolOf? (ent (e41 x0 x1 x2 x3 x4 x5 x6 x7 x8) (.t 41)) = some x8 := by kernel_rfl
def g115_16 (S96 : V0 → V0 → Option (Int)) (S114 : V0 → V0 → Option V1) (k0 : V0 → V0 → V0 → V0 → Int → Int → Int → Option R) (k1 : V0 → V0 → V0 → V0 → Int → Int → Int → Option R) (x0 x1 x2 x3 : V0) (x4 x5 x6 : Int) : Option R :=
(g115_7 (fun y0 y1 y2 y3 y4 y5 y6 y7 => brB y7 ((g115_14 S96 S114 (fun y0 y1 y2 y3 y4 y5 y6 y7 y8 => brB y8 (g115_11 k0 y0 y1 y2 y3 y4 y5 y6 y7 y8) (g115_12 k0 y0 y1 y2 y3 y4 y5 y6 y7 y8))) y0 y1 y2 y3 y4 y5 y6) (k1 y0 y1 y2 y3 y4 y5 y6)) x0 x1 x2 x3 x4 x5 x6)
theorem t115_16 (S96) (S114) (h96 : (ctr96 S96).holds cl) (h114 : (ctr114 S114).holds cl) (x0 x1 x2 x3 x4 x5 x6) : exec cl N c115_16 (e39 x0 x1 x2 x3 x4 x5 x6) K = (g115_16 S96 S114 (fun y0 y1 y2 y3 y4 y5 y6 => K .normal (e39 y0 y1 y2 y3 y4 y5 y6)) (fun y0 y1 y2 y3 y4 y5 y6 => K (.exit 2) (e39 y0 y1 y2 y3 y4 y5 y6)) x0 x1 x2 x3 x4 x5 x6) := by
 simp only [c115_16, exec_seq, seqK_normal, seqK_exit, seqK_ret, t115_7, c115_8, exec_out, exec_cond', hb115_1, Option.bind_some, brB_true, brB_false, exec_skip, exec_exit, kp115_3, c115_15, exec_block, t115_14 S96 S114 h96 h114, c115_13, hb115_2, t115_11, t115_12, kp115_2, blockK_normal, blockK_ret, blockK_eq]
 rfl
def l115_17 {R : Type} (S96 : V0 → V0 → Option (Int)) (S114 : V0 → V0 → Option V1) (k0 : V0 → V0 → V0 → V0 → Int → Int → Int → Option R) : Nat → V0 → V0 → V0 → V0 → Int → Int → Int → Option R
 | 0, _, _, _, _, _, _, _ => none
 | m + 1, x0, x1, x2, x3, x4, x5, x6 => (g115_16 S96 S114 (l115_17 S96 S114 k0 m) k0 x0 x1 x2 x3 x4 x5 x6)
theorem lt115_17 (S96) (S114) (h96 : (ctr96 S96).holds cl) (h114 : (ctr114 S114).holds cl) : ∀ (m) (x0 x1 x2 x3 x4 x5 x6), iter [0, 1, 6, 7, 8, 9, 10] (fun env K => exec cl N c115_16 env K) K m (e39 x0 x1 x2 x3 x4 x5 x6) = l115_17 S96 S114 (fun y0 y1 y2 y3 y4 y5 y6 => K (.exit 2) (e39 y0 y1 y2 y3 y4 y5 y6)) m x0 x1 x2 x3 x4 x5 x6 := by
 intro m
 induction m with
 | zero => intros; rfl
 | succ m ih =>
   intro x0 x1 x2 x3 x4 x5 x6
   simp only [iter_succ, t115_16 S96 S114 h96 h114, loopK_normal, loopK_exit, loopK_ret, kp115_2, ih]
   rfl
theorem kp115_4 (x0 x1 x2 x3 x4 x5 x6) : keep [0, 1, 6, 7, 8, 9] (e39 x0 x1 x2 x3 x4 x5 x6) = (e42 x0 x1 x2 x3 x4 x5) := by kernel_rfl
def g115_17 (N : Nat) (S96 : V0 → V0 → Option (Int)) (S114 : V0 → V0 → Option V1) (k0 : V0 → V0 → V0 → V0 → Int → Int → Option R) (x0 x1 x2 x3 : V0) (x4 x5 x6 : Int) : Option R :=
l115_17 S96 S114 (fun y0 y1 y2 y3 y4 y5 y6 => k0 y0 y1 y2 y3 y4 y5) N x0 x1 x2 x3 x4 x5 x6
theorem t115_17 (S96) (S114) (h96 : (ctr96 S96).holds cl) (h114 : (ctr114 S114).holds cl) (x0 x1 x2 x3 x4 x5 x6) : exec cl N c115_17 (e39 x0 x1 x2 x3 x4 x5 x6) K = (g115_17 N S96 S114 (fun y0 y1 y2 y3 y4 y5 => K (.exit 2) (e42 y0 y1 y2 y3 y4 y5)) x0 x1 x2 x3 x4 x5 x6) := by
 simp only [c115_17, exec_out, exec_loop, kp115_2, lt115_17 S96 S114 h96 h114, kp115_4]
 rfl
theorem kp115_5 (x0 x1 x2 x3 x4 x5) : keep [0, 1, 6, 7, 8, 9] (e42 x0 x1 x2 x3 x4 x5) = (e42 x0 x1 x2 x3 x4 x5) := by kernel_rfl
def g115_19 (k0 : V0 → V0 → V0 → V0 → Int → Int → Bool → Option R) (x0 x1 x2 x3 : V0) (x4 x5 : Int) : Option R :=
k0 x0 x1 x2 x3 x4 x5 (decide (x5 > (0 : Int)))
theorem t115_19 (x0 x1 x2 x3 x4 x5) : exec cl N c115_19 (e42 x0 x1 x2 x3 x4 x5) K = (g115_19 (fun y0 y1 y2 y3 y4 y5 y6 => K .normal (e43 y0 y1 y2 y3 y4 y5 y6)) x0 x1 x2 x3 x4 x5) := by
 kernel_rfl
def g115_20 (S114 : V0 → V0 → Option V1) (S119 : V0 → V0 → Option V1) (k0 : V0 → V0 → V0 → V0 → Int → Int → Option R) (x0 x1 x2 x3 : V0) (x4 x5 : Int) (x6 : Bool) : Option R :=
(S114 x1 [x5]).bind fun r235 =>
(S119 x3 r235).bind fun r236 =>
k0 x0 x1 x2 r236 x4 x5
theorem t115_20 (S114) (S119) (h114 : (ctr114 S114).holds cl) (h119 : (ctr119 S119).holds cl) (x0 x1 x2 x3 x4 x5 x6) : exec cl N c115_20 (e43 x0 x1 x2 x3 x4 x5 x6) K = (g115_20 S114 S119 (fun y0 y1 y2 y3 y4 y5 => K .normal (e42 y0 y1 y2 y3 y4 y5)) x0 x1 x2 x3 x4 x5 x6) := by
 rw [← put_eq h114]
 rw [← put_eq h119]
 kernel_rfl
theorem kp115_6 (x0 x1 x2 x3 x4 x5 x6) : keep [0, 1, 6, 7, 8, 9] (e43 x0 x1 x2 x3 x4 x5 x6) = (e42 x0 x1 x2 x3 x4 x5) := by kernel_rfl
theorem hb115_3 (x0 x1 x2 x3 x4 x5 x6) : boolOf? (ent (e43 x0 x1 x2 x3 x4 x5 x6) (.t 46)) = some x6 := by kernel_rfl
def g115_22 (S114 : V0 → V0 → Option V1) (S119 : V0 → V0 → Option V1) (k0 : V0 → V0 → V0 → V0 → Int → Int → Option R) (x0 x1 x2 x3 : V0) (x4 x5 : Int) : Option R :=
(g115_19 (fun y0 y1 y2 y3 y4 y5 y6 => brB y6 (g115_20 S114 S119 k0 y0 y1 y2 y3 y4 y5 y6) (k0 y0 y1 y2 y3 y4 y5)) x0 x1 x2 x3 x4 x5)
theorem t115_22 (S114) (S119) (h114 : (ctr114 S114).holds cl) (h119 : (ctr119 S119).holds cl) (x0 x1 x2 x3 x4 x5) : exec cl N c115_22 (e42 x0 x1 x2 x3 x4 x5) K = (g115_22 S114 S119 (fun y0 y1 y2 y3 y4 y5 => K .normal (e42 y0 y1 y2 y3 y4 y5)) x0 x1 x2 x3 x4 x5) := by
 simp only [c115_22, exec_seq, seqK_normal, seqK_exit, seqK_ret, t115_19, c115_21, exec_out, exec_cond', hb115_3, Option.bind_some, brB_true, brB_false, t115_20 S114 S119 h114 h119, exec_skip, kp115_5, kp115_6]
 rfl
def g115_23 (k0 : V0 → V0 → V0 → V0 → Int → Option R) (x0 x1 x2 x3 : V0) (x4 x5 : Int) : Option R :=
if x2.length + [x5].length ≤ 17592186044416 then
k0 x0 x1 (x2 ++ [x5]) x3 x4
else none
theorem t115_23 (x0 x1 x2 x3 x4 x5) : exec cl N c115_23 (e42 x0 x1 x2 x3 x4 x5) K = (g115_23 (fun y0 y1 y2 y3 y4 => K .normal (e37 y0 y1 y2 y3 y4)) x0 x1 x2 x3 x4 x5) := by
 kernel_rfl
def g115_26 (k0 : V0 → V0 → V0 → V0 → Int → Option R) (x0 x1 x2 x3 : V0) (x4 : Int) : Option R :=
k0 x0 x1 x2 x3 (IntKind.i64.wrap (x4 - (1 : Int)))
theorem t115_26 (x0 x1 x2 x3 x4) : exec cl N c115_26 (e37 x0 x1 x2 x3 x4) K = (g115_26 (fun y0 y1 y2 y3 y4 => K .normal (e37 y0 y1 y2 y3 y4)) x0 x1 x2 x3 x4) := by
 kernel_rfl
def g115_27 (N : Nat) (S96 : V0 → V0 → Option (Int)) (S114 : V0 → V0 → Option V1) (S118 : V0 → Option V1) (S119 : V0 → V0 → Option V1) (k0 : V0 → V0 → V0 → V0 → Int → Option R) (k1 : V0 → V0 → V0 → V0 → Int → Option R) (x0 x1 x2 x3 : V0) (x4 : Int) : Option R :=
(g115_3 (fun y0 y1 y2 y3 y4 y5 => brB y5 ((g115_24 S118 (g115_17 N S96 S114 ((g115_22 S114 S119 (g115_23 ((g115_26 k0))))))) y0 y1 y2 y3 y4) (k1 y0 y1 y2 y3 y4)) x0 x1 x2 x3 x4)
theorem t115_27 (S96) (S114) (S118) (S119) (h96 : (ctr96 S96).holds cl) (h114 : (ctr114 S114).holds cl) (h118 : (ctr118 S118).holds cl) (h119 : (ctr119 S119).holds cl) (x0 x1 x2 x3 x4) : exec cl N c115_27 (e37 x0 x1 x2 x3 x4) K = (g115_27 N S96 S114 S118 S119 (fun y0 y1 y2 y3 y4 => K .normal (e37 y0 y1 y2 y3 y4)) (fun y0 y1 y2 y3 y4 => K (.exit 0) (e37 y0 y1 y2 y3 y4)) x0 x1 x2 x3 x4) := by
 simp only [c115_27, exec_seq, seqK_normal, seqK_exit, seqK_ret, t115_3, c115_4, exec_out, exec_cond', hb115_0, Option.bind_some, brB_true, brB_false, exec_skip, exec_exit, kp115_1, c115_25, exec_block, t115_24 S118 h118, c115_18, t115_17 S96 S114 h96 h114, blockK_normal, blockK_ret, blockK_eq, kp115_5, t115_22 S114 S119 h114 h119, t115_23, kp115_0, t115_26]
 rfl
def l115_28 {R : Type} (N : Nat) (S96 : V0 → V0 → Option (Int)) (S114 : V0 → V0 → Option V1) (S118 : V0 → Option V1) (S119 : V0 → V0 → Option V1) (k0 : V0 → V0 → V0 → V0 → Int → Option R) : Nat → V0 → V0 → V0 → V0 → Int → Option R
 | 0, _, _, _, _, _ => none
 | m + 1, x0, x1, x2, x3, x4 => (g115_27 N S96 S114 S118 S119 (l115_28 N S96 S114 S118 S119 k0 m) k0 x0 x1 x2 x3 x4)
theorem lt115_28 (S96) (S114) (S118) (S119) (h96 : (ctr96 S96).holds cl) (h114 : (ctr114 S114).holds cl) (h118 : (ctr118 S118).holds cl) (h119 : (ctr119 S119).holds cl) : ∀ (m) (x0 x1 x2 x3 x4), iter [0, 1, 6, 7, 8] (fun env K => exec cl N c115_27 env K) K m (e37 x0 x1 x2 x3 x4) = l115_28 N S96 S114 S118 S119 (fun y0 y1 y2 y3 y4 => K (.exit 0) (e37 y0 y1 y2 y3 y4)) m x0 x1 x2 x3 x4 := by
 intro m
 induction m with
 | zero => intros; rfl
 | succ m ih =>
   intro x0 x1 x2 x3 x4
   simp only [iter_succ, t115_27 S96 S114 S118 S119 h96 h114 h118 h119, loopK_normal, loopK_exit, loopK_ret, kp115_0, ih]
   rfl
theorem kp115_7 (x0 x1 x2 x3 x4) : keep [6, 7] (e37 x0 x1 x2 x3 x4) = (e44 x2 x3) := by kernel_rfl
def g115_28 (N : Nat) (S96 : V0 → V0 → Option (Int)) (S114 : V0 → V0 → Option V1) (S118 : V0 → Option V1) (S119 : V0 → V0 → Option V1) (k0 : V0 → V0 → Option R) (x0 x1 x2 x3 : V0) (x4 : Int) : Option R :=
l115_28 N S96 S114 S118 S119 (fun y0 y1 y2 y3 y4 => k0 y2 y3) N x0 x1 x2 x3 x4
theorem t115_28 (S96) (S114) (S118) (S119) (h96 : (ctr96 S96).holds cl) (h114 : (ctr114 S114).holds cl) (h118 : (ctr118 S118).holds cl) (h119 : (ctr119 S119).holds cl) (x0 x1 x2 x3 x4) : exec cl N c115_28 (e37 x0 x1 x2 x3 x4) K = (g115_28 N S96 S114 S118 S119 (fun y0 y1 => K (.exit 0) (e44 y0 y1)) x0 x1 x2 x3 x4) := by
 simp only [c115_28, exec_out, exec_loop, kp115_0, lt115_28 S96 S114 S118 S119 h96 h114 h118 h119, kp115_7]
 rfl
theorem kp115_8 (x0 x1) : keep [6, 7] (e44 x0 x1) = (e44 x0 x1) := by kernel_rfl
def g115_32 (S118 : V0 → Option V1) (S120 : V0 → Option V1) (k0 : V0 → V0 → Option R) (x0 x1 : V0) : Option R :=
(S120 x0).bind fun r239 =>
(S118 r239).bind fun r240 =>
k0 r240 x1
theorem t115_32 (S118) (S120) (h118 : (ctr118 S118).holds cl) (h120 : (ctr120 S120).holds cl) (x0 x1) : exec cl N c115_32 (e44 x0 x1) K = (g115_32 S118 S120 (fun y0 y1 => exec cl N .ret (e45 y0 y1) K) x0 x1) := by
 rw [← put_eq h118]
 rw [← put_eq h120]
 kernel_rfl
def g115_33b (N : Nat) (S96 : V0 → V0 → Option (Int)) (S114 : V0 → V0 → Option V1) (S118 : V0 → Option V1) (S119 : V0 → V0 → Option V1) (S120 : V0 → Option V1) (k0 : V0 → V0 → Option R) (x0 x1 : V0) : Option R :=
(g115_33 (g115_2 (g115_28 N S96 S114 S118 S119 ((g115_32 S118 S120 k0)))) x0 x1)
theorem t115_33b (S96) (S114) (S118) (S119) (S120) (h96 : (ctr96 S96).holds cl) (h114 : (ctr114 S114).holds cl) (h118 : (ctr118 S118).holds cl) (h119 : (ctr119 S119).holds cl) (h120 : (ctr120 S120).holds cl) (x0 x1) : exec cl N c115_33 (e14 x0 x1) K = (g115_33b N S96 S114 S118 S119 S120 (fun y0 y1 => K .ret (e45 y0 y1)) x0 x1) := by
 simp only [exec_seq, seqK_normal, seqK_exit, seqK_ret, t115_33, t115_2, c115_29, exec_out, exec_block, t115_28 S96 S114 S118 S119 h96 h114 h118 h119, blockK_normal, blockK_ret, blockK_eq, kp115_8, t115_32 S118 S120 h118 h120, exec_ret]
 rfl
theorem rk115_0 (y0 y1) : retK d115 .ret (e45 y0 y1) = some [.v U2 y0, .v U2 y1] := by kernel_rfl
def g115 (N : Nat) (S96 : V0 → V0 → Option (Int)) (S114 : V0 → V0 → Option V1) (S118 : V0 → Option V1) (S119 : V0 → V0 → Option V1) (S120 : V0 → Option V1) (x0 x1 : V0) (k : V0 → V0 → Option R) : Option R :=
(g115_33b N S96 S114 S118 S119 S120 k x0 x1)
theorem gen115 (S96) (S114) (S118) (S119) (S120) (h96 : (ctr96 S96).holds cl) (h114 : (ctr114 S114).holds cl) (h118 : (ctr118 S118).holds cl) (h119 : (ctr119 S119).holds cl) (h120 : (ctr120 S120).holds cl) (x0 x1) (k : List E → Option R) : exec cl N c115 (e14 x0 x1) (fun e env => (retK d115 e env).bind k) = g115 N S96 S114 S118 S119 S120 x0 x1 (fun r0 r1 => k [.v U2 r0, .v U2 r1]) := by
 simp only [c115, t115_33b S96 S114 S118 S119 S120 h96 h114 h118 h119 h120, rk115_0, Option.bind_some]
 rfl
def ctr115 (S : V0 → V0 → Option V4) : Ctr := cv2 115 U2 U2 S fun b => [.v U2 b.1, .v U2 b.2]
def S115 (N : Nat) (x0 : V0) (x1 : V0) : Option V4 := g115 N (S96 N) (S114 N) (S118 N) (S119 N) (S120 N) x0 x1 (fun (r0 : V0) (r1 : V0) => some (r0, r1))
def g106_0 (k0 : V0 → V2 → Option R) (x0 : V0) : Option R :=
k0 x0 ([], ())
theorem t106_0 (x0) : exec cl N c106_0 [(0, .v U2 x0)] K = (g106_0 (fun y0 y1 => K .normal (e2 y0 y1)) x0) := by
 kernel_rfl
def g106_1 (k0 : V0 → V2 → Bool → Option R) (x0 : V0) (x1 : V2) : Option R :=
k0 x0 x1 (decide ((x0.length : Int) > (200 : Int)))
theorem t106_1 (x0 x1) : exec cl N c106_1 (e2 x0 x1) K = (g106_1 (fun y0 y1 y2 => K .normal (e46 y0 y1 y2)) x0 x1) := by
 kernel_rfl
def g106_2 (k0 : V2 → Int → Option R) (x0 : V0) (x1 : V2) (x2 : Bool) : Option R :=
k0 ([], ()) (3 : Int)
theorem t106_2 (x0 x1 x2) : exec cl N c106_2 (e46 x0 x1 x2) K = (g106_2 (fun y0 y1 => K .normal (e7 y0 y1)) x0 x1 x2) := by
 kernel_rfl
theorem kp106_0 (x0 x1) : keep [0, 2, 3] (e7 x0 x1) = (e8 x0 x1) := by kernel_rfl
theorem kp106_1 (x0 x1 x2) : keep [0, 2, 3] (e46 x0 x1 x2) = (e47 x0 x1) := by kernel_rfl
theorem hb106_0 (x0 x1 x2) : boolOf? (ent (e46 x0 x1 x2) (.t 6)) = some x2 := by kernel_rfl
def g106_4 (S105 : V0 → Option V3) (k0 : V2 → Int → Option R) (x0 : V0) (x1 : V2) : Option R :=
(S105 x0).bind fun r246 =>
k0 r246 (0 : Int)
theorem t106_4 (S105) (h105 : (ctr105 S105).holds cl) (x0 x1) : exec cl N c106_4 (e47 x0 x1) K = (g106_4 S105 (fun y0 y1 => K .normal (e13 y0 y1)) x0 x1) := by
 rw [← put_eq h105]
 kernel_rfl
def g106_5 (S105 : V0 → Option V3) (k0 : V2 → Int → Option R) (k1 : V2 → Int → Option R) (x0 : V0) : Option R :=
(g106_0 (g106_1 (fun y0 y1 y2 => brB y2 (g106_2 k0 y0 y1 y2) ((g106_4 S105 k1) y0 y1))) x0)
theorem t106_5 (S105) (h105 : (ctr105 S105).holds cl) (x0) : exec cl N c106_5 [(0, .v U2 x0)] K = (g106_5 S105 (fun y0 y1 => K .ret (e8 y0 y1)) (fun y0 y1 => K .ret (e13 y0 y1)) x0) := by
 simp only [c106_5, exec_seq, seqK_normal, seqK_exit, seqK_ret, t106_0, t106_1, c106_3, exec_out, exec_cond', hb106_0, Option.bind_some, brB_true, brB_false, t106_2, exec_ret, exec_skip, kp106_0, kp106_1, t106_4 S105 h105]
 rfl
theorem rk106_0 (y0 y1) : retK d106 .ret (e8 y0 y1) = some [.v U5 y0, .v U1 y1] := by kernel_rfl
theorem rk106_1 (y0 y1) : retK d106 .ret (e13 y0 y1) = some [.v U5 y0, .v U1 y1] := by kernel_rfl
def g106 (S105 : V0 → Option V3) (x0 : V0) (k : V2 → Int → Option R) : Option R :=
(g106_5 S105 k k x0)
theorem gen106 (S105) (h105 : (ctr105 S105).holds cl) (x0) (k : List E → Option R) : exec cl N c106 [(0, .v U2 x0)] (fun e env => (retK d106 e env).bind k) = g106 S105 x0 (fun r0 r1 => k [.v U5 r0, .v U1 r1]) := by
 simp only [c106, t106_5 S105 h105, rk106_0, rk106_1, Option.bind_some]
 rfl
def ctr106 (S : V0 → Option V5) : Ctr := cv1 106 U2 S fun b => [.v U5 b.1, .v U1 b.2]
def S106 (N : Nat) (x0 : V0) : Option V5 := g106 (S105 N) x0 (fun (r0 : V2) (r1 : Int) => some (r0, r1))
def g92_0 (k0 : Int → Int → V2 → Option R) (x0 x1 : Int) : Option R :=
k0 x0 x1 ([], ())
theorem t92_0 (x0 x1) : exec cl N c92_0 (e48 x0 x1) K = (g92_0 (fun y0 y1 y2 => K .normal (e49 y0 y1 y2)) x0 x1) := by
 kernel_rfl
def g92_1 (k0 : Int → Int → V2 → Bool → Option R) (x0 x1 : Int) (x2 : V2) : Option R :=
brB (decide (x0 < (0 : Int))) (k0 x0 x1 x2 true) (brB (decide (x0 > (400 : Int))) (k0 x0 x1 x2 true) (brB (decide (x1 < (0 : Int))) (k0 x0 x1 x2 true) (k0 x0 x1 x2 (decide (x1 > x0)))))
theorem t92_1 (x0 x1 x2) : exec cl N c92_1 (e49 x0 x1 x2) K = (g92_1 (fun y0 y1 y2 y3 => K .normal (e50 y0 y1 y2 y3)) x0 x1 x2) := by
 kernel_rfl
def g92_2 (k0 : V2 → Int → Option R) (x0 x1 : Int) (x2 : V2) (x3 : Bool) : Option R :=
k0 ([], ()) (6 : Int)
theorem t92_2 (x0 x1 x2 x3) : exec cl N c92_2 (e50 x0 x1 x2 x3) K = (g92_2 (fun y0 y1 => K .normal (e51 y0 y1)) x0 x1 x2 x3) := by
 kernel_rfl
theorem kp92_0 (x0 x1) : keep [0, 1, 4, 5] (e51 x0 x1) = (e52 x0 x1) := by kernel_rfl
theorem kp92_1 (x0 x1 x2 x3) : keep [0, 1, 4, 5] (e50 x0 x1 x2 x3) = (e53 x0 x1 x2) := by kernel_rfl
theorem hb92_0 (x0 x1 x2 x3) : boolOf? (ent (e50 x0 x1 x2 x3) (.t 22)) = some x3 := by kernel_rfl
def g92_4 (k0 : Int → Int → V2 → V0 → Option R) (x0 x1 : Int) (x2 : V2) : Option R :=
k0 x0 x1 x2 [(1 : Int)]
theorem t92_4 (x0 x1 x2) : exec cl N c92_4 (e53 x0 x1 x2) K = (g92_4 (fun y0 y1 y2 y3 => K .normal (e54 y0 y1 y2 y3)) x0 x1 x2) := by
 kernel_rfl
def g92_5 (k0 : Int → Int → V2 → V0 → Int → Option R) (x0 x1 : Int) (x2 : V2) (x3 : V0) : Option R :=
k0 x0 x1 x2 x3 (1 : Int)
theorem t92_5 (x0 x1 x2 x3) : exec cl N c92_5 (e54 x0 x1 x2 x3) K = (g92_5 (fun y0 y1 y2 y3 y4 => K .normal (e55 y0 y1 y2 y3 y4)) x0 x1 x2 x3) := by
 kernel_rfl
theorem kp92_2 (x0 x1 x2 x3 x4) : keep [0, 1, 4, 6, 7] (e55 x0 x1 x2 x3 x4) = (e55 x0 x1 x2 x3 x4) := by kernel_rfl
def g92_6 (k0 : Int → Int → V2 → V0 → Int → Bool → Option R) (x0 x1 : Int) (x2 : V2) (x3 : V0) (x4 : Int) : Option R :=
let v252 : Int := (IntKind.i64.wrap (x0 - x1))
k0 x0 x1 x2 x3 x4 (decide (x4 ≤ (if v252 < x1 then v252 else x1)))
theorem t92_6 (x0 x1 x2 x3 x4) : exec cl N c92_6 (e55 x0 x1 x2 x3 x4) K = (g92_6 (fun y0 y1 y2 y3 y4 y5 => K .normal (e56 y0 y1 y2 y3 y4 y5)) x0 x1 x2 x3 x4) := by
 kernel_rfl
theorem kp92_3 (x0 x1 x2 x3 x4 x5) : keep [0, 1, 4, 6, 7] (e56 x0 x1 x2 x3 x4 x5) = (e55 x0 x1 x2 x3 x4) := by kernel_rfl
theorem hb92_1 (x0 x1 x2 x3 x4 x5) : boolOf? (ent (e56 x0 x1 x2 x3 x4 x5) (.t 31)) = some x5 := by kernel_rfl
def g92_10 (S114 : V0 → V0 → Option V1) (S115 : V0 → V0 → Option V4) (k0 : Int → Int → V2 → V0 → Int → Option R) (x0 x1 : Int) (x2 : V2) (x3 : V0) (x4 : Int) : Option R :=
(S114 x3 [(IntKind.i64.wrap ((IntKind.i64.wrap (x0 + (1 : Int))) - x4))]).bind fun r260 =>
(S115 r260 [x4]).bind fun r261 =>
k0 x0 x1 x2 r261.1 x4
theorem t92_10 (S114) (S115) (h114 : (ctr114 S114).holds cl) (h115 : (ctr115 S115).holds cl) (x0 x1 x2 x3 x4) : exec cl N c92_10 (e55 x0 x1 x2 x3 x4) K = (g92_10 S114 S115 (fun y0 y1 y2 y3 y4 => K .normal (e55 y0 y1 y2 y3 y4)) x0 x1 x2 x3 x4) := by
 rw [← put_eq h114]
 rw [← put_eq h115]
 kernel_rfl
def g92_12 (k0 : Int → Int → V2 → V0 → Int → Option R) (x0 x1 : Int) (x2 : V2) (x3 : V0) (x4 : Int) : Option R :=
k0 x0 x1 x2 x3 (IntKind.i64.wrap (x4 + (1 : Int)))
theorem t92_12 (x0 x1 x2 x3 x4) : exec cl N c92_12 (e55 x0 x1 x2 x3 x4) K = (g92_12 (fun y0 y1 y2 y3 y4 => K .normal (e55 y0 y1 y2 y3 y4)) x0 x1 x2 x3 x4) := by
 kernel_rfl
def g92_13 (S114 : V0 → V0 → Option V1) (S115 : V0 → V0 → Option V4) (k0 : Int → Int → V2 → V0 → Int → Option R) (k1 : Int → Int → V2 → V0 → Int → Option R) (x0 x1 : Int) (x2 : V2) (x3 : V0) (x4 : Int) : Option R :=
(g92_6 (fun y0 y1 y2 y3 y4 y5 => brB y5 ((g92_10 S114 S115 ((g92_12 k0))) y0 y1 y2 y3 y4) (k1 y0 y1 y2 y3 y4)) x0 x1 x2 x3 x4)
theorem t92_13 (S114) (S115) (h114 : (ctr114 S114).holds cl) (h115 : (ctr115 S115).holds cl) (x0 x1 x2 x3 x4) : exec cl N c92_13 (e55 x0 x1 x2 x3 x4) K = (g92_13 S114 S115 (fun y0 y1 y2 y3 y4 => K .normal (e55 y0 y1 y2 y3 y4)) (fun y0 y1 y2 y3 y4 => K (.exit 0) (e55 y0 y1 y2 y3 y4)) x0 x1 x2 x3 x4) := by
 simp only [c92_13, exec_seq, seqK_normal, seqK_exit, seqK_ret, t92_6, c92_7, exec_out, exec_cond', hb92_1, Option.bind_some, brB_true, brB_false, exec_skip, exec_exit, kp92_3, c92_11, exec_block, t92_10 S114 S115 h114 h115, blockK_normal, blockK_ret, blockK_eq, kp92_2, t92_12]
 rfl
def l92_14 {R : Type} (S114 : V0 → V0 → Option V1) (S115 : V0 → V0 → Option V4) (k0 : Int → Int → V2 → V0 → Int → Option R) : Nat → Int → Int → V2 → V0 → Int → Option R
 | 0, _, _, _, _, _ => none
 | m + 1, x0, x1, x2, x3, x4 => (g92_13 S114 S115 (l92_14 S114 S115 k0 m) k0 x0 x1 x2 x3 x4)
theorem lt92_14 (S114) (S115) (h114 : (ctr114 S114).holds cl) (h115 : (ctr115 S115).holds cl) : ∀ (m) (x0 x1 x2 x3 x4), iter [0, 1, 4, 6, 7] (fun env K => exec cl N c92_13 env K) K m (e55 x0 x1 x2 x3 x4) = l92_14 S114 S115 (fun y0 y1 y2 y3 y4 => K (.exit 0) (e55 y0 y1 y2 y3 y4)) m x0 x1 x2 x3 x4 := by
 intro m
 induction m with
 | zero => intros; rfl
 | succ m ih =>
   intro x0 x1 x2 x3 x4
   simp only [iter_succ, t92_13 S114 S115 h114 h115, loopK_normal, loopK_exit, loopK_ret, kp92_2, ih]
   rfl
theorem kp92_4 (x0 x1 x2 x3 x4) : keep [4, 6] (e55 x0 x1 x2 x3 x4) = (e57 x2 x3) := by kernel_rfl
def g92_14 (N : Nat) (S114 : V0 → V0 → Option V1) (S115 : V0 → V0 → Option V4) (k0 : V2 → V0 → Option R) (x0 x1 : Int) (x2 : V2) (x3 : V0) (x4 : Int) : Option R :=
l92_14 S114 S115 (fun y0 y1 y2 y3 y4 => k0 y2 y3) N x0 x1 x2 x3 x4
theorem t92_14 (S114) (S115) (h114 : (ctr114 S114).holds cl) (h115 : (ctr115 S115).holds cl) (x0 x1 x2 x3 x4) : exec cl N c92_14 (e55 x0 x1 x2 x3 x4) K = (g92_14 N S114 S115 (fun y0 y1 => K (.exit 0) (e57 y0 y1)) x0 x1 x2 x3 x4) := by
 simp only [c92_14, exec_out, exec_loop, kp92_2, lt92_14 S114 S115 h114 h115, kp92_4]
 rfl
theorem kp92_5 (x0 x1) : keep [4, 6] (e57 x0 x1) = (e57 x0 x1) := by kernel_rfl
def g92_16 (S106 : V0 → Option V5) (k0 : V2 → Int → Option R) (x0 : V2) (x1 : V0) : Option R :=
(S106 x1).bind fun r263 =>
k0 r263.1 r263.2
theorem t92_16 (S106) (h106 : (ctr106 S106).holds cl) (x0 x1) : exec cl N c92_16 (e57 x0 x1) K = (g92_16 S106 (fun y0 y1 => K .normal (e58 y0 y1)) x0 x1) := by
 rw [← put_eq h106]
 kernel_rfl
def g92_17 (N : Nat) (S106 : V0 → Option V5) (S114 : V0 → V0 → Option V1) (S115 : V0 → V0 → Option V4) (k0 : V2 → Int → Option R) (k1 : V2 → Int → Option R) (x0 x1 : Int) : Option R :=
(g92_0 (g92_1 (fun y0 y1 y2 y3 => brB y3 (g92_2 k0 y0 y1 y2 y3) ((g92_4 (g92_5 (g92_14 N S114 S115 ((g92_16 S106 k1))))) y0 y1 y2))) x0 x1)
theorem t92_17 (S106) (S114) (S115) (h106 : (ctr106 S106).holds cl) (h114 : (ctr114 S114).holds cl) (h115 : (ctr115 S115).holds cl) (x0 x1) : exec cl N c92_17 (e48 x0 x1) K = (g92_17 N S106 S114 S115 (fun y0 y1 => K .ret (e52 y0 y1)) (fun y0 y1 => K .ret (e58 y0 y1)) x0 x1) := by
 simp only [c92_17, exec_seq, seqK_normal, seqK_exit, seqK_ret, t92_0, t92_1, c92_3, exec_out, exec_cond', hb92_0, Option.bind_some, brB_true, brB_false, t92_2, exec_ret, exec_skip, kp92_0, kp92_1, t92_4, t92_5, c92_15, exec_block, t92_14 S114 S115 h114 h115, blockK_normal, blockK_ret, blockK_eq, kp92_5, t92_16 S106 h106]
 rfl
theorem rk92_0 (y0 y1) : retK d92 .ret (e52 y0 y1) = some [.v U5 y0, .v U1 y1] := by kernel_rfl
theorem rk92_1 (y0 y1) : retK d92 .ret (e58 y0 y1) = some [.v U5 y0, .v U1 y1] := by kernel_rfl
def g92 (N : Nat) (S106 : V0 → Option V5) (S114 : V0 → V0 → Option V1) (S115 : V0 → V0 → Option V4) (x0 x1 : Int) (k : V2 → Int → Option R) : Option R :=
(g92_17 N S106 S114 S115 k k x0 x1)
theorem gen92 (S106) (S114) (S115) (h106 : (ctr106 S106).holds cl) (h114 : (ctr114 S114).holds cl) (h115 : (ctr115 S115).holds cl) (x0 x1) (k : List E → Option R) : exec cl N c92 (e48 x0 x1) (fun e env => (retK d92 e env).bind k) = g92 N S106 S114 S115 x0 x1 (fun r0 r1 => k [.v U5 r0, .v U1 r1]) := by
 simp only [c92, t92_17 S106 S114 S115 h106 h114 h115, rk92_0, rk92_1, Option.bind_some]
 rfl
def ctr92 (S : Int → Int → Option V5) : Ctr := cv2 92 U1 U1 S fun b => [.v U5 b.1, .v U1 b.2]
def S92 (N : Nat) (x0 : Int) (x1 : Int) : Option V5 := g92 N (S106 N) (S114 N) (S115 N) x0 x1 (fun (r0 : V2) (r1 : Int) => some (r0, r1))
def g64_0 (k0 : Int → Int → V2 → Option R) (x0 x1 : Int) : Option R :=
k0 x0 x1 ([], ())
theorem t64_0 (x0 x1) : exec cl N c64_0 (e48 x0 x1) K = (g64_0 (fun y0 y1 y2 => K .normal (e49 y0 y1 y2)) x0 x1) := by
 kernel_rfl
def g64_1 (k0 : Int → Int → V2 → Bool → Option R) (x0 x1 : Int) (x2 : V2) : Option R :=
brB (decide (x1 < (0 : Int))) (k0 x0 x1 x2 true) (k0 x0 x1 x2 (decide (x1 > x0)))
theorem t64_1 (x0 x1 x2) : exec cl N c64_1 (e49 x0 x1 x2) K = (g64_1 (fun y0 y1 y2 y3 => K .normal (e59 y0 y1 y2 y3)) x0 x1 x2) := by
 kernel_rfl
def g64_2 (S49 : Int → Option V3) (k0 : V2 → Option R) (x0 x1 : Int) (x2 : V2) (x3 : Bool) : Option R :=
(S49 (0 : Int)).bind fun r268 =>
k0 r268
theorem t64_2 (S49) (h49 : (ctr49 S49).holds cl) (x0 x1 x2 x3) : exec cl N c64_2 (e59 x0 x1 x2 x3) K = (g64_2 S49 (fun y0 => K .normal [(4, .loc U5 .no y0)]) x0 x1 x2 x3) := by
 rw [← put_eq h49]
 kernel_rfl
theorem kp64_0 (x0) : keep [0, 1, 4] [(4, .loc U5 .no x0)] = (e60 x0) := by kernel_rfl
theorem kp64_1 (x0 x1 x2 x3) : keep [0, 1, 4] (e59 x0 x1 x2 x3) = (e49 x0 x1 x2) := by kernel_rfl
theorem hb64_0 (x0 x1 x2 x3) : boolOf? (ent (e59 x0 x1 x2 x3) (.t 13)) = some x3 := by kernel_rfl
def g64_6 (S92 : Int → Int → Option V5) (k0 : V2 → Option R) (x0 x1 : Int) (x2 : V2) : Option R :=
(S92 x0 x1).bind fun r270 =>
k0 r270.1
theorem t64_6 (S92) (h92 : (ctr92 S92).holds cl) (x0 x1 x2) : exec cl N c64_6 (e49 x0 x1 x2) K = (g64_6 S92 (fun y0 => exec cl N .ret [(4, .loc U5 .no y0)] K) x0 x1 x2) := by
 rw [← put_eq h92]
 kernel_rfl
def g64_7 (S49 : Int → Option V3) (S92 : Int → Int → Option V5) (k0 : V2 → Option R) (k1 : V2 → Option R) (x0 x1 : Int) : Option R :=
(g64_0 (g64_1 (fun y0 y1 y2 y3 => brB y3 (g64_2 S49 k0 y0 y1 y2 y3) ((g64_6 S92 k1) y0 y1 y2))) x0 x1)
theorem t64_7 (S49) (S92) (h49 : (ctr49 S49).holds cl) (h92 : (ctr92 S92).holds cl) (x0 x1) : exec cl N c64_7 (e48 x0 x1) K = (g64_7 S49 S92 (fun y0 => K .ret (e60 y0)) (fun y0 => K .ret [(4, .loc U5 .no y0)]) x0 x1) := by
 simp only [c64_7, exec_seq, seqK_normal, seqK_exit, seqK_ret, t64_0, t64_1, c64_3, exec_out, exec_cond', hb64_0, Option.bind_some, brB_true, brB_false, t64_2 S49 h49, exec_ret, exec_skip, kp64_0, kp64_1, t64_6 S92 h92]
 rfl
theorem rk64_0 (y0) : retK d64 .ret (e60 y0) = some [.v U5 y0] := by kernel_rfl
theorem rk64_1 (y0) : retK d64 .ret [(4, .loc U5 .no y0)] = some [.v U5 y0] := by kernel_rfl
def g64 (S49 : Int → Option V3) (S92 : Int → Int → Option V5) (x0 x1 : Int) (k : V2 → Option R) : Option R :=
(g64_7 S49 S92 k k x0 x1)
theorem gen64 (S49) (S92) (h49 : (ctr49 S49).holds cl) (h92 : (ctr92 S92).holds cl) (x0 x1) (k : List E → Option R) : exec cl N c64 (e48 x0 x1) (fun e env => (retK d64 e env).bind k) = g64 S49 S92 x0 x1 (fun r0 => k [.v U5 r0]) := by
 simp only [c64, t64_7 S49 S92 h49 h92, rk64_0, rk64_1, Option.bind_some]
 rfl
def ctr64 (S : Int → Int → Option V3) : Ctr := cv2 64 U1 U1 S fun b => [.v U5 b]
def S64 (N : Nat) (x0 : Int) (x1 : Int) : Option V3 := g64 (S49 N) (S92 N) x0 x1 (fun (r0 : V2) => some (r0))
def g100_2 (k0 : Bool → Option R) (x0 : Int) : Option R :=
brB (decide (x0 < (0 : Int))) (k0 true) (k0 (decide (x0 ≥ (10000 : Int))))
theorem t100_2 (x0) : exec cl N c100_2 [(0, .v U1 x0)] K = (g100_2 (fun y0 => exec cl N .ret [(2, .v .bool y0)] K) x0) := by
 kernel_rfl
def g100_2b (k0 : Bool → Option R) (x0 : Int) : Option R :=
(g100_2 k0 x0)
theorem t100_2b (x0) : exec cl N c100_2 [(0, .v U1 x0)] K = (g100_2b (fun y0 => K .ret [(2, .v .bool y0)]) x0) := by
 simp only [exec_seq, seqK_normal, seqK_exit, seqK_ret, t100_2, exec_ret]
 rfl
theorem rk100_0 (y0) : retK d100 .ret [(2, .v .bool y0)] = some [.v .bool y0] := by kernel_rfl
def g100 (x0 : Int) (k : Bool → Option R) : Option R :=
(g100_2b k x0)
theorem gen100 (x0) (k : List E → Option R) : exec cl N c100 [(0, .v U1 x0)] (fun e env => (retK d100 e env).bind k) = g100 x0 (fun r0 => k [.v .bool r0]) := by
 simp only [c100, t100_2b, rk100_0, Option.bind_some]
 rfl
def ctr100 (S : Int → Option (Bool)) : Ctr := cv1 100 U1 S fun b => [.v .bool b]
def S100 (N : Nat) (x0 : Int) : Option (Bool) := g100 x0 (fun (r0 : Bool) => some (r0))
def g116_0 (k0 : V0 → V6 → Option R) (x0 : V0) (x1 : V6) : Option R :=
k0 x0 x1
theorem t116_0 (x0 x1) : exec cl N c116_0 (e61 x0 x1) K = (g116_0 (fun y0 y1 => K .normal (e61 y0 y1)) x0 x1) := by
 kernel_rfl
def g116_1 (k0 : V0 → V6 → Int → Int → Option R) (x0 : V0) (x1 : V6) : Option R :=
k0 x0 x1 (x0.length : Int) (0 : Int)
theorem t116_1 (x0 x1) : exec cl N c116_1 (e61 x0 x1) K = (g116_1 (fun y0 y1 y2 y3 => K .normal (e62 y0 y1 y2 y3)) x0 x1) := by
 kernel_rfl
theorem kp116_0 (x0 x1 x2 x3) : keep [0, 1, 7, 8] (e62 x0 x1 x2 x3) = (e62 x0 x1 x2 x3) := by kernel_rfl
def g116_2 (k0 : V0 → V6 → Int → Int → Bool → Option R) (x0 : V0) (x1 : V6) (x2 x3 : Int) : Option R :=
k0 x0 x1 x2 x3 (decide (x3 < x2))
theorem t116_2 (x0 x1 x2 x3) : exec cl N c116_2 (e62 x0 x1 x2 x3) K = (g116_2 (fun y0 y1 y2 y3 y4 => K .normal (e63 y0 y1 y2 y3 y4)) x0 x1 x2 x3) := by
 kernel_rfl
theorem kp116_1 (x0 x1 x2 x3 x4) : keep [0, 1, 7, 8] (e63 x0 x1 x2 x3 x4) = (e62 x0 x1 x2 x3) := by kernel_rfl
theorem hb116_0 (x0 x1 x2 x3 x4) : boolOf? (ent (e63 x0 x1 x2 x3 x4) (.t 9)) = some x4 := by kernel_rfl
def g116_8 (k0 : V0 → V6 → Int → Int → Int → Bool → Option R) (x0 : V0) (x1 : V6) (x2 x3 : Int) : Option R :=
if 0 ≤ x3 ∧ x3 < (x0.length : Int) then
(x1 ((x0.getD x3.toNat (0 : Int)), ())).bind fun r289 =>
k0 x0 x1 x3 x2 x3 r289
else none
theorem t116_8 (x0 x1 x2 x3) : exec cl N c116_8 (e62 x0 x1 x2 x3) K = (g116_8 (fun y0 y1 y2 y3 y4 y5 => exec cl N c116_7 (e64 y0 y1 y2 y3 y4 y5) K) x0 x1 x2 x3) := by
 kernel_rfl
def g116_6 (k0 : Int → Option R) (x0 : V0) (x1 : V6) (x2 x3 x4 : Int) (x5 : Bool) : Option R :=
k0 x2
theorem t116_6 (x0 x1 x2 x3 x4 x5) : exec cl N c116_6 (e64 x0 x1 x2 x3 x4 x5) K = (g116_6 (fun y0 => K .normal [(4, .v U1 y0)]) x0 x1 x2 x3 x4 x5) := by
 kernel_rfl
theorem kp116_2 (x0) : keep [0, 1, 4, 7, 8] [(4, .v U1 x0)] = (e65 x0) := by kernel_rfl
theorem kp116_3 (x0 x1 x2 x3 x4 x5) : keep [0, 1, 4, 7, 8] (e64 x0 x1 x2 x3 x4 x5) = (e66 x0 x1 x3 x4) := by kernel_rfl
theorem hb116_1 (x0 x1 x2 x3 x4 x5) : boolOf? (ent (e64 x0 x1 x2 x3 x4 x5) (.t 16)) = some x5 := by kernel_rfl
theorem kp116_4 (x0) : keep [0, 1, 4, 7, 8] (e65 x0) = (e65 x0) := by kernel_rfl
theorem kp116_5 (x0 x1 x2 x3) : keep [0, 1, 4, 7, 8] (e66 x0 x1 x2 x3) = (e66 x0 x1 x2 x3) := by kernel_rfl
def g116_10 (k0 : V0 → V6 → Int → Int → Option R) (x0 : V0) (x1 : V6) (x2 x3 : Int) : Option R :=
k0 x0 x1 x2 (IntKind.i64.wrap (x3 + (1 : Int)))
theorem t116_10 (x0 x1 x2 x3) : exec cl N c116_10 (e66 x0 x1 x2 x3) K = (g116_10 (fun y0 y1 y2 y3 => K .normal (e62 y0 y1 y2 y3)) x0 x1 x2 x3) := by
 kernel_rfl
def g116_11 (k0 : Int → Option R) (k1 : V0 → V6 → Int → Int → Option R) (k2 : V0 → V6 → Int → Int → Option R) (x0 : V0) (x1 : V6) (x2 x3 : Int) : Option R :=
(g116_2 (fun y0 y1 y2 y3 y4 => brB y4 ((g116_8 (fun y0 y1 y2 y3 y4 y5 => brB y5 (g116_6 k0 y0 y1 y2 y3 y4 y5) (((g116_10 k1)) y0 y1 y3 y4))) y0 y1 y2 y3) (k2 y0 y1 y2 y3)) x0 x1 x2 x3)
theorem t116_11 (x0 x1 x2 x3) : exec cl N c116_11 (e62 x0 x1 x2 x3) K = (g116_11 (fun y0 => K .ret (e65 y0)) (fun y0 y1 y2 y3 => K .normal (e62 y0 y1 y2 y3)) (fun y0 y1 y2 y3 => K (.exit 0) (e62 y0 y1 y2 y3)) x0 x1 x2 x3) := by
 simp only [c116_11, exec_seq, seqK_normal, seqK_exit, seqK_ret, t116_2, c116_3, exec_out, exec_cond', hb116_0, Option.bind_some, brB_true, brB_false, exec_skip, exec_exit, kp116_1, c116_9, exec_block, t116_8, c116_7, hb116_1, t116_6, exec_ret, kp116_2, kp116_3, blockK_normal, blockK_ret, blockK_eq, kp116_4, kp116_5, t116_10]
 rfl
def l116_12 {R : Type} (k0 : Int → Option R) (k1 : V0 → V6 → Int → Int → Option R) : Nat → V0 → V6 → Int → Int → Option R
 | 0, _, _, _, _ => none
 | m + 1, x0, x1, x2, x3 => (g116_11 k0 (l116_12 k0 k1 m) k1 x0 x1 x2 x3)
theorem lt116_12 : ∀ (m) (x0 x1 x2 x3), iter [0, 1, 7, 8] (fun env K => exec cl N c116_11 env K) K m (e62 x0 x1 x2 x3) = l116_12 (fun y0 => K .ret (e65 y0)) (fun y0 y1 y2 y3 => K (.exit 0) (e62 y0 y1 y2 y3)) m x0 x1 x2 x3 := by
 intro m
 induction m with
 | zero => intros; rfl
 | succ m ih =>
   intro x0 x1 x2 x3
   simp only [iter_succ, t116_11, loopK_normal, loopK_exit, loopK_ret, kp116_0, ih]
   rfl
theorem kp116_6 (x0) : keep [4] (e65 x0) = [(4, .v U1 x0)] := by kernel_rfl
theorem kp116_7 (x0 x1 x2 x3) : keep [4] (e62 x0 x1 x2 x3) = [(4, .dead)] := by kernel_rfl
def g116_12 (N : Nat) (k0 : Int → Option R) (k1 : Option R) (x0 : V0) (x1 : V6) (x2 x3 : Int) : Option R :=
l116_12 k0 (fun y0 y1 y2 y3 => k1) N x0 x1 x2 x3
theorem t116_12 (x0 x1 x2 x3) : exec cl N c116_12 (e62 x0 x1 x2 x3) K = (g116_12 N (fun y0 => K .ret [(4, .v U1 y0)]) (K (.exit 0) [(4, .dead)]) x0 x1 x2 x3) := by
 simp only [c116_12, exec_out, exec_loop, kp116_0, lt116_12, kp116_6, kp116_7]
 rfl
theorem kp116_8 (x0) : keep [4] [(4, .v U1 x0)] = [(4, .v U1 x0)] := by kernel_rfl
theorem kp116_9 : keep [4] [(4, .dead)] = [(4, .dead)] := by kernel_rfl
def g116_14 (k0 : Int → Option R) : Option R :=
k0 (-1 : Int)
theorem t116_14 : exec cl N c116_14 [(4, .dead)] K = (g116_14 (fun y0 => K .normal [(4, .v U1 y0)])) := by
 kernel_rfl
def g116_15 (N : Nat) (k0 : Int → Option R) (x0 : V0) (x1 : V6) : Option R :=
(g116_0 (g116_1 (g116_12 N k0 (g116_14 k0))) x0 x1)
theorem t116_15 (x0 x1) : exec cl N c116_15 (e61 x0 x1) K = (g116_15 N (fun y0 => K .ret [(4, .v U1 y0)]) x0 x1) := by
 simp only [c116_15, exec_seq, seqK_normal, seqK_exit, seqK_ret, t116_0, t116_1, c116_13, exec_out, exec_block, t116_12, blockK_normal, blockK_ret, blockK_eq, kp116_8, kp116_9, t116_14, exec_ret]
 rfl
theorem rk116_0 (y0) : retK d116 .ret [(4, .v U1 y0)] = some [.v U1 y0] := by kernel_rfl
def g116 (N : Nat) (x0 : V0) (x1 : V6) (k : Int → Option R) : Option R :=
(g116_15 N k x0 x1)
theorem gen116 (x0 x1) (k : List E → Option R) : exec cl N c116 (e61 x0 x1) (fun e env => (retK d116 e env).bind k) = g116 N x0 x1 (fun r0 => k [.v U1 r0]) := by
 simp only [c116, t116_15, rk116_0, Option.bind_some]
 rfl
def ctr116 (S : V0 → V6 → Option (Int)) : Ctr := cv2 116 U2 U6 S fun b => [.v U1 b]
def S116 (N : Nat) (x0 : V0) (x1 : V6) : Option (Int) := g116 N x0 x1 (fun (r0 : Int) => some (r0))
def g99_2 (S116 : V0 → V6 → Option (Int)) (k0 : Bool → Option R) (x0 : V0) (x1 : V6) : Option R :=
(S116 x0 x1).bind fun r293 =>
k0 (decide (r293 ≥ (0 : Int)))
theorem t99_2 (S116) (h116 : (ctr116 S116).holds cl) (x0 x1) : exec cl N c99_2 (e61 x0 x1) K = (g99_2 S116 (fun y0 => exec cl N .ret [(4, .v .bool y0)] K) x0 x1) := by
 rw [← put_eq h116]
 kernel_rfl
def g99_2b (S116 : V0 → V6 → Option (Int)) (k0 : Bool → Option R) (x0 : V0) (x1 : V6) : Option R :=
(g99_2 S116 k0 x0 x1)
theorem t99_2b (S116) (h116 : (ctr116 S116).holds cl) (x0 x1) : exec cl N c99_2 (e61 x0 x1) K = (g99_2b S116 (fun y0 => K .ret [(4, .v .bool y0)]) x0 x1) := by
 simp only [exec_seq, seqK_normal, seqK_exit, seqK_ret, t99_2 S116 h116, exec_ret]
 rfl
theorem rk99_0 (y0) : retK d99 .ret [(4, .v .bool y0)] = some [.v .bool y0] := by kernel_rfl
def g99 (S116 : V0 → V6 → Option (Int)) (x0 : V0) (x1 : V6) (k : Bool → Option R) : Option R :=
(g99_2b S116 k x0 x1)
theorem gen99 (S116) (h116 : (ctr116 S116).holds cl) (x0 x1) (k : List E → Option R) : exec cl N c99 (e61 x0 x1) (fun e env => (retK d99 e env).bind k) = g99 S116 x0 x1 (fun r0 => k [.v .bool r0]) := by
 simp only [c99, t99_2b S116 h116, rk99_0, Option.bind_some]
 rfl
def ctr99 (S : V0 → V6 → Option (Bool)) : Ctr := cv2 99 U2 U6 S fun b => [.v .bool b]
def S99 (N : Nat) (x0 : V0) (x1 : V6) : Option (Bool) := g99 (S116 N) x0 x1 (fun (r0 : Bool) => some (r0))
def g75_6 (k0 : V0 → Option R) (x0 : V2) : Option R :=
k0 x0.1
theorem t75_6 (x0) : exec cl N c75_6 [(0, .v U5 x0)] K = (g75_6 (fun y0 => exec cl N (.seq (.seq c75_2 c75_4) (.seq c75_5 .ret)) [(3, .v U2 y0)] K) x0) := by
 kernel_rfl
def g75_2 (k0 : V0 → Bool → Option R) (x0 : V0) : Option R :=
brB (decide ((x0.length : Int) > (200 : Int))) (k0 x0 true) (brB (decide ((x0.length : Int) > (0 : Int))) (let v298 : Int := (IntKind.i64.wrap ((x0.length : Int) - (1 : Int)))
if 0 ≤ v298 ∧ v298 < (x0.length : Int) then
k0 x0 ((x0.getD v298.toNat (0 : Int)) == (0 : Int))
else none) (k0 x0 false))
theorem t75_2 (x0) : exec cl N c75_2 [(3, .v U2 x0)] K = (g75_2 (fun y0 y1 => K .normal (e67 y0 y1)) x0) := by
 kernel_rfl
def g75_3 (k0 : Bool → Option R) (x0 : V0) (x1 : Bool) : Option R :=
k0 false
theorem t75_3 (x0 x1) : exec cl N c75_3 (e67 x0 x1) K = (g75_3 (fun y0 => K .normal [(2, .v .bool y0)]) x0 x1) := by
 kernel_rfl
theorem kp75_0 (x0) : keep [2, 3] [(2, .v .bool x0)] = [(2, .v .bool x0), (3, .dead)] := by kernel_rfl
theorem kp75_1 (x0 x1) : keep [2, 3] (e67 x0 x1) = [(2, .dead), (3, .v U2 x0)] := by kernel_rfl
theorem hb75_0 (x0 x1) : boolOf? (ent (e67 x0 x1) (.t 22)) = some x1 := by kernel_rfl
def g75_5 (S99 : V0 → V6 → Option (Bool)) (S100 : Int → Option (Bool)) (k0 : Bool → Option R) (x0 : V0) : Option R :=
(S99 x0 (fun (x300 : (Int × Unit)) => ((S100 x300.1).bind fun b301 => some [.v .bool b301]).bind (unE .bool))).bind fun r302 =>
k0 (!r302)
theorem t75_5 (S99) (S100) (h99 : (ctr99 S99).holds cl) (h100 : (ctr100 S100).holds cl) (x0) : exec cl N c75_5 [(2, .dead), (3, .v U2 x0)] K = (g75_5 S99 S100 (fun y0 => K .normal [(2, .v .bool y0)]) x0) := by
 rw [← put_eq h99]
 rw [← put_eq h100]
 kernel_rfl
def g75_6b (S99 : V0 → V6 → Option (Bool)) (S100 : Int → Option (Bool)) (k0 : Bool → Option R) (k1 : Bool → Option R) (x0 : V2) : Option R :=
(g75_6 (g75_2 (fun y0 y1 => brB y1 (g75_3 k0 y0 y1) ((g75_5 S99 S100 k1) y0))) x0)
theorem t75_6b (S99) (S100) (h99 : (ctr99 S99).holds cl) (h100 : (ctr100 S100).holds cl) (x0) : exec cl N c75_6 [(0, .v U5 x0)] K = (g75_6b S99 S100 (fun y0 => K .ret [(2, .v .bool y0), (3, .dead)]) (fun y0 => K .ret [(2, .v .bool y0)]) x0) := by
 simp only [exec_seq, seqK_normal, seqK_exit, seqK_ret, t75_6, t75_2, c75_4, exec_out, exec_cond', hb75_0, Option.bind_some, brB_true, brB_false, t75_3, exec_ret, exec_skip, kp75_0, kp75_1, t75_5 S99 S100 h99 h100]
 rfl
theorem rk75_0 (y0) : retK d75 .ret [(2, .v .bool y0), (3, .dead)] = some [.v .bool y0] := by kernel_rfl
theorem rk75_1 (y0) : retK d75 .ret [(2, .v .bool y0)] = some [.v .bool y0] := by kernel_rfl
def g75 (S99 : V0 → V6 → Option (Bool)) (S100 : Int → Option (Bool)) (x0 : V2) (k : Bool → Option R) : Option R :=
(g75_6b S99 S100 k k x0)
theorem gen75 (S99) (S100) (h99 : (ctr99 S99).holds cl) (h100 : (ctr100 S100).holds cl) (x0) (k : List E → Option R) : exec cl N c75 [(0, .v U5 x0)] (fun e env => (retK d75 e env).bind k) = g75 S99 S100 x0 (fun r0 => k [.v .bool r0]) := by
 simp only [c75, t75_6b S99 S100 h99 h100, rk75_0, rk75_1, Option.bind_some]
 rfl
def ctr75 (S : V2 → Option (Bool)) : Ctr := cv1 75 U5 S fun b => [.v .bool b]
def S75 (N : Nat) (x0 : V2) : Option (Bool) := g75 (S99 N) (S100 N) x0 (fun (r0 : Bool) => some (r0))
def g103_0 (k0 : V2 → V2 → V2 → Option R) (x0 x1 : V2) : Option R :=
k0 x0 x1 ([], ())
theorem t103_0 (x0 x1) : exec cl N c103_0 (e68 x0 x1) K = (g103_0 (fun y0 y1 y2 => K .normal (e69 y0 y1 y2)) x0 x1) := by
 kernel_rfl
def g103_1 (S75 : V2 → Option (Bool)) (k0 : V2 → V2 → V2 → Bool → Option R) (x0 x1 x2 : V2) : Option R :=
(S75 x0).bind fun r307 =>
brB (!r307) (k0 x0 x1 x2 true) ((S75 x1).bind fun r308 =>
k0 x0 x1 x2 (!r308))
theorem t103_1 (S75) (h75 : (ctr75 S75).holds cl) (x0 x1 x2) : exec cl N c103_1 (e69 x0 x1 x2) K = (g103_1 S75 (fun y0 y1 y2 y3 => K .normal (e70 y0 y1 y2 y3)) x0 x1 x2) := by
 rw [← put_eq h75]
 kernel_rfl
def g103_2 (k0 : V2 → Int → Option R) (x0 x1 x2 : V2) (x3 : Bool) : Option R :=
k0 ([], ()) (1 : Int)
theorem t103_2 (x0 x1 x2 x3) : exec cl N c103_2 (e70 x0 x1 x2 x3) K = (g103_2 (fun y0 y1 => K .normal (e51 y0 y1)) x0 x1 x2 x3) := by
 kernel_rfl
theorem kp103_0 (x0 x1) : keep [2, 3, 4, 5] (e51 x0 x1) = (e71 x0 x1) := by kernel_rfl
theorem kp103_1 (x0 x1 x2 x3) : keep [2, 3, 4, 5] (e70 x0 x1 x2 x3) = (e72 x0 x1 x2) := by kernel_rfl
theorem hb103_0 (x0 x1 x2 x3) : boolOf? (ent (e70 x0 x1 x2 x3) (.t 13)) = some x3 := by kernel_rfl
def g103_4 (S106 : V0 → Option V5) (S114 : V0 → V0 → Option V1) (k0 : V2 → Int → Option R) (x0 x1 x2 : V2) : Option R :=
(S114 x0.1 x1.1).bind fun r309 =>
(S106 r309).bind fun r310 =>
k0 r310.1 r310.2
theorem t103_4 (S106) (S114) (h106 : (ctr106 S106).holds cl) (h114 : (ctr114 S114).holds cl) (x0 x1 x2) : exec cl N c103_4 (e72 x0 x1 x2) K = (g103_4 S106 S114 (fun y0 y1 => K .normal (e58 y0 y1)) x0 x1 x2) := by
 rw [← put_eq h106]
 rw [← put_eq h114]
 kernel_rfl
def g103_5 (S75 : V2 → Option (Bool)) (S106 : V0 → Option V5) (S114 : V0 → V0 → Option V1) (k0 : V2 → Int → Option R) (k1 : V2 → Int → Option R) (x0 x1 : V2) : Option R :=
(g103_0 (g103_1 S75 (fun y0 y1 y2 y3 => brB y3 (g103_2 k0 y0 y1 y2 y3) ((g103_4 S106 S114 k1) y0 y1 y2))) x0 x1)
theorem t103_5 (S75) (S106) (S114) (h75 : (ctr75 S75).holds cl) (h106 : (ctr106 S106).holds cl) (h114 : (ctr114 S114).holds cl) (x0 x1) : exec cl N c103_5 (e68 x0 x1) K = (g103_5 S75 S106 S114 (fun y0 y1 => K .ret (e71 y0 y1)) (fun y0 y1 => K .ret (e58 y0 y1)) x0 x1) := by
 simp only [c103_5, exec_seq, seqK_normal, seqK_exit, seqK_ret, t103_0, t103_1 S75 h75, c103_3, exec_out, exec_cond', hb103_0, Option.bind_some, brB_true, brB_false, t103_2, exec_ret, exec_skip, kp103_0, kp103_1, t103_4 S106 S114 h106 h114]
 rfl
theorem rk103_0 (y0 y1) : retK d103 .ret (e71 y0 y1) = some [.v U5 y0, .v U1 y1] := by kernel_rfl
theorem rk103_1 (y0 y1) : retK d103 .ret (e58 y0 y1) = some [.v U5 y0, .v U1 y1] := by kernel_rfl
def g103 (S75 : V2 → Option (Bool)) (S106 : V0 → Option V5) (S114 : V0 → V0 → Option V1) (x0 x1 : V2) (k : V2 → Int → Option R) : Option R :=
(g103_5 S75 S106 S114 k k x0 x1)
theorem gen103 (S75) (S106) (S114) (h75 : (ctr75 S75).holds cl) (h106 : (ctr106 S106).holds cl) (h114 : (ctr114 S114).holds cl) (x0 x1) (k : List E → Option R) : exec cl N c103 (e68 x0 x1) (fun e env => (retK d103 e env).bind k) = g103 S75 S106 S114 x0 x1 (fun r0 r1 => k [.v U5 r0, .v U1 r1]) := by
 simp only [c103, t103_5 S75 S106 S114 h75 h106 h114, rk103_0, rk103_1, Option.bind_some]
 rfl
def ctr103 (S : V2 → V2 → Option V5) : Ctr := cv2 103 U5 U5 S fun b => [.v U5 b.1, .v U1 b.2]
def S103 (N : Nat) (x0 : V2) (x1 : V2) : Option V5 := g103 (S75 N) (S106 N) (S114 N) x0 x1 (fun (r0 : V2) (r1 : Int) => some (r0, r1))
def g78_3 (S103 : V2 → V2 → Option V5) (k0 : V2 → Option R) (x0 x1 : V2) : Option R :=
(S103 x0 x1).bind fun r314 =>
k0 r314.1
theorem t78_3 (S103) (h103 : (ctr103 S103).holds cl) (x0 x1) : exec cl N c78_3 (e68 x0 x1) K = (g78_3 S103 (fun y0 => exec cl N .ret [(4, .loc U5 .no y0)] K) x0 x1) := by
 rw [← put_eq h103]
 kernel_rfl
def g78_3b (S103 : V2 → V2 → Option V5) (k0 : V2 → Option R) (x0 x1 : V2) : Option R :=
(g78_3 S103 k0 x0 x1)
theorem t78_3b (S103) (h103 : (ctr103 S103).holds cl) (x0 x1) : exec cl N c78_3 (e68 x0 x1) K = (g78_3b S103 (fun y0 => K .ret [(4, .loc U5 .no y0)]) x0 x1) := by
 simp only [exec_seq, seqK_normal, seqK_exit, seqK_ret, t78_3 S103 h103, exec_ret]
 rfl
theorem rk78_0 (y0) : retK d78 .ret [(4, .loc U5 .no y0)] = some [.v U5 y0] := by kernel_rfl
def g78 (S103 : V2 → V2 → Option V5) (x0 x1 : V2) (k : V2 → Option R) : Option R :=
(g78_3b S103 k x0 x1)
theorem gen78 (S103) (h103 : (ctr103 S103).holds cl) (x0 x1) (k : List E → Option R) : exec cl N c78 (e68 x0 x1) (fun e env => (retK d78 e env).bind k) = g78 S103 x0 x1 (fun r0 => k [.v U5 r0]) := by
 simp only [c78, t78_3b S103 h103, rk78_0, Option.bind_some]
 rfl
def ctr78 (S : V2 → V2 → Option V3) : Ctr := cv2 78 U5 U5 S fun b => [.v U5 b]
def S78 (N : Nat) (x0 : V2) (x1 : V2) : Option V3 := g78 (S103 N) x0 x1 (fun (r0 : V2) => some (r0))
def g63_2 (S64 : Int → Int → Option V3) (S78 : V2 → V2 → Option V3) (k0 : V2 → Option R) (x0 x1 x2 x3 : Int) : Option R :=
(S64 x1 x3).bind fun r316 =>
(S64 (IntKind.i64.wrap (x0 - x1)) (IntKind.i64.wrap (x2 - x3))).bind fun r319 =>
(S78 r316 r319).bind fun r320 =>
k0 r320
theorem t63_2 (S64) (S78) (h64 : (ctr64 S64).holds cl) (h78 : (ctr78 S78).holds cl) (x0 x1 x2 x3) : exec cl N c63_2 (e0 x0 x1 x2 x3) K = (g63_2 S64 S78 (fun y0 => exec cl N .ret [(8, .loc U5 .no y0)] K) x0 x1 x2 x3) := by
 rw [← put_eq h64]
 rw [← put_eq h78]
 kernel_rfl
def g63_2b (S64 : Int → Int → Option V3) (S78 : V2 → V2 → Option V3) (k0 : V2 → Option R) (x0 x1 x2 x3 : Int) : Option R :=
(g63_2 S64 S78 k0 x0 x1 x2 x3)
theorem t63_2b (S64) (S78) (h64 : (ctr64 S64).holds cl) (h78 : (ctr78 S78).holds cl) (x0 x1 x2 x3) : exec cl N c63_2 (e0 x0 x1 x2 x3) K = (g63_2b S64 S78 (fun y0 => K .ret [(8, .loc U5 .no y0)]) x0 x1 x2 x3) := by
 simp only [exec_seq, seqK_normal, seqK_exit, seqK_ret, t63_2 S64 S78 h64 h78, exec_ret]
 rfl
theorem rk63_0 (y0) : retK d63 .ret [(8, .loc U5 .no y0)] = some [.v U5 y0] := by kernel_rfl
def g63 (S64 : Int → Int → Option V3) (S78 : V2 → V2 → Option V3) (x0 x1 x2 x3 : Int) (k : V2 → Option R) : Option R :=
(g63_2b S64 S78 k x0 x1 x2 x3)
theorem gen63 (S64) (S78) (h64 : (ctr64 S64).holds cl) (h78 : (ctr78 S78).holds cl) (x0 x1 x2 x3) (k : List E → Option R) : exec cl N c63 (e0 x0 x1 x2 x3) (fun e env => (retK d63 e env).bind k) = g63 S64 S78 x0 x1 x2 x3 (fun r0 => k [.v U5 r0]) := by
 simp only [c63, t63_2b S64 S78 h64 h78, rk63_0, Option.bind_some]
 rfl
def ctr63 (S : Int → Int → Int → Int → Option V3) : Ctr := cv4 63 U1 U1 U1 U1 S fun b => [.v U5 b]
def S63 (N : Nat) (x0 : Int) (x1 : Int) (x2 : Int) (x3 : Int) : Option V3 := g63 (S64 N) (S78 N) x0 x1 x2 x3 (fun (r0 : V2) => some (r0))
def g76_2 (k0 : Bool → Option R) (x0 : V2) : Option R :=
k0 ((x0.1.length : Int) == (0 : Int))
theorem t76_2 (x0) : exec cl N c76_2 [(0, .v U5 x0)] K = (g76_2 (fun y0 => exec cl N .ret [(2, .v .bool y0)] K) x0) := by
 kernel_rfl
def g76_2b (k0 : Bool → Option R) (x0 : V2) : Option R :=
(g76_2 k0 x0)
theorem t76_2b (x0) : exec cl N c76_2 [(0, .v U5 x0)] K = (g76_2b (fun y0 => K .ret [(2, .v .bool y0)]) x0) := by
 simp only [exec_seq, seqK_normal, seqK_exit, seqK_ret, t76_2, exec_ret]
 rfl
theorem rk76_0 (y0) : retK d76 .ret [(2, .v .bool y0)] = some [.v .bool y0] := by kernel_rfl
def g76 (x0 : V2) (k : Bool → Option R) : Option R :=
(g76_2b k x0)
theorem gen76 (x0) (k : List E → Option R) : exec cl N c76 [(0, .v U5 x0)] (fun e env => (retK d76 e env).bind k) = g76 x0 (fun r0 => k [.v .bool r0]) := by
 simp only [c76, t76_2b, rk76_0, Option.bind_some]
 rfl
def ctr76 (S : V2 → Option (Bool)) : Ctr := cv1 76 U5 S fun b => [.v .bool b]
def S76 (N : Nat) (x0 : V2) : Option (Bool) := g76 x0 (fun (r0 : Bool) => some (r0))
def g101_0 (k0 : V2 → V2 → V2 → Option R) (x0 x1 : V2) : Option R :=
k0 x0 x1 ([], ())
theorem t101_0 (x0 x1) : exec cl N c101_0 (e68 x0 x1) K = (g101_0 (fun y0 y1 y2 => K .normal (e69 y0 y1 y2)) x0 x1) := by
 kernel_rfl
def g101_1 (S75 : V2 → Option (Bool)) (k0 : V2 → V2 → V2 → Bool → Option R) (x0 x1 x2 : V2) : Option R :=
(S75 x0).bind fun r338 =>
brB (!r338) (k0 x0 x1 x2 true) ((S75 x1).bind fun r339 =>
k0 x0 x1 x2 (!r339))
theorem t101_1 (S75) (h75 : (ctr75 S75).holds cl) (x0 x1 x2) : exec cl N c101_1 (e69 x0 x1 x2) K = (g101_1 S75 (fun y0 y1 y2 y3 => K .normal (e73 y0 y1 y2 y3)) x0 x1 x2) := by
 rw [← put_eq h75]
 kernel_rfl
def g101_2 (k0 : V2 → Int → Option R) (x0 x1 x2 : V2) (x3 : Bool) : Option R :=
k0 ([], ()) (1 : Int)
theorem t101_2 (x0 x1 x2 x3) : exec cl N c101_2 (e73 x0 x1 x2 x3) K = (g101_2 (fun y0 y1 => K .normal (e51 y0 y1)) x0 x1 x2 x3) := by
 kernel_rfl
theorem kp101_0 (x0 x1) : keep [2, 3, 4, 5] (e51 x0 x1) = (e71 x0 x1) := by kernel_rfl
theorem kp101_1 (x0 x1 x2 x3) : keep [2, 3, 4, 5] (e73 x0 x1 x2 x3) = (e72 x0 x1 x2) := by kernel_rfl
theorem hb101_0 (x0 x1 x2 x3) : boolOf? (ent (e73 x0 x1 x2 x3) (.t 17)) = some x3 := by kernel_rfl
def g101_4 (S117 : V0 → Option V1) (k0 : V2 → V0 → V0 → Option R) (x0 x1 x2 : V2) : Option R :=
(S117 x0.1).bind fun r340 =>
(S117 x1.1).bind fun r341 =>
k0 x2 r340 r341
theorem t101_4 (S117) (h117 : (ctr117 S117).holds cl) (x0 x1 x2) : exec cl N c101_4 (e72 x0 x1 x2) K = (g101_4 S117 (fun y0 y1 y2 => K .normal (e74 y0 y1 y2)) x0 x1 x2) := by
 rw [← put_eq h117]
 kernel_rfl
theorem kp101_2 (x0 x1 x2) : keep [4, 6, 7] (e74 x0 x1 x2) = (e74 x0 x1 x2) := by kernel_rfl
def g101_5 (k0 : V2 → V0 → V0 → Bool → Option R) (x0 : V2) (x1 x2 : V0) : Option R :=
k0 x0 x1 x2 (decide ((x2.length : Int) > (0 : Int)))
theorem t101_5 (x0 x1 x2) : exec cl N c101_5 (e74 x0 x1 x2) K = (g101_5 (fun y0 y1 y2 y3 => K .normal (e75 y0 y1 y2 y3)) x0 x1 x2) := by
 kernel_rfl
theorem kp101_3 (x0 x1 x2 x3) : keep [4, 6, 7] (e75 x0 x1 x2 x3) = (e74 x0 x1 x2) := by kernel_rfl
theorem hb101_1 (x0 x1 x2 x3) : boolOf? (ent (e75 x0 x1 x2 x3) (.t 27)) = some x3 := by kernel_rfl
def g101_9 (S115 : V0 → V0 → Option V4) (k0 : V2 → V0 → V0 → Option R) (x0 : V2) (x1 x2 : V0) : Option R :=
(S115 x1 x2).bind fun r344 =>
k0 x0 x2 r344.2
theorem t101_9 (S115) (h115 : (ctr115 S115).holds cl) (x0 x1 x2) : exec cl N c101_9 (e74 x0 x1 x2) K = (g101_9 S115 (fun y0 y1 y2 => K .normal (e74 y0 y1 y2)) x0 x1 x2) := by
 rw [← put_eq h115]
 kernel_rfl
def g101_11 (S115 : V0 → V0 → Option V4) (k0 : V2 → V0 → V0 → Option R) (k1 : V2 → V0 → V0 → Option R) (x0 : V2) (x1 x2 : V0) : Option R :=
(g101_5 (fun y0 y1 y2 y3 => brB y3 ((g101_9 S115 k0) y0 y1 y2) (k1 y0 y1 y2)) x0 x1 x2)
theorem t101_11 (S115) (h115 : (ctr115 S115).holds cl) (x0 x1 x2) : exec cl N c101_11 (e74 x0 x1 x2) K = (g101_11 S115 (fun y0 y1 y2 => K .normal (e74 y0 y1 y2)) (fun y0 y1 y2 => K (.exit 0) (e74 y0 y1 y2)) x0 x1 x2) := by
 simp only [c101_11, exec_seq, seqK_normal, seqK_exit, seqK_ret, t101_5, c101_6, exec_out, exec_cond', hb101_1, Option.bind_some, brB_true, brB_false, exec_skip, exec_exit, kp101_3, c101_10, exec_block, t101_9 S115 h115, blockK_normal, blockK_ret, blockK_eq, kp101_2]
 rfl
def l101_12 {R : Type} (S115 : V0 → V0 → Option V4) (k0 : V2 → V0 → V0 → Option R) : Nat → V2 → V0 → V0 → Option R
 | 0, _, _, _ => none
 | m + 1, x0, x1, x2 => (g101_11 S115 (l101_12 S115 k0 m) k0 x0 x1 x2)
theorem lt101_12 (S115) (h115 : (ctr115 S115).holds cl) : ∀ (m) (x0 x1 x2), iter [4, 6, 7] (fun env K => exec cl N c101_11 env K) K m (e74 x0 x1 x2) = l101_12 S115 (fun y0 y1 y2 => K (.exit 0) (e74 y0 y1 y2)) m x0 x1 x2 := by
 intro m
 induction m with
 | zero => intros; rfl
 | succ m ih =>
   intro x0 x1 x2
   simp only [iter_succ, t101_11 S115 h115, loopK_normal, loopK_exit, loopK_ret, kp101_2, ih]
   rfl
theorem kp101_4 (x0 x1 x2) : keep [4, 6] (e74 x0 x1 x2) = (e57 x0 x1) := by kernel_rfl
def g101_12 (N : Nat) (S115 : V0 → V0 → Option V4) (k0 : V2 → V0 → Option R) (x0 : V2) (x1 x2 : V0) : Option R :=
l101_12 S115 (fun y0 y1 y2 => k0 y0 y1) N x0 x1 x2
theorem t101_12 (S115) (h115 : (ctr115 S115).holds cl) (x0 x1 x2) : exec cl N c101_12 (e74 x0 x1 x2) K = (g101_12 N S115 (fun y0 y1 => K (.exit 0) (e57 y0 y1)) x0 x1 x2) := by
 simp only [c101_12, exec_out, exec_loop, kp101_2, lt101_12 S115 h115, kp101_4]
 rfl
theorem kp101_5 (x0 x1) : keep [4, 6] (e57 x0 x1) = (e57 x0 x1) := by kernel_rfl
def g101_14 (S105 : V0 → Option V3) (k0 : V2 → Int → Option R) (x0 : V2) (x1 : V0) : Option R :=
(S105 x1).bind fun r345 =>
k0 r345 (0 : Int)
theorem t101_14 (S105) (h105 : (ctr105 S105).holds cl) (x0 x1) : exec cl N c101_14 (e57 x0 x1) K = (g101_14 S105 (fun y0 y1 => K .normal (e58 y0 y1)) x0 x1) := by
 rw [← put_eq h105]
 kernel_rfl
def g101_15 (N : Nat) (S75 : V2 → Option (Bool)) (S105 : V0 → Option V3) (S115 : V0 → V0 → Option V4) (S117 : V0 → Option V1) (k0 : V2 → Int → Option R) (k1 : V2 → Int → Option R) (x0 x1 : V2) : Option R :=
(g101_0 (g101_1 S75 (fun y0 y1 y2 y3 => brB y3 (g101_2 k0 y0 y1 y2 y3) ((g101_4 S117 (g101_12 N S115 ((g101_14 S105 k1)))) y0 y1 y2))) x0 x1)
theorem t101_15 (S75) (S105) (S115) (S117) (h75 : (ctr75 S75).holds cl) (h105 : (ctr105 S105).holds cl) (h115 : (ctr115 S115).holds cl) (h117 : (ctr117 S117).holds cl) (x0 x1) : exec cl N c101_15 (e68 x0 x1) K = (g101_15 N S75 S105 S115 S117 (fun y0 y1 => K .ret (e71 y0 y1)) (fun y0 y1 => K .ret (e58 y0 y1)) x0 x1) := by
 simp only [c101_15, exec_seq, seqK_normal, seqK_exit, seqK_ret, t101_0, t101_1 S75 h75, c101_3, exec_out, exec_cond', hb101_0, Option.bind_some, brB_true, brB_false, t101_2, exec_ret, exec_skip, kp101_0, kp101_1, t101_4 S117 h117, c101_13, exec_block, t101_12 S115 h115, blockK_normal, blockK_ret, blockK_eq, kp101_5, t101_14 S105 h105]
 rfl
theorem rk101_0 (y0 y1) : retK d101 .ret (e71 y0 y1) = some [.v U5 y0, .v U1 y1] := by kernel_rfl
theorem rk101_1 (y0 y1) : retK d101 .ret (e58 y0 y1) = some [.v U5 y0, .v U1 y1] := by kernel_rfl
def g101 (N : Nat) (S75 : V2 → Option (Bool)) (S105 : V0 → Option V3) (S115 : V0 → V0 → Option V4) (S117 : V0 → Option V1) (x0 x1 : V2) (k : V2 → Int → Option R) : Option R :=
(g101_15 N S75 S105 S115 S117 k k x0 x1)
theorem gen101 (S75) (S105) (S115) (S117) (h75 : (ctr75 S75).holds cl) (h105 : (ctr105 S105).holds cl) (h115 : (ctr115 S115).holds cl) (h117 : (ctr117 S117).holds cl) (x0 x1) (k : List E → Option R) : exec cl N c101 (e68 x0 x1) (fun e env => (retK d101 e env).bind k) = g101 N S75 S105 S115 S117 x0 x1 (fun r0 r1 => k [.v U5 r0, .v U1 r1]) := by
 simp only [c101, t101_15 S75 S105 S115 S117 h75 h105 h115 h117, rk101_0, rk101_1, Option.bind_some]
 rfl
def ctr101 (S : V2 → V2 → Option V5) : Ctr := cv2 101 U5 U5 S fun b => [.v U5 b.1, .v U1 b.2]
def S101 (N : Nat) (x0 : V2) (x1 : V2) : Option V5 := g101 N (S75 N) (S105 N) (S115 N) (S117 N) x0 x1 (fun (r0 : V2) (r1 : Int) => some (r0, r1))
def g102_0 (k0 : V2 → V2 → V2 → V2 → Option R) (x0 x1 : V2) : Option R :=
k0 x0 x1 ([], ()) ([], ())
theorem t102_0 (x0 x1) : exec cl N c102_0 (e68 x0 x1) K = (g102_0 (fun y0 y1 y2 y3 => K .normal (e76 y0 y1 y2 y3)) x0 x1) := by
 kernel_rfl
def g102_1 (S75 : V2 → Option (Bool)) (k0 : V2 → V2 → V2 → V2 → Bool → Option R) (x0 x1 x2 x3 : V2) : Option R :=
(S75 x0).bind fun r355 =>
brB (!r355) (k0 x0 x1 x2 x3 true) ((S75 x1).bind fun r356 =>
k0 x0 x1 x2 x3 (!r356))
theorem t102_1 (S75) (h75 : (ctr75 S75).holds cl) (x0 x1 x2 x3) : exec cl N c102_1 (e76 x0 x1 x2 x3) K = (g102_1 S75 (fun y0 y1 y2 y3 y4 => K .normal (e77 y0 y1 y2 y3 y4)) x0 x1 x2 x3) := by
 rw [← put_eq h75]
 kernel_rfl
def g102_2 (k0 : V2 → V2 → Int → Option R) (x0 x1 x2 x3 : V2) (x4 : Bool) : Option R :=
k0 ([], ()) ([], ()) (1 : Int)
theorem t102_2 (x0 x1 x2 x3 x4) : exec cl N c102_2 (e77 x0 x1 x2 x3 x4) K = (g102_2 (fun y0 y1 y2 => K .normal (e78 y0 y1 y2)) x0 x1 x2 x3 x4) := by
 kernel_rfl
theorem kp102_0 (x0 x1 x2) : keep [2, 3, 4, 5, 6] (e78 x0 x1 x2) = (e79 x0 x1 x2) := by kernel_rfl
def g102_3 (k0 : V2 → V2 → V2 → V2 → Bool → Option R) (x0 x1 x2 x3 : V2) (x4 : Bool) : Option R :=
k0 x0 x1 x2 x3 ((x1.1.length : Int) == (0 : Int))
theorem t102_3 (x0 x1 x2 x3 x4) : exec cl N c102_3 (e77 x0 x1 x2 x3 x4) K = (g102_3 (fun y0 y1 y2 y3 y4 => K .normal (e80 y0 y1 y2 y3 y4)) x0 x1 x2 x3 x4) := by
 kernel_rfl
def g102_4 (k0 : V2 → V2 → Int → Option R) (x0 x1 x2 x3 : V2) (x4 : Bool) : Option R :=
k0 ([], ()) ([], ()) (6 : Int)
theorem t102_4 (x0 x1 x2 x3 x4) : exec cl N c102_4 (e80 x0 x1 x2 x3 x4) K = (g102_4 (fun y0 y1 y2 => K .normal (e78 y0 y1 y2)) x0 x1 x2 x3 x4) := by
 kernel_rfl
theorem kp102_1 (x0 x1 x2 x3 x4) : keep [2, 3, 4, 5, 6] (e80 x0 x1 x2 x3 x4) = (e81 x0 x1 x2 x3) := by kernel_rfl
theorem hb102_0 (x0 x1 x2 x3 x4) : boolOf? (ent (e80 x0 x1 x2 x3 x4) (.t 20)) = some x4 := by kernel_rfl
theorem kp102_2 (x0 x1 x2) : keep [2, 3, 4, 5, 6] (e79 x0 x1 x2) = (e79 x0 x1 x2) := by kernel_rfl
theorem kp102_3 (x0 x1 x2 x3) : keep [2, 3, 4, 5, 6] (e81 x0 x1 x2 x3) = (e81 x0 x1 x2 x3) := by kernel_rfl
theorem hb102_1 (x0 x1 x2 x3 x4) : boolOf? (ent (e77 x0 x1 x2 x3 x4) (.t 9)) = some x4 := by kernel_rfl
def g102_10 (S105 : V0 → Option V3) (S115 : V0 → V0 → Option V4) (k0 : V2 → V2 → Int → Option R) (x0 x1 x2 x3 : V2) : Option R :=
(S115 x0.1 x1.1).bind fun r359 =>
(S105 r359.1).bind fun r360 =>
(S105 r359.2).bind fun r361 =>
k0 r360 r361 (0 : Int)
theorem t102_10 (S105) (S115) (h105 : (ctr105 S105).holds cl) (h115 : (ctr115 S115).holds cl) (x0 x1 x2 x3) : exec cl N c102_10 (e81 x0 x1 x2 x3) K = (g102_10 S105 S115 (fun y0 y1 y2 => exec cl N .ret (e82 y0 y1 y2) K) x0 x1 x2 x3) := by
 rw [← put_eq h105]
 rw [← put_eq h115]
 kernel_rfl
def g102_11 (S75 : V2 → Option (Bool)) (S105 : V0 → Option V3) (S115 : V0 → V0 → Option V4) (k0 : V2 → V2 → Int → Option R) (k1 : V2 → V2 → Int → Option R) (x0 x1 : V2) : Option R :=
(g102_0 (g102_1 S75 (fun y0 y1 y2 y3 y4 => brB y4 (g102_2 k0 y0 y1 y2 y3 y4) (g102_3 (fun y0 y1 y2 y3 y4 => brB y4 (g102_4 k0 y0 y1 y2 y3 y4) ((((g102_10 S105 S115 k1))) y0 y1 y2 y3)) y0 y1 y2 y3 y4))) x0 x1)
theorem t102_11 (S75) (S105) (S115) (h75 : (ctr75 S75).holds cl) (h105 : (ctr105 S105).holds cl) (h115 : (ctr115 S115).holds cl) (x0 x1) : exec cl N c102_11 (e68 x0 x1) K = (g102_11 S75 S105 S115 (fun y0 y1 y2 => K .ret (e79 y0 y1 y2)) (fun y0 y1 y2 => K .ret (e82 y0 y1 y2)) x0 x1) := by
 simp only [c102_11, exec_seq, seqK_normal, seqK_exit, seqK_ret, t102_0, c102_7, exec_out, exec_block, t102_1 S75 h75, c102_6, exec_cond', hb102_1, Option.bind_some, brB_true, brB_false, t102_2, exec_ret, t102_3, c102_5, hb102_0, t102_4, exec_skip, kp102_0, kp102_1, kp102_2, kp102_3, blockK_normal, blockK_ret, blockK_eq, t102_10 S105 S115 h105 h115]
 rfl
theorem rk102_0 (y0 y1 y2) : retK d102 .ret (e79 y0 y1 y2) = some [.v U5 y0, .v U5 y1, .v U1 y2] := by kernel_rfl
theorem rk102_1 (y0 y1 y2) : retK d102 .ret (e82 y0 y1 y2) = some [.v U5 y0, .v U5 y1, .v U1 y2] := by kernel_rfl
def g102 (S75 : V2 → Option (Bool)) (S105 : V0 → Option V3) (S115 : V0 → V0 → Option V4) (x0 x1 : V2) (k : V2 → V2 → Int → Option R) : Option R :=
(g102_11 S75 S105 S115 k k x0 x1)
theorem gen102 (S75) (S105) (S115) (h75 : (ctr75 S75).holds cl) (h105 : (ctr105 S105).holds cl) (h115 : (ctr115 S115).holds cl) (x0 x1) (k : List E → Option R) : exec cl N c102 (e68 x0 x1) (fun e env => (retK d102 e env).bind k) = g102 S75 S105 S115 x0 x1 (fun r0 r1 r2 => k [.v U5 r0, .v U5 r1, .v U1 r2]) := by
 simp only [c102, t102_11 S75 S105 S115 h75 h105 h115, rk102_0, rk102_1, Option.bind_some]
 rfl
def ctr102 (S : V2 → V2 → Option V8) : Ctr := cv2 102 U5 U5 S fun b => [.v U5 b.1, .v U5 b.2.1, .v U1 b.2.2]
def S102 (N : Nat) (x0 : V2) (x1 : V2) : Option V8 := g102 (S75 N) (S105 N) (S115 N) x0 x1 (fun (r0 : V2) (r1 : V2) (r2 : Int) => some (r0, r1, r2))
def g77_5 (S76 : V2 → Option (Bool)) (S101 : V2 → V2 → Option V5) (S102 : V2 → V2 → Option V8) (k0 : V10 → Option R) (x0 : Bool) (x1 x2 : V2) : Option R :=
(S101 x1 x2).bind fun r378 =>
(S102 x1 r378.1).bind fun r379 =>
(S102 x2 r378.1).bind fun r380 =>
brB x0 ((S76 r379.1).bind fun r381 =>
k0 ((!r381), r379.1, r380.1, ())) (k0 (false, r379.1, r380.1, ()))
theorem t77_5 (S76) (S101) (S102) (h76 : (ctr76 S76).holds cl) (h101 : (ctr101 S101).holds cl) (h102 : (ctr102 S102).holds cl) (x0 x1 x2) : exec cl N c77_5 (e83 x0 x1 x2) K = (g77_5 S76 S101 S102 (fun y0 => exec cl N .ret [(6, .loc U9 .no y0)] K) x0 x1 x2) := by
 rw [← put_eq h76]
 rw [← put_eq h101]
 rw [← put_eq h102]
 kernel_rfl
def g77_5b (S76 : V2 → Option (Bool)) (S101 : V2 → V2 → Option V5) (S102 : V2 → V2 → Option V8) (k0 : V10 → Option R) (x0 : Bool) (x1 x2 : V2) : Option R :=
(g77_5 S76 S101 S102 k0 x0 x1 x2)
theorem t77_5b (S76) (S101) (S102) (h76 : (ctr76 S76).holds cl) (h101 : (ctr101 S101).holds cl) (h102 : (ctr102 S102).holds cl) (x0 x1 x2) : exec cl N c77_5 (e83 x0 x1 x2) K = (g77_5b S76 S101 S102 (fun y0 => K .ret [(6, .loc U9 .no y0)]) x0 x1 x2) := by
 simp only [exec_seq, seqK_normal, seqK_exit, seqK_ret, t77_5 S76 S101 S102 h76 h101 h102, exec_ret]
 rfl
theorem rk77_0 (y0) : retK d77 .ret [(6, .loc U9 .no y0)] = some [.v U9 y0] := by kernel_rfl
def g77 (S76 : V2 → Option (Bool)) (S101 : V2 → V2 → Option V5) (S102 : V2 → V2 → Option V8) (x0 : Bool) (x1 x2 : V2) (k : V10 → Option R) : Option R :=
(g77_5b S76 S101 S102 k x0 x1 x2)
theorem gen77 (S76) (S101) (S102) (h76 : (ctr76 S76).holds cl) (h101 : (ctr101 S101).holds cl) (h102 : (ctr102 S102).holds cl) (x0 x1 x2) (k : List E → Option R) : exec cl N c77 (e83 x0 x1 x2) (fun e env => (retK d77 e env).bind k) = g77 S76 S101 S102 x0 x1 x2 (fun r0 => k [.v U9 r0]) := by
 simp only [c77, t77_5b S76 S101 S102 h76 h101 h102, rk77_0, Option.bind_some]
 rfl
def ctr77 (S : Bool → V2 → V2 → Option V11) : Ctr := cv3 77 .bool U5 U5 S fun b => [.v U9 b]
def S77 (N : Nat) (x0 : Bool) (x1 : V2) (x2 : V2) : Option V11 := g77 (S76 N) (S101 N) (S102 N) x0 x1 x2 (fun (r0 : V10) => some (r0))
def g44_0 (k0 : V2 → V2 → V10 → Option R) (x0 x1 : V2) : Option R :=
k0 x0 x1 (false, (([], ()), (([], ()), ())))
theorem t44_0 (x0 x1) : exec cl N c44_0 (e68 x0 x1) K = (g44_0 (fun y0 y1 y2 => K .normal (e84 y0 y1 y2)) x0 x1) := by
 kernel_rfl
def g44_1 (S75 : V2 → Option (Bool)) (k0 : V2 → V2 → V10 → Bool → Option R) (x0 x1 : V2) (x2 : V10) : Option R :=
(S75 x0).bind fun r385 =>
brB (!r385) (k0 x0 x1 x2 true) ((S75 x1).bind fun r386 =>
k0 x0 x1 x2 (!r386))
theorem t44_1 (S75) (h75 : (ctr75 S75).holds cl) (x0 x1 x2) : exec cl N c44_1 (e84 x0 x1 x2) K = (g44_1 S75 (fun y0 y1 y2 y3 => K .normal (e85 y0 y1 y2 y3)) x0 x1 x2) := by
 rw [← put_eq h75]
 kernel_rfl
def g44_2 (k0 : V10 → Int → Option R) (x0 x1 : V2) (x2 : V10) (x3 : Bool) : Option R :=
k0 (false, ([], ()), ([], ()), ()) (1 : Int)
theorem t44_2 (x0 x1 x2 x3) : exec cl N c44_2 (e85 x0 x1 x2 x3) K = (g44_2 (fun y0 y1 => K .normal (e86 y0 y1)) x0 x1 x2 x3) := by
 kernel_rfl
theorem kp44_0 (x0 x1) : keep [2, 3, 4, 5] (e86 x0 x1) = (e87 x0 x1) := by kernel_rfl
theorem kp44_1 (x0 x1 x2 x3) : keep [2, 3, 4, 5] (e85 x0 x1 x2 x3) = (e88 x0 x1 x2) := by kernel_rfl
theorem hb44_0 (x0 x1 x2 x3) : boolOf? (ent (e85 x0 x1 x2 x3) (.t 13)) = some x3 := by kernel_rfl
def g44_4 (S76 : V2 → Option (Bool)) (k0 : V2 → V2 → V10 → Bool → Option R) (x0 x1 : V2) (x2 : V10) : Option R :=
(S76 x1).bind fun r388 =>
k0 x0 x1 x2 r388
theorem t44_4 (S76) (h76 : (ctr76 S76).holds cl) (x0 x1 x2) : exec cl N c44_4 (e88 x0 x1 x2) K = (g44_4 S76 (fun y0 y1 y2 y3 => K .normal (e89 y0 y1 y2 y3)) x0 x1 x2) := by
 rw [← put_eq h76]
 kernel_rfl
def g44_5 (k0 : V10 → Int → Option R) (x0 x1 : V2) (x2 : V10) (x3 : Bool) : Option R :=
k0 (false, ([], ()), ([], ()), ()) (6 : Int)
theorem t44_5 (x0 x1 x2 x3) : exec cl N c44_5 (e89 x0 x1 x2 x3) K = (g44_5 (fun y0 y1 => K .normal (e86 y0 y1)) x0 x1 x2 x3) := by
 kernel_rfl
theorem kp44_2 (x0 x1 x2 x3) : keep [2, 3, 4, 5] (e89 x0 x1 x2 x3) = (e88 x0 x1 x2) := by kernel_rfl
theorem hb44_1 (x0 x1 x2 x3) : boolOf? (ent (e89 x0 x1 x2 x3) (.t 16)) = some x3 := by kernel_rfl
def g44_7 (S77 : Bool → V2 → V2 → Option V11) (k0 : V10 → Int → Option R) (x0 x1 : V2) (x2 : V10) : Option R :=
(S77 false x0 x1).bind fun r390 =>
k0 r390 (0 : Int)
theorem t44_7 (S77) (h77 : (ctr77 S77).holds cl) (x0 x1 x2) : exec cl N c44_7 (e88 x0 x1 x2) K = (g44_7 S77 (fun y0 y1 => K .normal (e86 y0 y1)) x0 x1 x2) := by
 rw [← put_eq h77]
 kernel_rfl
def g44_8 (S75 : V2 → Option (Bool)) (S76 : V2 → Option (Bool)) (S77 : Bool → V2 → V2 → Option V11) (k0 : V10 → Int → Option R) (k1 : V10 → Int → Option R) (x0 x1 : V2) : Option R :=
(g44_0 (g44_1 S75 (fun y0 y1 y2 y3 => brB y3 (g44_2 k0 y0 y1 y2 y3) ((g44_4 S76 (fun y0 y1 y2 y3 => brB y3 (g44_5 k0 y0 y1 y2 y3) ((g44_7 S77 k1) y0 y1 y2))) y0 y1 y2))) x0 x1)
theorem t44_8 (S75) (S76) (S77) (h75 : (ctr75 S75).holds cl) (h76 : (ctr76 S76).holds cl) (h77 : (ctr77 S77).holds cl) (x0 x1) : exec cl N c44_8 (e68 x0 x1) K = (g44_8 S75 S76 S77 (fun y0 y1 => K .ret (e87 y0 y1)) (fun y0 y1 => K .ret (e86 y0 y1)) x0 x1) := by
 simp only [c44_8, exec_seq, seqK_normal, seqK_exit, seqK_ret, t44_0, t44_1 S75 h75, c44_3, exec_out, exec_cond', hb44_0, Option.bind_some, brB_true, brB_false, t44_2, exec_ret, exec_skip, kp44_0, kp44_1, t44_4 S76 h76, c44_6, hb44_1, t44_5, kp44_2, t44_7 S77 h77]
 rfl
theorem rk44_0 (y0 y1) : retK d44 .ret (e87 y0 y1) = some [.v U9 y0, .v U1 y1] := by kernel_rfl
theorem rk44_1 (y0 y1) : retK d44 .ret (e86 y0 y1) = some [.v U9 y0, .v U1 y1] := by kernel_rfl
def g44 (S75 : V2 → Option (Bool)) (S76 : V2 → Option (Bool)) (S77 : Bool → V2 → V2 → Option V11) (x0 x1 : V2) (k : V10 → Int → Option R) : Option R :=
(g44_8 S75 S76 S77 k k x0 x1)
theorem gen44 (S75) (S76) (S77) (h75 : (ctr75 S75).holds cl) (h76 : (ctr76 S76).holds cl) (h77 : (ctr77 S77).holds cl) (x0 x1) (k : List E → Option R) : exec cl N c44 (e68 x0 x1) (fun e env => (retK d44 e env).bind k) = g44 S75 S76 S77 x0 x1 (fun r0 r1 => k [.v U9 r0, .v U1 r1]) := by
 simp only [c44, t44_8 S75 S76 S77 h75 h76 h77, rk44_0, rk44_1, Option.bind_some]
 rfl
def ctr44 (S : V2 → V2 → Option V13) : Ctr := cv2 44 U5 U5 S fun b => [.v U9 b.1, .v U1 b.2]
def S44 (N : Nat) (x0 : V2) (x1 : V2) : Option V13 := g44 (S75 N) (S76 N) (S77 N) x0 x1 (fun (r0 : V10) (r1 : Int) => some (r0, r1))
def g27_0 (k0 : Int → Int → Int → Int → V10 → Option R) (x0 x1 x2 x3 : Int) : Option R :=
k0 x0 x1 x2 x3 (false, (([], ()), (([], ()), ())))
theorem t27_0 (x0 x1 x2 x3) : exec cl N c27_0 (e0 x0 x1 x2 x3) K = (g27_0 (fun y0 y1 y2 y3 y4 => K .normal (e90 y0 y1 y2 y3 y4)) x0 x1 x2 x3) := by
 kernel_rfl
def g27_5 (S62 : Int → Int → Int → Int → Option (Int)) (k0 : Int → Int → Int → Int → V10 → Int → Bool → Option R) (x0 x1 x2 x3 : Int) (x4 : V10) : Option R :=
(S62 x0 x1 x2 x3).bind fun r393 =>
k0 x0 x1 x2 x3 x4 r393 (r393 != (0 : Int))
theorem t27_5 (S62) (h62 : (ctr62 S62).holds cl) (x0 x1 x2 x3 x4) : exec cl N c27_5 (e90 x0 x1 x2 x3 x4) K = (g27_5 S62 (fun y0 y1 y2 y3 y4 y5 y6 => exec cl N c27_4 (e91 y0 y1 y2 y3 y4 y5 y6) K) x0 x1 x2 x3 x4) := by
 rw [← put_eq h62]
 kernel_rfl
def g27_3 (k0 : V10 → Int → Option R) (x0 x1 x2 x3 : Int) (x4 : V10) (x5 : Int) (x6 : Bool) : Option R :=
k0 (false, ([], ()), ([], ()), ()) x5
theorem t27_3 (x0 x1 x2 x3 x4 x5 x6) : exec cl N c27_3 (e91 x0 x1 x2 x3 x4 x5 x6) K = (g27_3 (fun y0 y1 => K .normal (e92 y0 y1)) x0 x1 x2 x3 x4 x5 x6) := by
 kernel_rfl
theorem kp27_0 (x0 x1) : keep [0, 1, 2, 3, 8, 9] (e92 x0 x1) = (e93 x0 x1) := by kernel_rfl
theorem kp27_1 (x0 x1 x2 x3 x4 x5 x6) : keep [0, 1, 2, 3, 8, 9] (e91 x0 x1 x2 x3 x4 x5 x6) = (e94 x0 x1 x2 x3 x4) := by kernel_rfl
theorem hb27_0 (x0 x1 x2 x3 x4 x5 x6) : boolOf? (ent (e91 x0 x1 x2 x3 x4 x5 x6) (.t 17)) = some x6 := by kernel_rfl
def g27_6 (S44 : V2 → V2 → Option V13) (S63 : Int → Int → Int → Int → Option V3) (S64 : Int → Int → Option V3) (k0 : V10 → Int → Option R) (x0 x1 x2 x3 : Int) (x4 : V10) : Option R :=
(S63 x0 x1 x2 x3).bind fun r396 =>
(S64 x0 x2).bind fun r397 =>
(S44 r396 r397).bind fun r398 =>
k0 r398.1 r398.2
theorem t27_6 (S44) (S63) (S64) (h44 : (ctr44 S44).holds cl) (h63 : (ctr63 S63).holds cl) (h64 : (ctr64 S64).holds cl) (x0 x1 x2 x3 x4) : exec cl N c27_6 (e94 x0 x1 x2 x3 x4) K = (g27_6 S44 S63 S64 (fun y0 y1 => K .normal (e92 y0 y1)) x0 x1 x2 x3 x4) := by
 rw [← put_eq h44]
 rw [← put_eq h63]
 rw [← put_eq h64]
 kernel_rfl
def g27_7 (S44 : V2 → V2 → Option V13) (S62 : Int → Int → Int → Int → Option (Int)) (S63 : Int → Int → Int → Int → Option V3) (S64 : Int → Int → Option V3) (k0 : V10 → Int → Option R) (k1 : V10 → Int → Option R) (x0 x1 x2 x3 : Int) : Option R :=
(g27_0 (g27_5 S62 (fun y0 y1 y2 y3 y4 y5 y6 => brB y6 (g27_3 k0 y0 y1 y2 y3 y4 y5 y6) ((g27_6 S44 S63 S64 k1) y0 y1 y2 y3 y4))) x0 x1 x2 x3)
theorem t27_7 (S44) (S62) (S63) (S64) (h44 : (ctr44 S44).holds cl) (h62 : (ctr62 S62).holds cl) (h63 : (ctr63 S63).holds cl) (h64 : (ctr64 S64).holds cl) (x0 x1 x2 x3) : exec cl N c27_7 (e0 x0 x1 x2 x3) K = (g27_7 S44 S62 S63 S64 (fun y0 y1 => K .ret (e93 y0 y1)) (fun y0 y1 => K .ret (e92 y0 y1)) x0 x1 x2 x3) := by
 simp only [c27_7, exec_seq, seqK_normal, seqK_exit, seqK_ret, t27_0, t27_5 S62 h62, c27_4, exec_out, exec_cond', hb27_0, Option.bind_some, brB_true, brB_false, t27_3, exec_ret, exec_skip, kp27_0, kp27_1, t27_6 S44 S63 S64 h44 h63 h64]
 rfl
theorem rk27_0 (y0 y1) : retK d27 .ret (e93 y0 y1) = some [.v U9 y0, .v U1 y1] := by kernel_rfl
theorem rk27_1 (y0 y1) : retK d27 .ret (e92 y0 y1) = some [.v U9 y0, .v U1 y1] := by kernel_rfl
def g27 (S44 : V2 → V2 → Option V13) (S62 : Int → Int → Int → Int → Option (Int)) (S63 : Int → Int → Int → Int → Option V3) (S64 : Int → Int → Option V3) (x0 x1 x2 x3 : Int) (k : V10 → Int → Option R) : Option R :=
(g27_7 S44 S62 S63 S64 k k x0 x1 x2 x3)
theorem gen27 (S44) (S62) (S63) (S64) (h44 : (ctr44 S44).holds cl) (h62 : (ctr62 S62).holds cl) (h63 : (ctr63 S63).holds cl) (h64 : (ctr64 S64).holds cl) (x0 x1 x2 x3) (k : List E → Option R) : exec cl N c27 (e0 x0 x1 x2 x3) (fun e env => (retK d27 e env).bind k) = g27 S44 S62 S63 S64 x0 x1 x2 x3 (fun r0 r1 => k [.v U9 r0, .v U1 r1]) := by
 simp only [c27, t27_7 S44 S62 S63 S64 h44 h62 h63 h64, rk27_0, rk27_1, Option.bind_some]
 rfl
def ctr27 (S : Int → Int → Int → Int → Option V13) : Ctr := cv4 27 U1 U1 U1 U1 S fun b => [.v U9 b.1, .v U1 b.2]
def S27 (N : Nat) (x0 : Int) (x1 : Int) (x2 : Int) (x3 : Int) : Option V13 := g27 (S44 N) (S62 N) (S63 N) (S64 N) x0 x1 x2 x3 (fun (r0 : V10) (r1 : Int) => some (r0, r1))
def g107_0 (k0 : V0 → V0 → Option R) (x0 x1 : V0) : Option R :=
k0 x0 x1
theorem t107_0 (x0 x1) : exec cl N c107_0 (e14 x0 x1) K = (g107_0 (fun y0 y1 => K .normal (e14 y0 y1)) x0 x1) := by
 kernel_rfl
def g107_1 (k0 : V0 → V0 → Bool → Option R) (x0 x1 : V0) : Option R :=
k0 x0 x1 (decide ((x0.length : Int) < (x1.length : Int)))
theorem t107_1 (x0 x1) : exec cl N c107_1 (e14 x0 x1) K = (g107_1 (fun y0 y1 y2 => K .normal (e95 y0 y1 y2)) x0 x1) := by
 kernel_rfl
def g107_2 (k0 : V0 → V0 → Option R) (x0 x1 : V0) (x2 : Bool) : Option R :=
k0 x1 x0
theorem t107_2 (x0 x1 x2) : exec cl N c107_2 (e95 x0 x1 x2) K = (g107_2 (fun y0 y1 => K .normal (e14 y0 y1)) x0 x1 x2) := by
 kernel_rfl
theorem kp107_0 (x0 x1) : keep [0, 1] (e14 x0 x1) = (e14 x0 x1) := by kernel_rfl
theorem kp107_1 (x0 x1 x2) : keep [0, 1] (e95 x0 x1 x2) = (e14 x0 x1) := by kernel_rfl
theorem hb107_0 (x0 x1 x2) : boolOf? (ent (e95 x0 x1 x2) (.t 13)) = some x2 := by kernel_rfl
def g107_4 (k0 : V0 → V0 → Option R) (x0 x1 : V0) : Option R :=
(g107_1 (fun y0 y1 y2 => brB y2 (g107_2 k0 y0 y1 y2) (k0 y0 y1)) x0 x1)
theorem t107_4 (x0 x1) : exec cl N c107_4 (e14 x0 x1) K = (g107_4 (fun y0 y1 => K .normal (e14 y0 y1)) x0 x1) := by
 simp only [c107_4, exec_seq, seqK_normal, seqK_exit, seqK_ret, t107_1, c107_3, exec_out, exec_cond', hb107_0, Option.bind_some, brB_true, brB_false, t107_2, exec_skip, kp107_0, kp107_1]
 rfl
def g107_30 (k0 : V0 → V0 → V0 → Int → Option R) (x0 x1 : V0) : Option R :=
let v450 : Int := (IntKind.i64.wrap ((x0.length : Int) + (1 : Int)))
if 0 ≤ (0 : Int) ∧ (0 : Int) ≤ v450 ∧ v450 ≤ ((17592186044416 : Nat) : Int) then
k0 x0 x1 (List.replicate (0 : Int).toNat (0 : Int)) (0 : Int)
else none
theorem t107_30 (x0 x1) : exec cl N c107_30 (e14 x0 x1) K = (g107_30 (fun y0 y1 y2 y3 => exec cl N (.seq (.seq c107_7 c107_24) (.seq c107_28 (.seq c107_29 .ret))) (e96 y0 y1 y2 y3) K) x0 x1) := by
 kernel_rfl
def g107_7 (k0 : V0 → V0 → Int → V0 → Int → Int → Option R) (x0 x1 x2 : V0) (x3 : Int) : Option R :=
k0 x1 x2 x3 x0 (x0.length : Int) (0 : Int)
theorem t107_7 (x0 x1 x2 x3) : exec cl N c107_7 (e96 x0 x1 x2 x3) K = (g107_7 (fun y0 y1 y2 y3 y4 y5 => K .normal (e97 y0 y1 y2 y3 y4 y5)) x0 x1 x2 x3) := by
 kernel_rfl
theorem kp107_2 (x0 x1 x2 x3 x4 x5) : keep [1, 5, 6, 20, 21, 22] (e97 x0 x1 x2 x3 x4 x5) = (e97 x0 x1 x2 x3 x4 x5) := by kernel_rfl
def g107_8 (k0 : V0 → V0 → Int → V0 → Int → Int → Bool → Option R) (x0 x1 : V0) (x2 : Int) (x3 : V0) (x4 x5 : Int) : Option R :=
k0 x0 x1 x2 x3 x4 x5 (decide (x5 < x4))
theorem t107_8 (x0 x1 x2 x3 x4 x5) : exec cl N c107_8 (e97 x0 x1 x2 x3 x4 x5) K = (g107_8 (fun y0 y1 y2 y3 y4 y5 y6 => K .normal (e98 y0 y1 y2 y3 y4 y5 y6)) x0 x1 x2 x3 x4 x5) := by
 kernel_rfl
theorem kp107_3 (x0 x1 x2 x3 x4 x5 x6) : keep [1, 5, 6, 20, 21, 22] (e98 x0 x1 x2 x3 x4 x5 x6) = (e97 x0 x1 x2 x3 x4 x5) := by kernel_rfl
theorem hb107_1 (x0 x1 x2 x3 x4 x5 x6) : boolOf? (ent (e98 x0 x1 x2 x3 x4 x5 x6) (.t 23)) = some x6 := by kernel_rfl
def g107_19 (k0 : V0 → V0 → Int → Int → V0 → Int → Int → Option R) (x0 x1 : V0) (x2 : Int) (x3 : V0) (x4 x5 : Int) : Option R :=
if 0 ≤ x5 ∧ x5 < (x3.length : Int) then
k0 x0 x1 (IntKind.i64.wrap (x2 + (x3.getD x5.toNat (0 : Int)))) x5 x3 x4 x5
else none
theorem t107_19 (x0 x1 x2 x3 x4 x5) : exec cl N c107_19 (e97 x0 x1 x2 x3 x4 x5) K = (g107_19 (fun y0 y1 y2 y3 y4 y5 y6 => exec cl N (.seq c107_15 c107_18) (e99 y0 y1 y2 y3 y4 y5 y6) K) x0 x1 x2 x3 x4 x5) := by
 kernel_rfl
def g107_12 (k0 : V0 → V0 → Int → Int → V0 → Int → Int → Bool → Option R) (x0 x1 : V0) (x2 x3 : Int) (x4 : V0) (x5 x6 : Int) : Option R :=
k0 x0 x1 x2 x3 x4 x5 x6 (decide (x3 < (x0.length : Int)))
theorem t107_12 (x0 x1 x2 x3 x4 x5 x6) : exec cl N c107_12 (e99 x0 x1 x2 x3 x4 x5 x6) K = (g107_12 (fun y0 y1 y2 y3 y4 y5 y6 y7 => K .normal (e100 y0 y1 y2 y3 y4 y5 y6 y7)) x0 x1 x2 x3 x4 x5 x6) := by
 kernel_rfl
def g107_13 (k0 : V0 → V0 → Int → V0 → Int → Int → Option R) (x0 x1 : V0) (x2 x3 : Int) (x4 : V0) (x5 x6 : Int) (x7 : Bool) : Option R :=
if 0 ≤ x3 ∧ x3 < (x0.length : Int) then
k0 x0 x1 (IntKind.i64.wrap (x2 + (x0.getD x3.toNat (0 : Int)))) x4 x5 x6
else none
theorem t107_13 (x0 x1 x2 x3 x4 x5 x6 x7) : exec cl N c107_13 (e100 x0 x1 x2 x3 x4 x5 x6 x7) K = (g107_13 (fun y0 y1 y2 y3 y4 y5 => K .normal (e97 y0 y1 y2 y3 y4 y5)) x0 x1 x2 x3 x4 x5 x6 x7) := by
 kernel_rfl
theorem kp107_4 (x0 x1 x2 x3 x4 x5 x6 x7) : keep [1, 5, 6, 20, 21, 22] (e100 x0 x1 x2 x3 x4 x5 x6 x7) = (e97 x0 x1 x2 x4 x5 x6) := by kernel_rfl
theorem hb107_2 (x0 x1 x2 x3 x4 x5 x6 x7) : boolOf? (ent (e100 x0 x1 x2 x3 x4 x5 x6 x7) (.t 33)) = some x7 := by kernel_rfl
def g107_15 (k0 : V0 → V0 → Int → V0 → Int → Int → Option R) (x0 x1 : V0) (x2 x3 : Int) (x4 : V0) (x5 x6 : Int) : Option R :=
(g107_12 (fun y0 y1 y2 y3 y4 y5 y6 y7 => brB y7 (g107_13 k0 y0 y1 y2 y3 y4 y5 y6 y7) (k0 y0 y1 y2 y4 y5 y6)) x0 x1 x2 x3 x4 x5 x6)
theorem t107_15 (x0 x1 x2 x3 x4 x5 x6) : exec cl N c107_15 (e99 x0 x1 x2 x3 x4 x5 x6) K = (g107_15 (fun y0 y1 y2 y3 y4 y5 => K .normal (e97 y0 y1 y2 y3 y4 y5)) x0 x1 x2 x3 x4 x5 x6) := by
 simp only [c107_15, exec_seq, seqK_normal, seqK_exit, seqK_ret, t107_12, c107_14, exec_out, exec_cond', hb107_2, Option.bind_some, brB_true, brB_false, t107_13, exec_skip, kp107_2, kp107_4]
 rfl
def g107_18 (k0 : V0 → V0 → Int → V0 → Int → Int → Option R) (x0 x1 : V0) (x2 : Int) (x3 : V0) (x4 x5 : Int) : Option R :=
let v456 : Int := (Int.tmod x2 (10000 : Int))
if x1.length + [v456].length ≤ 17592186044416 then
k0 x0 (x1 ++ [v456]) (IntKind.i64.wrap (Int.tdiv x2 (10000 : Int))) x3 x4 x5
else none
theorem t107_18 (x0 x1 x2 x3 x4 x5) : exec cl N c107_18 (e97 x0 x1 x2 x3 x4 x5) K = (g107_18 (fun y0 y1 y2 y3 y4 y5 => K .normal (e97 y0 y1 y2 y3 y4 y5)) x0 x1 x2 x3 x4 x5) := by
 kernel_rfl
def g107_21 (k0 : V0 → V0 → Int → V0 → Int → Int → Option R) (x0 x1 : V0) (x2 : Int) (x3 : V0) (x4 x5 : Int) : Option R :=
k0 x0 x1 x2 x3 x4 (IntKind.i64.wrap (x5 + (1 : Int)))
theorem t107_21 (x0 x1 x2 x3 x4 x5) : exec cl N c107_21 (e97 x0 x1 x2 x3 x4 x5) K = (g107_21 (fun y0 y1 y2 y3 y4 y5 => K .normal (e97 y0 y1 y2 y3 y4 y5)) x0 x1 x2 x3 x4 x5) := by
 kernel_rfl
def g107_22 (k0 : V0 → V0 → Int → V0 → Int → Int → Option R) (k1 : V0 → V0 → Int → V0 → Int → Int → Option R) (x0 x1 : V0) (x2 : Int) (x3 : V0) (x4 x5 : Int) : Option R :=
(g107_8 (fun y0 y1 y2 y3 y4 y5 y6 => brB y6 ((g107_19 (g107_15 (g107_18 ((g107_21 k0))))) y0 y1 y2 y3 y4 y5) (k1 y0 y1 y2 y3 y4 y5)) x0 x1 x2 x3 x4 x5)
theorem t107_22 (x0 x1 x2 x3 x4 x5) : exec cl N c107_22 (e97 x0 x1 x2 x3 x4 x5) K = (g107_22 (fun y0 y1 y2 y3 y4 y5 => K .normal (e97 y0 y1 y2 y3 y4 y5)) (fun y0 y1 y2 y3 y4 y5 => K (.exit 0) (e97 y0 y1 y2 y3 y4 y5)) x0 x1 x2 x3 x4 x5) := by
 simp only [c107_22, exec_seq, seqK_normal, seqK_exit, seqK_ret, t107_8, c107_9, exec_out, exec_cond', hb107_1, Option.bind_some, brB_true, brB_false, exec_skip, exec_exit, kp107_3, c107_20, exec_block, t107_19, t107_15, t107_18, blockK_normal, blockK_ret, blockK_eq, kp107_2, t107_21]
 rfl
def l107_23 {R : Type} (k0 : V0 → V0 → Int → V0 → Int → Int → Option R) : Nat → V0 → V0 → Int → V0 → Int → Int → Option R
 | 0, _, _, _, _, _, _ => none
 | m + 1, x0, x1, x2, x3, x4, x5 => (g107_22 (l107_23 k0 m) k0 x0 x1 x2 x3 x4 x5)
theorem lt107_23 : ∀ (m) (x0 x1 x2 x3 x4 x5), iter [1, 5, 6, 20, 21, 22] (fun env K => exec cl N c107_22 env K) K m (e97 x0 x1 x2 x3 x4 x5) = l107_23 (fun y0 y1 y2 y3 y4 y5 => K (.exit 0) (e97 y0 y1 y2 y3 y4 y5)) m x0 x1 x2 x3 x4 x5 := by
 intro m
 induction m with
 | zero => intros; rfl
 | succ m ih =>
   intro x0 x1 x2 x3 x4 x5
   simp only [iter_succ, t107_22, loopK_normal, loopK_exit, loopK_ret, kp107_2, ih]
   rfl
theorem kp107_5 (x0 x1 x2 x3 x4 x5) : keep [5, 6] (e97 x0 x1 x2 x3 x4 x5) = (e101 x1 x2) := by kernel_rfl
def g107_23 (N : Nat) (k0 : V0 → Int → Option R) (x0 x1 : V0) (x2 : Int) (x3 : V0) (x4 x5 : Int) : Option R :=
l107_23 (fun y0 y1 y2 y3 y4 y5 => k0 y1 y2) N x0 x1 x2 x3 x4 x5
theorem t107_23 (x0 x1 x2 x3 x4 x5) : exec cl N c107_23 (e97 x0 x1 x2 x3 x4 x5) K = (g107_23 N (fun y0 y1 => K (.exit 0) (e101 y0 y1)) x0 x1 x2 x3 x4 x5) := by
 simp only [c107_23, exec_out, exec_loop, kp107_2, lt107_23, kp107_5]
 rfl
theorem kp107_6 (x0 x1) : keep [5, 6] (e101 x0 x1) = (e101 x0 x1) := by kernel_rfl
def g107_25 (k0 : V0 → Int → Bool → Option R) (x0 : V0) (x1 : Int) : Option R :=
k0 x0 x1 (decide (x1 > (0 : Int)))
theorem t107_25 (x0 x1) : exec cl N c107_25 (e101 x0 x1) K = (g107_25 (fun y0 y1 y2 => K .normal (e102 y0 y1 y2)) x0 x1) := by
 kernel_rfl
def g107_26 (k0 : V0 → Option R) (x0 : V0) (x1 : Int) (x2 : Bool) : Option R :=
if x0.length + [x1].length ≤ 17592186044416 then
k0 (x0 ++ [x1])
else none
theorem t107_26 (x0 x1 x2) : exec cl N c107_26 (e102 x0 x1 x2) K = (g107_26 (fun y0 => K .normal (e22 y0)) x0 x1 x2) := by
 kernel_rfl
theorem kp107_7 (x0) : keep [5] (e22 x0) = (e22 x0) := by kernel_rfl
theorem kp107_8 (x0 x1 x2) : keep [5] (e102 x0 x1 x2) = (e22 x0) := by kernel_rfl
theorem hb107_3 (x0 x1 x2) : boolOf? (ent (e102 x0 x1 x2) (.t 49)) = some x2 := by kernel_rfl
def g107_28 (k0 : V0 → Option R) (x0 : V0) (x1 : Int) : Option R :=
(g107_25 (fun y0 y1 y2 => brB y2 (g107_26 k0 y0 y1 y2) (k0 y0)) x0 x1)
theorem t107_28 (x0 x1) : exec cl N c107_28 (e101 x0 x1) K = (g107_28 (fun y0 => K .normal (e22 y0)) x0 x1) := by
 simp only [c107_28, exec_seq, seqK_normal, seqK_exit, seqK_ret, t107_25, c107_27, exec_out, exec_cond', hb107_3, Option.bind_some, brB_true, brB_false, t107_26, exec_skip, kp107_7, kp107_8]
 rfl
def g107_29 (k0 : V0 → Option R) (x0 : V0) : Option R :=
k0 x0
theorem t107_29 (x0) : exec cl N c107_29 (e22 x0) K = (g107_29 (fun y0 => K .normal (e103 y0)) x0) := by
 kernel_rfl
def g107_31 (N : Nat) (k0 : V0 → Option R) (x0 x1 : V0) : Option R :=
(g107_0 (g107_4 (g107_30 (g107_7 (g107_23 N ((g107_28 (g107_29 k0))))))) x0 x1)
theorem t107_31 (x0 x1) : exec cl N c107_31 (e14 x0 x1) K = (g107_31 N (fun y0 => K .ret (e103 y0)) x0 x1) := by
 simp only [c107_31, exec_seq, seqK_normal, seqK_exit, seqK_ret, t107_0, t107_4, t107_30, t107_7, c107_24, exec_out, exec_block, t107_23, blockK_normal, blockK_ret, blockK_eq, kp107_6, t107_28, t107_29, exec_ret]
 rfl
theorem rk107_0 (y0) : retK d107 .ret (e103 y0) = some [.own true 3 U1 .no y0] := by kernel_rfl
def g107 (N : Nat) (x0 x1 : V0) (k : V0 → Option R) : Option R :=
(g107_31 N k x0 x1)
theorem gen107 (x0 x1) (k : List E → Option R) : exec cl N c107 (e14 x0 x1) (fun e env => (retK d107 e env).bind k) = g107 N x0 x1 (fun r0 => k [.own true 3 U1 .no r0]) := by
 simp only [c107, t107_31, rk107_0, Option.bind_some]
 rfl
def ctr107 (S : V0 → V0 → Option V1) : Ctr := cv2 107 U2 U2 S fun b => [.own true 3 U1 .no b]
def S107 (N : Nat) (x0 : V0) (x1 : V0) : Option V1 := g107 N x0 x1 (fun (r0 : V0) => some (r0))
def g82_0 (k0 : V2 → V2 → V2 → Option R) (x0 x1 : V2) : Option R :=
k0 x0 x1 ([], ())
theorem t82_0 (x0 x1) : exec cl N c82_0 (e68 x0 x1) K = (g82_0 (fun y0 y1 y2 => K .normal (e69 y0 y1 y2)) x0 x1) := by
 kernel_rfl
def g82_1 (S75 : V2 → Option (Bool)) (k0 : V2 → V2 → V2 → Bool → Option R) (x0 x1 x2 : V2) : Option R :=
(S75 x0).bind fun r462 =>
brB (!r462) (k0 x0 x1 x2 true) ((S75 x1).bind fun r463 =>
k0 x0 x1 x2 (!r463))
theorem t82_1 (S75) (h75 : (ctr75 S75).holds cl) (x0 x1 x2) : exec cl N c82_1 (e69 x0 x1 x2) K = (g82_1 S75 (fun y0 y1 y2 y3 => K .normal (e70 y0 y1 y2 y3)) x0 x1 x2) := by
 rw [← put_eq h75]
 kernel_rfl
def g82_2 (k0 : V2 → Int → Option R) (x0 x1 x2 : V2) (x3 : Bool) : Option R :=
k0 ([], ()) (1 : Int)
theorem t82_2 (x0 x1 x2 x3) : exec cl N c82_2 (e70 x0 x1 x2 x3) K = (g82_2 (fun y0 y1 => K .normal (e51 y0 y1)) x0 x1 x2 x3) := by
 kernel_rfl
theorem kp82_0 (x0 x1) : keep [2, 3, 4, 5] (e51 x0 x1) = (e71 x0 x1) := by kernel_rfl
theorem kp82_1 (x0 x1 x2 x3) : keep [2, 3, 4, 5] (e70 x0 x1 x2 x3) = (e72 x0 x1 x2) := by kernel_rfl
theorem hb82_0 (x0 x1 x2 x3) : boolOf? (ent (e70 x0 x1 x2 x3) (.t 13)) = some x3 := by kernel_rfl
def g82_4 (S106 : V0 → Option V5) (S107 : V0 → V0 → Option V1) (k0 : V2 → Int → Option R) (x0 x1 x2 : V2) : Option R :=
(S107 x0.1 x1.1).bind fun r464 =>
(S106 r464).bind fun r465 =>
k0 r465.1 r465.2
theorem t82_4 (S106) (S107) (h106 : (ctr106 S106).holds cl) (h107 : (ctr107 S107).holds cl) (x0 x1 x2) : exec cl N c82_4 (e72 x0 x1 x2) K = (g82_4 S106 S107 (fun y0 y1 => K .normal (e58 y0 y1)) x0 x1 x2) := by
 rw [← put_eq h106]
 rw [← put_eq h107]
 kernel_rfl
def g82_5 (S75 : V2 → Option (Bool)) (S106 : V0 → Option V5) (S107 : V0 → V0 → Option V1) (k0 : V2 → Int → Option R) (k1 : V2 → Int → Option R) (x0 x1 : V2) : Option R :=
(g82_0 (g82_1 S75 (fun y0 y1 y2 y3 => brB y3 (g82_2 k0 y0 y1 y2 y3) ((g82_4 S106 S107 k1) y0 y1 y2))) x0 x1)
theorem t82_5 (S75) (S106) (S107) (h75 : (ctr75 S75).holds cl) (h106 : (ctr106 S106).holds cl) (h107 : (ctr107 S107).holds cl) (x0 x1) : exec cl N c82_5 (e68 x0 x1) K = (g82_5 S75 S106 S107 (fun y0 y1 => K .ret (e71 y0 y1)) (fun y0 y1 => K .ret (e58 y0 y1)) x0 x1) := by
 simp only [c82_5, exec_seq, seqK_normal, seqK_exit, seqK_ret, t82_0, t82_1 S75 h75, c82_3, exec_out, exec_cond', hb82_0, Option.bind_some, brB_true, brB_false, t82_2, exec_ret, exec_skip, kp82_0, kp82_1, t82_4 S106 S107 h106 h107]
 rfl
theorem rk82_0 (y0 y1) : retK d82 .ret (e71 y0 y1) = some [.v U5 y0, .v U1 y1] := by kernel_rfl
theorem rk82_1 (y0 y1) : retK d82 .ret (e58 y0 y1) = some [.v U5 y0, .v U1 y1] := by kernel_rfl
def g82 (S75 : V2 → Option (Bool)) (S106 : V0 → Option V5) (S107 : V0 → V0 → Option V1) (x0 x1 : V2) (k : V2 → Int → Option R) : Option R :=
(g82_5 S75 S106 S107 k k x0 x1)
theorem gen82 (S75) (S106) (S107) (h75 : (ctr75 S75).holds cl) (h106 : (ctr106 S106).holds cl) (h107 : (ctr107 S107).holds cl) (x0 x1) (k : List E → Option R) : exec cl N c82 (e68 x0 x1) (fun e env => (retK d82 e env).bind k) = g82 S75 S106 S107 x0 x1 (fun r0 r1 => k [.v U5 r0, .v U1 r1]) := by
 simp only [c82, t82_5 S75 S106 S107 h75 h106 h107, rk82_0, rk82_1, Option.bind_some]
 rfl
def ctr82 (S : V2 → V2 → Option V5) : Ctr := cv2 82 U5 U5 S fun b => [.v U5 b.1, .v U1 b.2]
def S82 (N : Nat) (x0 : V2) (x1 : V2) : Option V5 := g82 (S75 N) (S106 N) (S107 N) x0 x1 (fun (r0 : V2) (r1 : Int) => some (r0, r1))
def g50_3 (S82 : V2 → V2 → Option V5) (k0 : V2 → Option R) (x0 x1 : V2) : Option R :=
(S82 x0 x1).bind fun r469 =>
k0 r469.1
theorem t50_3 (S82) (h82 : (ctr82 S82).holds cl) (x0 x1) : exec cl N c50_3 (e68 x0 x1) K = (g50_3 S82 (fun y0 => exec cl N .ret [(4, .loc U5 .no y0)] K) x0 x1) := by
 rw [← put_eq h82]
 kernel_rfl
def g50_3b (S82 : V2 → V2 → Option V5) (k0 : V2 → Option R) (x0 x1 : V2) : Option R :=
(g50_3 S82 k0 x0 x1)
theorem t50_3b (S82) (h82 : (ctr82 S82).holds cl) (x0 x1) : exec cl N c50_3 (e68 x0 x1) K = (g50_3b S82 (fun y0 => K .ret [(4, .loc U5 .no y0)]) x0 x1) := by
 simp only [exec_seq, seqK_normal, seqK_exit, seqK_ret, t50_3 S82 h82, exec_ret]
 rfl
theorem rk50_0 (y0) : retK d50 .ret [(4, .loc U5 .no y0)] = some [.v U5 y0] := by kernel_rfl
def g50 (S82 : V2 → V2 → Option V5) (x0 x1 : V2) (k : V2 → Option R) : Option R :=
(g50_3b S82 k x0 x1)
theorem gen50 (S82) (h82 : (ctr82 S82).holds cl) (x0 x1) (k : List E → Option R) : exec cl N c50 (e68 x0 x1) (fun e env => (retK d50 e env).bind k) = g50 S82 x0 x1 (fun r0 => k [.v U5 r0]) := by
 simp only [c50, t50_3b S82 h82, rk50_0, Option.bind_some]
 rfl
def ctr50 (S : V2 → V2 → Option V3) : Ctr := cv2 50 U5 U5 S fun b => [.v U5 b]
def S50 (N : Nat) (x0 : V2) (x1 : V2) : Option V3 := g50 (S82 N) x0 x1 (fun (r0 : V2) => some (r0))
def g29_0 (k0 : Int → Int → Int → Int → V10 → Option R) (x0 x1 x2 x3 : Int) : Option R :=
k0 x0 x1 x2 x3 (false, (([], ()), (([], ()), ())))
theorem t29_0 (x0 x1 x2 x3) : exec cl N c29_0 (e0 x0 x1 x2 x3) K = (g29_0 (fun y0 y1 y2 y3 y4 => K .normal (e90 y0 y1 y2 y3 y4)) x0 x1 x2 x3) := by
 kernel_rfl
def g29_5 (S62 : Int → Int → Int → Int → Option (Int)) (k0 : Int → Int → Int → Int → V10 → Int → Bool → Option R) (x0 x1 x2 x3 : Int) (x4 : V10) : Option R :=
(S62 x0 x1 x2 x3).bind fun r475 =>
k0 x0 x1 x2 x3 x4 r475 (r475 != (0 : Int))
theorem t29_5 (S62) (h62 : (ctr62 S62).holds cl) (x0 x1 x2 x3 x4) : exec cl N c29_5 (e90 x0 x1 x2 x3 x4) K = (g29_5 S62 (fun y0 y1 y2 y3 y4 y5 y6 => exec cl N c29_4 (e104 y0 y1 y2 y3 y4 y5 y6) K) x0 x1 x2 x3 x4) := by
 rw [← put_eq h62]
 kernel_rfl
def g29_3 (k0 : V10 → Int → Option R) (x0 x1 x2 x3 : Int) (x4 : V10) (x5 : Int) (x6 : Bool) : Option R :=
k0 (false, ([], ()), ([], ()), ()) x5
theorem t29_3 (x0 x1 x2 x3 x4 x5 x6) : exec cl N c29_3 (e104 x0 x1 x2 x3 x4 x5 x6) K = (g29_3 (fun y0 y1 => K .normal (e92 y0 y1)) x0 x1 x2 x3 x4 x5 x6) := by
 kernel_rfl
theorem kp29_0 (x0 x1) : keep [0, 1, 2, 3, 8, 9] (e92 x0 x1) = (e93 x0 x1) := by kernel_rfl
theorem kp29_1 (x0 x1 x2 x3 x4 x5 x6) : keep [0, 1, 2, 3, 8, 9] (e104 x0 x1 x2 x3 x4 x5 x6) = (e94 x0 x1 x2 x3 x4) := by kernel_rfl
theorem hb29_0 (x0 x1 x2 x3 x4 x5 x6) : boolOf? (ent (e104 x0 x1 x2 x3 x4 x5 x6) (.t 19)) = some x6 := by kernel_rfl
def g29_6 (S49 : Int → Option V3) (k0 : Int → Int → Int → Int → V10 → V2 → Option R) (x0 x1 x2 x3 : Int) (x4 : V10) : Option R :=
(S49 (0 : Int)).bind fun r478 =>
k0 x0 x1 x2 x3 x4 r478
theorem t29_6 (S49) (h49 : (ctr49 S49).holds cl) (x0 x1 x2 x3 x4) : exec cl N c29_6 (e94 x0 x1 x2 x3 x4) K = (g29_6 S49 (fun y0 y1 y2 y3 y4 y5 => K .normal (e105 y0 y1 y2 y3 y4 y5)) x0 x1 x2 x3 x4) := by
 rw [← put_eq h49]
 kernel_rfl
def g29_7 (k0 : Int → Int → Int → V10 → V2 → Int → Option R) (x0 x1 x2 x3 : Int) (x4 : V10) (x5 : V2) : Option R :=
k0 x0 x1 x2 x4 x5 x3
theorem t29_7 (x0 x1 x2 x3 x4 x5) : exec cl N c29_7 (e105 x0 x1 x2 x3 x4 x5) K = (g29_7 (fun y0 y1 y2 y3 y4 y5 => K .normal (e106 y0 y1 y2 y3 y4 y5)) x0 x1 x2 x3 x4 x5) := by
 kernel_rfl
theorem kp29_2 (x0 x1 x2 x3 x4 x5) : keep [0, 1, 2, 8, 11, 12] (e106 x0 x1 x2 x3 x4 x5) = (e106 x0 x1 x2 x3 x4 x5) := by kernel_rfl
def g29_8 (k0 : Int → Int → Int → V10 → V2 → Int → Bool → Option R) (x0 x1 x2 : Int) (x3 : V10) (x4 : V2) (x5 : Int) : Option R :=
k0 x0 x1 x2 x3 x4 x5 (decide (x5 ≤ x2))
theorem t29_8 (x0 x1 x2 x3 x4 x5) : exec cl N c29_8 (e106 x0 x1 x2 x3 x4 x5) K = (g29_8 (fun y0 y1 y2 y3 y4 y5 y6 => K .normal (e107 y0 y1 y2 y3 y4 y5 y6)) x0 x1 x2 x3 x4 x5) := by
 kernel_rfl
theorem kp29_3 (x0 x1 x2 x3 x4 x5 x6) : keep [0, 1, 2, 8, 11, 12] (e107 x0 x1 x2 x3 x4 x5 x6) = (e106 x0 x1 x2 x3 x4 x5) := by kernel_rfl
theorem hb29_1 (x0 x1 x2 x3 x4 x5 x6) : boolOf? (ent (e107 x0 x1 x2 x3 x4 x5 x6) (.t 26)) = some x6 := by kernel_rfl
def g29_10 (S50 : V2 → V2 → Option V3) (S63 : Int → Int → Int → Int → Option V3) (k0 : Int → Int → Int → V10 → V2 → Int → Option R) (x0 x1 x2 : Int) (x3 : V10) (x4 : V2) (x5 : Int) : Option R :=
(S63 x0 x1 x2 x5).bind fun r480 =>
(S50 x4 r480).bind fun r481 =>
k0 x0 x1 x2 x3 r481 x5
theorem t29_10 (S50) (S63) (h50 : (ctr50 S50).holds cl) (h63 : (ctr63 S63).holds cl) (x0 x1 x2 x3 x4 x5) : exec cl N c29_10 (e106 x0 x1 x2 x3 x4 x5) K = (g29_10 S50 S63 (fun y0 y1 y2 y3 y4 y5 => K .normal (e106 y0 y1 y2 y3 y4 y5)) x0 x1 x2 x3 x4 x5) := by
 rw [← put_eq h50]
 rw [← put_eq h63]
 kernel_rfl
def g29_12 (k0 : Int → Int → Int → V10 → V2 → Int → Option R) (x0 x1 x2 : Int) (x3 : V10) (x4 : V2) (x5 : Int) : Option R :=
k0 x0 x1 x2 x3 x4 (IntKind.i64.wrap (x5 + (1 : Int)))
theorem t29_12 (x0 x1 x2 x3 x4 x5) : exec cl N c29_12 (e106 x0 x1 x2 x3 x4 x5) K = (g29_12 (fun y0 y1 y2 y3 y4 y5 => K .normal (e106 y0 y1 y2 y3 y4 y5)) x0 x1 x2 x3 x4 x5) := by
 kernel_rfl
def g29_13 (S50 : V2 → V2 → Option V3) (S63 : Int → Int → Int → Int → Option V3) (k0 : Int → Int → Int → V10 → V2 → Int → Option R) (k1 : Int → Int → Int → V10 → V2 → Int → Option R) (x0 x1 x2 : Int) (x3 : V10) (x4 : V2) (x5 : Int) : Option R :=
(g29_8 (fun y0 y1 y2 y3 y4 y5 y6 => brB y6 ((g29_10 S50 S63 ((g29_12 k0))) y0 y1 y2 y3 y4 y5) (k1 y0 y1 y2 y3 y4 y5)) x0 x1 x2 x3 x4 x5)
theorem t29_13 (S50) (S63) (h50 : (ctr50 S50).holds cl) (h63 : (ctr63 S63).holds cl) (x0 x1 x2 x3 x4 x5) : exec cl N c29_13 (e106 x0 x1 x2 x3 x4 x5) K = (g29_13 S50 S63 (fun y0 y1 y2 y3 y4 y5 => K .normal (e106 y0 y1 y2 y3 y4 y5)) (fun y0 y1 y2 y3 y4 y5 => K (.exit 0) (e106 y0 y1 y2 y3 y4 y5)) x0 x1 x2 x3 x4 x5) := by
 simp only [c29_13, exec_seq, seqK_normal, seqK_exit, seqK_ret, t29_8, c29_9, exec_out, exec_cond', hb29_1, Option.bind_some, brB_true, brB_false, exec_skip, exec_exit, kp29_3, c29_11, exec_block, t29_10 S50 S63 h50 h63, blockK_normal, blockK_ret, blockK_eq, kp29_2, t29_12]
 rfl
def l29_14 {R : Type} (S50 : V2 → V2 → Option V3) (S63 : Int → Int → Int → Int → Option V3) (k0 : Int → Int → Int → V10 → V2 → Int → Option R) : Nat → Int → Int → Int → V10 → V2 → Int → Option R
 | 0, _, _, _, _, _, _ => none
 | m + 1, x0, x1, x2, x3, x4, x5 => (g29_13 S50 S63 (l29_14 S50 S63 k0 m) k0 x0 x1 x2 x3 x4 x5)
theorem lt29_14 (S50) (S63) (h50 : (ctr50 S50).holds cl) (h63 : (ctr63 S63).holds cl) : ∀ (m) (x0 x1 x2 x3 x4 x5), iter [0, 1, 2, 8, 11, 12] (fun env K => exec cl N c29_13 env K) K m (e106 x0 x1 x2 x3 x4 x5) = l29_14 S50 S63 (fun y0 y1 y2 y3 y4 y5 => K (.exit 0) (e106 y0 y1 y2 y3 y4 y5)) m x0 x1 x2 x3 x4 x5 := by
 intro m
 induction m with
 | zero => intros; rfl
 | succ m ih =>
   intro x0 x1 x2 x3 x4 x5
   simp only [iter_succ, t29_13 S50 S63 h50 h63, loopK_normal, loopK_exit, loopK_ret, kp29_2, ih]
   rfl
theorem kp29_4 (x0 x1 x2 x3 x4 x5) : keep [0, 2, 8, 11] (e106 x0 x1 x2 x3 x4 x5) = (e108 x0 x2 x3 x4) := by kernel_rfl
def g29_14 (N : Nat) (S50 : V2 → V2 → Option V3) (S63 : Int → Int → Int → Int → Option V3) (k0 : Int → Int → V10 → V2 → Option R) (x0 x1 x2 : Int) (x3 : V10) (x4 : V2) (x5 : Int) : Option R :=
l29_14 S50 S63 (fun y0 y1 y2 y3 y4 y5 => k0 y0 y2 y3 y4) N x0 x1 x2 x3 x4 x5
theorem t29_14 (S50) (S63) (h50 : (ctr50 S50).holds cl) (h63 : (ctr63 S63).holds cl) (x0 x1 x2 x3 x4 x5) : exec cl N c29_14 (e106 x0 x1 x2 x3 x4 x5) K = (g29_14 N S50 S63 (fun y0 y1 y2 y3 => K (.exit 0) (e108 y0 y1 y2 y3)) x0 x1 x2 x3 x4 x5) := by
 simp only [c29_14, exec_out, exec_loop, kp29_2, lt29_14 S50 S63 h50 h63, kp29_4]
 rfl
theorem kp29_5 (x0 x1 x2 x3) : keep [0, 2, 8, 11] (e108 x0 x1 x2 x3) = (e108 x0 x1 x2 x3) := by kernel_rfl
def g29_16 (S44 : V2 → V2 → Option V13) (S64 : Int → Int → Option V3) (k0 : V10 → Int → Option R) (x0 x1 : Int) (x2 : V10) (x3 : V2) : Option R :=
(S64 x0 x1).bind fun r483 =>
(S44 x3 r483).bind fun r484 =>
k0 r484.1 r484.2
theorem t29_16 (S44) (S64) (h44 : (ctr44 S44).holds cl) (h64 : (ctr64 S64).holds cl) (x0 x1 x2 x3) : exec cl N c29_16 (e108 x0 x1 x2 x3) K = (g29_16 S44 S64 (fun y0 y1 => K .normal (e92 y0 y1)) x0 x1 x2 x3) := by
 rw [← put_eq h44]
 rw [← put_eq h64]
 kernel_rfl
def g29_17 (N : Nat) (S44 : V2 → V2 → Option V13) (S49 : Int → Option V3) (S50 : V2 → V2 → Option V3) (S62 : Int → Int → Int → Int → Option (Int)) (S63 : Int → Int → Int → Int → Option V3) (S64 : Int → Int → Option V3) (k0 : V10 → Int → Option R) (k1 : V10 → Int → Option R) (x0 x1 x2 x3 : Int) : Option R :=
(g29_0 (g29_5 S62 (fun y0 y1 y2 y3 y4 y5 y6 => brB y6 (g29_3 k0 y0 y1 y2 y3 y4 y5 y6) ((g29_6 S49 (g29_7 (g29_14 N S50 S63 ((g29_16 S44 S64 k1))))) y0 y1 y2 y3 y4))) x0 x1 x2 x3)
theorem t29_17 (S44) (S49) (S50) (S62) (S63) (S64) (h44 : (ctr44 S44).holds cl) (h49 : (ctr49 S49).holds cl) (h50 : (ctr50 S50).holds cl) (h62 : (ctr62 S62).holds cl) (h63 : (ctr63 S63).holds cl) (h64 : (ctr64 S64).holds cl) (x0 x1 x2 x3) : exec cl N c29_17 (e0 x0 x1 x2 x3) K = (g29_17 N S44 S49 S50 S62 S63 S64 (fun y0 y1 => K .ret (e93 y0 y1)) (fun y0 y1 => K .ret (e92 y0 y1)) x0 x1 x2 x3) := by
 simp only [c29_17, exec_seq, seqK_normal, seqK_exit, seqK_ret, t29_0, t29_5 S62 h62, c29_4, exec_out, exec_cond', hb29_0, Option.bind_some, brB_true, brB_false, t29_3, exec_ret, exec_skip, kp29_0, kp29_1, t29_6 S49 h49, t29_7, c29_15, exec_block, t29_14 S50 S63 h50 h63, blockK_normal, blockK_ret, blockK_eq, kp29_5, t29_16 S44 S64 h44 h64]
 rfl
theorem rk29_0 (y0 y1) : retK d29 .ret (e93 y0 y1) = some [.v U9 y0, .v U1 y1] := by kernel_rfl
theorem rk29_1 (y0 y1) : retK d29 .ret (e92 y0 y1) = some [.v U9 y0, .v U1 y1] := by kernel_rfl
def g29 (N : Nat) (S44 : V2 → V2 → Option V13) (S49 : Int → Option V3) (S50 : V2 → V2 → Option V3) (S62 : Int → Int → Int → Int → Option (Int)) (S63 : Int → Int → Int → Int → Option V3) (S64 : Int → Int → Option V3) (x0 x1 x2 x3 : Int) (k : V10 → Int → Option R) : Option R :=
(g29_17 N S44 S49 S50 S62 S63 S64 k k x0 x1 x2 x3)
theorem gen29 (S44) (S49) (S50) (S62) (S63) (S64) (h44 : (ctr44 S44).holds cl) (h49 : (ctr49 S49).holds cl) (h50 : (ctr50 S50).holds cl) (h62 : (ctr62 S62).holds cl) (h63 : (ctr63 S63).holds cl) (h64 : (ctr64 S64).holds cl) (x0 x1 x2 x3) (k : List E → Option R) : exec cl N c29 (e0 x0 x1 x2 x3) (fun e env => (retK d29 e env).bind k) = g29 N S44 S49 S50 S62 S63 S64 x0 x1 x2 x3 (fun r0 r1 => k [.v U9 r0, .v U1 r1]) := by
 simp only [c29, t29_17 S44 S49 S50 S62 S63 S64 h44 h49 h50 h62 h63 h64, rk29_0, rk29_1, Option.bind_some]
 rfl
def ctr29 (S : Int → Int → Int → Int → Option V13) : Ctr := cv4 29 U1 U1 U1 U1 S fun b => [.v U9 b.1, .v U1 b.2]
def S29 (N : Nat) (x0 : Int) (x1 : Int) (x2 : Int) (x3 : Int) : Option V13 := g29 N (S44 N) (S49 N) (S50 N) (S62 N) (S63 N) (S64 N) x0 x1 x2 x3 (fun (r0 : V10) (r1 : Int) => some (r0, r1))
def g86_17 (k0 : V2 → Int → Option R) (x0 : V2) : Option R :=
k0 x0 (x0.1.length : Int)
theorem t86_17 (x0) : exec cl N c86_17 [(0, .v U5 x0)] K = (g86_17 (fun y0 y1 => exec cl N (.seq (.seq c86_2 c86_4) (.seq (.seq c86_5 c86_15) (.seq c86_16 .ret))) [(1, .loc U5 .no y0), (3, .v U1 y1)] K) x0) := by
 kernel_rfl
def g86_2 (k0 : V2 → Int → Bool → Option R) (x0 : V2) (x1 : Int) : Option R :=
brB (decide (x1 > (200 : Int))) (k0 x0 x1 true) (brB (decide (x1 > (0 : Int))) (let v505 : Int := (IntKind.i64.wrap (x1 - (1 : Int)))
if 0 ≤ v505 ∧ v505 < (x0.1.length : Int) then
k0 x0 x1 ((x0.1.getD v505.toNat (0 : Int)) == (0 : Int))
else none) (k0 x0 x1 false))
theorem t86_2 (x0 x1) : exec cl N c86_2 [(1, .loc U5 .no x0), (3, .v U1 x1)] K = (g86_2 (fun y0 y1 y2 => K .normal (e109 y0 y1 y2)) x0 x1) := by
 kernel_rfl
def g86_3 (k0 : Bool → Option R) (x0 : V2) (x1 : Int) (x2 : Bool) : Option R :=
k0 false
theorem t86_3 (x0 x1 x2) : exec cl N c86_3 (e109 x0 x1 x2) K = (g86_3 (fun y0 => K .normal [(2, .v .bool y0)]) x0 x1 x2) := by
 kernel_rfl
theorem kp86_0 (x0) : keep [1, 2, 3] [(2, .v .bool x0)] = (e110 x0) := by kernel_rfl
theorem kp86_1 (x0 x1 x2) : keep [1, 2, 3] (e109 x0 x1 x2) = [(1, .loc U5 .no x0), (2, .dead), (3, .v U1 x1)] := by kernel_rfl
theorem hb86_0 (x0 x1 x2) : boolOf? (ent (e109 x0 x1 x2) (.t 22)) = some x2 := by kernel_rfl
def g86_5 (k0 : V2 → Int → Int → Option R) (x0 : V2) (x1 : Int) : Option R :=
k0 x0 x1 (0 : Int)
theorem t86_5 (x0 x1) : exec cl N c86_5 [(1, .loc U5 .no x0), (2, .dead), (3, .v U1 x1)] K = (g86_5 (fun y0 y1 y2 => K .normal (e111 y0 y1 y2)) x0 x1) := by
 kernel_rfl
theorem kp86_2 (x0 x1 x2) : keep [1, 3, 4] (e111 x0 x1 x2) = (e111 x0 x1 x2) := by kernel_rfl
def g86_6 (k0 : V2 → Int → Int → Bool → Option R) (x0 : V2) (x1 x2 : Int) : Option R :=
k0 x0 x1 x2 (decide (x2 < x1))
theorem t86_6 (x0 x1 x2) : exec cl N c86_6 (e111 x0 x1 x2) K = (g86_6 (fun y0 y1 y2 y3 => K .normal (e112 y0 y1 y2 y3)) x0 x1 x2) := by
 kernel_rfl
theorem kp86_3 (x0 x1 x2 x3) : keep [1, 3, 4] (e112 x0 x1 x2 x3) = (e111 x0 x1 x2) := by kernel_rfl
theorem hb86_1 (x0 x1 x2 x3) : boolOf? (ent (e112 x0 x1 x2 x3) (.t 25)) = some x3 := by kernel_rfl
def g86_8 (k0 : V2 → Int → Int → Bool → Option R) (x0 : V2) (x1 x2 : Int) : Option R :=
if 0 ≤ x2 ∧ x2 < (x0.1.length : Int) then
brB (decide ((x0.1.getD x2.toNat (0 : Int)) < (0 : Int))) (k0 x0 x1 x2 true) (if 0 ≤ x2 ∧ x2 < (x0.1.length : Int) then
k0 x0 x1 x2 (decide ((x0.1.getD x2.toNat (0 : Int)) ≥ (10000 : Int)))
else none)
else none
theorem t86_8 (x0 x1 x2) : exec cl N c86_8 (e111 x0 x1 x2) K = (g86_8 (fun y0 y1 y2 y3 => K .normal (e113 y0 y1 y2 y3)) x0 x1 x2) := by
 kernel_rfl
def g86_9 (k0 : Bool → Option R) (x0 : V2) (x1 x2 : Int) (x3 : Bool) : Option R :=
k0 false
theorem t86_9 (x0 x1 x2 x3) : exec cl N c86_9 (e113 x0 x1 x2 x3) K = (g86_9 (fun y0 => K .normal [(2, .v .bool y0)]) x0 x1 x2 x3) := by
 kernel_rfl
theorem kp86_4 (x0) : keep [1, 2, 3, 4] [(2, .v .bool x0)] = (e114 x0) := by kernel_rfl
theorem kp86_5 (x0 x1 x2 x3) : keep [1, 2, 3, 4] (e113 x0 x1 x2 x3) = (e115 x0 x1 x2) := by kernel_rfl
theorem hb86_2 (x0 x1 x2 x3) : boolOf? (ent (e113 x0 x1 x2 x3) (.t 41)) = some x3 := by kernel_rfl
theorem kp86_6 (x0) : keep [1, 2, 3, 4] (e114 x0) = (e114 x0) := by kernel_rfl
theorem kp86_7 (x0 x1 x2) : keep [1, 2, 3, 4] (e115 x0 x1 x2) = (e115 x0 x1 x2) := by kernel_rfl
def g86_12 (k0 : V2 → Int → Int → Option R) (x0 : V2) (x1 x2 : Int) : Option R :=
k0 x0 x1 (IntKind.i64.wrap (x2 + (1 : Int)))
theorem t86_12 (x0 x1 x2) : exec cl N c86_12 (e115 x0 x1 x2) K = (g86_12 (fun y0 y1 y2 => K .normal (e111 y0 y1 y2)) x0 x1 x2) := by
 kernel_rfl
def g86_13 (k0 : Bool → Option R) (k1 : V2 → Int → Int → Option R) (k2 : V2 → Int → Int → Option R) (x0 : V2) (x1 x2 : Int) : Option R :=
(g86_6 (fun y0 y1 y2 y3 => brB y3 ((g86_8 (fun y0 y1 y2 y3 => brB y3 (g86_9 k0 y0 y1 y2 y3) (((g86_12 k1)) y0 y1 y2))) y0 y1 y2) (k2 y0 y1 y2)) x0 x1 x2)
theorem t86_13 (x0 x1 x2) : exec cl N c86_13 (e111 x0 x1 x2) K = (g86_13 (fun y0 => K .ret (e114 y0)) (fun y0 y1 y2 => K .normal (e111 y0 y1 y2)) (fun y0 y1 y2 => K (.exit 0) (e111 y0 y1 y2)) x0 x1 x2) := by
 simp only [c86_13, exec_seq, seqK_normal, seqK_exit, seqK_ret, t86_6, c86_7, exec_out, exec_cond', hb86_1, Option.bind_some, brB_true, brB_false, exec_skip, exec_exit, kp86_3, c86_11, exec_block, t86_8, c86_10, hb86_2, t86_9, exec_ret, kp86_4, kp86_5, blockK_normal, blockK_ret, blockK_eq, kp86_6, kp86_7, t86_12]
 rfl
def l86_14 {R : Type} (k0 : Bool → Option R) (k1 : V2 → Int → Int → Option R) : Nat → V2 → Int → Int → Option R
 | 0, _, _, _ => none
 | m + 1, x0, x1, x2 => (g86_13 k0 (l86_14 k0 k1 m) k1 x0 x1 x2)
theorem lt86_14 : ∀ (m) (x0 x1 x2), iter [1, 3, 4] (fun env K => exec cl N c86_13 env K) K m (e111 x0 x1 x2) = l86_14 (fun y0 => K .ret (e114 y0)) (fun y0 y1 y2 => K (.exit 0) (e111 y0 y1 y2)) m x0 x1 x2 := by
 intro m
 induction m with
 | zero => intros; rfl
 | succ m ih =>
   intro x0 x1 x2
   simp only [iter_succ, t86_13, loopK_normal, loopK_exit, loopK_ret, kp86_2, ih]
   rfl
theorem kp86_8 (x0) : keep [2] (e114 x0) = [(2, .v .bool x0)] := by kernel_rfl
theorem kp86_9 (x0 x1 x2) : keep [2] (e111 x0 x1 x2) = [(2, .dead)] := by kernel_rfl
def g86_14 (N : Nat) (k0 : Bool → Option R) (k1 : Option R) (x0 : V2) (x1 x2 : Int) : Option R :=
l86_14 k0 (fun y0 y1 y2 => k1) N x0 x1 x2
theorem t86_14 (x0 x1 x2) : exec cl N c86_14 (e111 x0 x1 x2) K = (g86_14 N (fun y0 => K .ret [(2, .v .bool y0)]) (K (.exit 0) [(2, .dead)]) x0 x1 x2) := by
 simp only [c86_14, exec_out, exec_loop, kp86_2, lt86_14, kp86_8, kp86_9]
 rfl
theorem kp86_10 (x0) : keep [2] [(2, .v .bool x0)] = [(2, .v .bool x0)] := by kernel_rfl
theorem kp86_11 : keep [2] [(2, .dead)] = [(2, .dead)] := by kernel_rfl
def g86_16 (k0 : Bool → Option R) : Option R :=
k0 true
theorem t86_16 : exec cl N c86_16 [(2, .dead)] K = (g86_16 (fun y0 => K .normal [(2, .v .bool y0)])) := by
 kernel_rfl
def g86_17b (N : Nat) (k0 : Bool → Option R) (k1 : Bool → Option R) (x0 : V2) : Option R :=
(g86_17 (g86_2 (fun y0 y1 y2 => brB y2 (g86_3 k0 y0 y1 y2) ((g86_5 (g86_14 N k1 (g86_16 k1))) y0 y1))) x0)
theorem t86_17b (x0) : exec cl N c86_17 [(0, .v U5 x0)] K = (g86_17b N (fun y0 => K .ret (e110 y0)) (fun y0 => K .ret [(2, .v .bool y0)]) x0) := by
 simp only [exec_seq, seqK_normal, seqK_exit, seqK_ret, t86_17, t86_2, c86_4, exec_out, exec_cond', hb86_0, Option.bind_some, brB_true, brB_false, t86_3, exec_ret, exec_skip, kp86_0, kp86_1, t86_5, c86_15, exec_block, t86_14, blockK_normal, blockK_ret, blockK_eq, kp86_10, kp86_11, t86_16]
 rfl
theorem rk86_0 (y0) : retK d86 .ret (e110 y0) = some [.v .bool y0] := by kernel_rfl
theorem rk86_1 (y0) : retK d86 .ret [(2, .v .bool y0)] = some [.v .bool y0] := by kernel_rfl
def g86 (N : Nat) (x0 : V2) (k : Bool → Option R) : Option R :=
(g86_17b N k k x0)
theorem gen86 (x0) (k : List E → Option R) : exec cl N c86 [(0, .v U5 x0)] (fun e env => (retK d86 e env).bind k) = g86 N x0 (fun r0 => k [.v .bool r0]) := by
 simp only [c86, t86_17b, rk86_0, rk86_1, Option.bind_some]
 rfl
def ctr86 (S : V2 → Option (Bool)) : Ctr := cv1 86 U5 S fun b => [.v .bool b]
def S86 (N : Nat) (x0 : V2) : Option (Bool) := g86 N x0 (fun (r0 : Bool) => some (r0))
def g56_2 (k0 : Bool → Option R) (x0 : V2) : Option R :=
k0 ((x0.1.length : Int) == (0 : Int))
theorem t56_2 (x0) : exec cl N c56_2 [(0, .v U5 x0)] K = (g56_2 (fun y0 => exec cl N .ret [(2, .v .bool y0)] K) x0) := by
 kernel_rfl
def g56_2b (k0 : Bool → Option R) (x0 : V2) : Option R :=
(g56_2 k0 x0)
theorem t56_2b (x0) : exec cl N c56_2 [(0, .v U5 x0)] K = (g56_2b (fun y0 => K .ret [(2, .v .bool y0)]) x0) := by
 simp only [exec_seq, seqK_normal, seqK_exit, seqK_ret, t56_2, exec_ret]
 rfl
theorem rk56_0 (y0) : retK d56 .ret [(2, .v .bool y0)] = some [.v .bool y0] := by kernel_rfl
def g56 (x0 : V2) (k : Bool → Option R) : Option R :=
(g56_2b k x0)
theorem gen56 (x0) (k : List E → Option R) : exec cl N c56 [(0, .v U5 x0)] (fun e env => (retK d56 e env).bind k) = g56 x0 (fun r0 => k [.v .bool r0]) := by
 simp only [c56, t56_2b, rk56_0, Option.bind_some]
 rfl
def ctr56 (S : V2 → Option (Bool)) : Ctr := cv1 56 U5 S fun b => [.v .bool b]
def S56 (N : Nat) (x0 : V2) : Option (Bool) := g56 x0 (fun (r0 : Bool) => some (r0))
def g108_2 (k0 : Bool → Option R) (x0 : V0) : Option R :=
brB ((x0.length : Int) == (0 : Int)) (k0 true) (if 0 ≤ (0 : Int) ∧ (0 : Int) < (x0.length : Int) then
k0 ((Int.tmod (x0.getD (0 : Int).toNat (0 : Int)) (2 : Int)) == (0 : Int))
else none)
theorem t108_2 (x0) : exec cl N c108_2 [(0, .v U2 x0)] K = (g108_2 (fun y0 => exec cl N .ret [(2, .v .bool y0)] K) x0) := by
 kernel_rfl
def g108_2b (k0 : Bool → Option R) (x0 : V0) : Option R :=
(g108_2 k0 x0)
theorem t108_2b (x0) : exec cl N c108_2 [(0, .v U2 x0)] K = (g108_2b (fun y0 => K .ret [(2, .v .bool y0)]) x0) := by
 simp only [exec_seq, seqK_normal, seqK_exit, seqK_ret, t108_2, exec_ret]
 rfl
theorem rk108_0 (y0) : retK d108 .ret [(2, .v .bool y0)] = some [.v .bool y0] := by kernel_rfl
def g108 (x0 : V0) (k : Bool → Option R) : Option R :=
(g108_2b k x0)
theorem gen108 (x0) (k : List E → Option R) : exec cl N c108 [(0, .v U2 x0)] (fun e env => (retK d108 e env).bind k) = g108 x0 (fun r0 => k [.v .bool r0]) := by
 simp only [c108, t108_2b, rk108_0, Option.bind_some]
 rfl
def ctr108 (S : V0 → Option (Bool)) : Ctr := cv1 108 U2 S fun b => [.v .bool b]
def S108 (N : Nat) (x0 : V0) : Option (Bool) := g108 x0 (fun (r0 : Bool) => some (r0))
end Go.Fw.L51
