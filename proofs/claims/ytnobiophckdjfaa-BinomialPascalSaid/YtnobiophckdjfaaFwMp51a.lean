/- Printed by an own program for this claim: the machine's code of functions, or their typed forms with their equations; no conditions. -/
import Derived.Test.YtnobiophckdjfaaFwYp51
import Derived.Test.YtnobiophckdjfaaFwB4
set_option linter.unusedVariables false
set_option linter.unusedSimpArgs false
namespace Go.Fw.L51
open Go Go.Fw
set_option maxRecDepth 100000
set_option linter.unusedVariables false
set_option linter.unusedSimpArgs false
abbrev cv1 (f : FuncId) (T0 : Ty) {B : Type} (S : den T0 → Option B) (ent : B → List E) : Ctr := { A := den T0 × Unit, B := B, f := f, enc := fun a => [.v T0 a.1], dec := (decC (decV T0) dec0), S := fun a => S a.1, ent := ent, ok := (decV_cons (T := T0) (fun es b h => dec0_some h)) }
abbrev cv2 (f : FuncId) (T0 T1 : Ty) {B : Type} (S : den T0 → den T1 → Option B) (ent : B → List E) : Ctr := { A := den T0 × den T1 × Unit, B := B, f := f, enc := fun a => [.v T0 a.1, .v T1 a.2.1], dec := (decC (decV T0) (decC (decV T1) dec0)), S := fun a => S a.1 a.2.1, ent := ent, ok := (decV_cons (T := T0) (decV_cons (T := T1) (fun es b h => dec0_some h))) }
abbrev cv3 (f : FuncId) (T0 T1 T2 : Ty) {B : Type} (S : den T0 → den T1 → den T2 → Option B) (ent : B → List E) : Ctr := { A := den T0 × den T1 × den T2 × Unit, B := B, f := f, enc := fun a => [.v T0 a.1, .v T1 a.2.1, .v T2 a.2.2.1], dec := (decC (decV T0) (decC (decV T1) (decC (decV T2) dec0))), S := fun a => S a.1 a.2.1 a.2.2.1, ent := ent, ok := (decV_cons (T := T0) (decV_cons (T := T1) (decV_cons (T := T2) (fun es b h => dec0_some h)))) }
abbrev cv4 (f : FuncId) (T0 T1 T2 T3 : Ty) {B : Type} (S : den T0 → den T1 → den T2 → den T3 → Option B) (ent : B → List E) : Ctr := { A := den T0 × den T1 × den T2 × den T3 × Unit, B := B, f := f, enc := fun a => [.v T0 a.1, .v T1 a.2.1, .v T2 a.2.2.1, .v T3 a.2.2.2.1], dec := (decC (decV T0) (decC (decV T1) (decC (decV T2) (decC (decV T3) dec0)))), S := fun a => S a.1 a.2.1 a.2.2.1 a.2.2.2.1, ent := ent, ok := (decV_cons (T := T0) (decV_cons (T := T1) (decV_cons (T := T2) (decV_cons (T := T3) (fun es b h => dec0_some h))))) }
abbrev cv5 (f : FuncId) (T0 T1 T2 T3 T4 : Ty) {B : Type} (S : den T0 → den T1 → den T2 → den T3 → den T4 → Option B) (ent : B → List E) : Ctr := { A := den T0 × den T1 × den T2 × den T3 × den T4 × Unit, B := B, f := f, enc := fun a => [.v T0 a.1, .v T1 a.2.1, .v T2 a.2.2.1, .v T3 a.2.2.2.1, .v T4 a.2.2.2.2.1], dec := (decC (decV T0) (decC (decV T1) (decC (decV T2) (decC (decV T3) (decC (decV T4) dec0))))), S := fun a => S a.1 a.2.1 a.2.2.1 a.2.2.2.1 a.2.2.2.2.1, ent := ent, ok := (decV_cons (T := T0) (decV_cons (T := T1) (decV_cons (T := T2) (decV_cons (T := T3) (decV_cons (T := T4) (fun es b h => dec0_some h)))))) }
abbrev e0 := fun x0 x1 => ([(0, .v U1 x0), (2, .loc U5 (.pair (.own true 3 .no) .no) x1)] : Env)
abbrev e1 := fun x0 x1 x2 => ([(0, .v U1 x0), (2, .loc U5 (.pair (.own true 3 .no) .no) x1), (6, .v .bool x2)] : Env)
abbrev e2 := fun x0 x1 => ([(2, .loc U5 (.pair (.own true 3 .no) .no) x0), (3, .v U1 x1)] : Env)
abbrev e3 := fun x0 x1 => ([(0, .dead), (2, .loc U5 (.pair (.own true 3 .no) .no) x0), (3, .v U1 x1)] : Env)
abbrev e4 := fun x0 x1 => ([(0, .v U1 x0), (2, .loc U5 (.pair (.own true 3 .no) .no) x1), (3, .dead)] : Env)
abbrev e5 := fun x0 x1 x2 => ([(0, .v U1 x0), (2, .loc U5 (.pair (.own true 3 .no) .no) x1), (4, .own true 3 U1 .no x2)] : Env)
abbrev e6 := fun x0 x1 x2 x3 => ([(0, .v U1 x0), (2, .loc U5 (.pair (.own true 3 .no) .no) x1), (4, .own true 3 U1 .no x2), (9, .v .bool x3)] : Env)
abbrev e7 := fun x0 x1 => ([(2, .loc U5 (.pair (.own true 3 .no) .no) x0), (4, .own true 3 U1 .no x1)] : Env)
abbrev e8 := fun x0 x1 => ([(2, .loc U5 .no x0), (3, .v U1 x1)] : Env)
abbrev e9 := fun x0 x1 x2 => ([(1, .loc U5 .no x0), (3, .v U1 x1), (22, .v .bool x2)] : Env)
abbrev e10 := fun x0 => ([(1, .dead), (2, .v .bool x0), (3, .dead)] : Env)
abbrev e11 := fun x0 x1 x2 => ([(1, .loc U5 .no x0), (3, .v U1 x1), (4, .v U1 x2)] : Env)
abbrev e12 := fun x0 x1 x2 x3 => ([(1, .loc U5 .no x0), (3, .v U1 x1), (4, .v U1 x2), (25, .v .bool x3)] : Env)
abbrev e13 := fun x0 x1 x2 x3 => ([(1, .loc U5 .no x0), (3, .v U1 x1), (4, .v U1 x2), (41, .v .bool x3)] : Env)
abbrev e14 := fun x0 => ([(1, .dead), (2, .v .bool x0), (3, .dead), (4, .dead)] : Env)
abbrev e15 := fun x0 x1 x2 => ([(1, .loc U5 .no x0), (2, .dead), (3, .v U1 x1), (4, .v U1 x2)] : Env)
abbrev e16 := fun x0 x1 => ([(0, .v U2 x0), (14, .v .bool x1)] : Env)
abbrev e17 := fun x0 x1 x2 x3 => ([(0, .v U2 x0), (3, .own true 3 U1 .no x1), (4, .v U1 x2), (5, .v U1 x3)] : Env)
abbrev e18 := fun x0 x1 x2 x3 x4 => ([(0, .v U2 x0), (3, .own true 3 U1 .no x1), (4, .v U1 x2), (5, .v U1 x3), (14, .v .bool x4)] : Env)
abbrev e19 := fun x0 => ([(3, .own true 3 U1 .no x0)] : Env)
abbrev e20 := fun x0 x1 => ([(0, .v U2 x0), (1, .v U2 x1)] : Env)
abbrev e21 := fun x0 x1 x2 => ([(0, .v U2 x0), (1, .v U2 x1), (10, .v .bool x2)] : Env)
abbrev e22 := fun x0 => ([(0, .dead), (1, .dead), (4, .v U1 x0)] : Env)
abbrev e23 := fun x0 x1 => ([(0, .v U2 x0), (1, .v U2 x1), (4, .dead)] : Env)
abbrev e24 := fun x0 x1 x2 => ([(0, .v U2 x0), (1, .v U2 x1), (15, .v .bool x2)] : Env)
abbrev e25 := fun x0 x1 x2 => ([(0, .v U2 x0), (1, .v U2 x1), (5, .v U1 x2)] : Env)
abbrev e26 := fun x0 x1 x2 x3 => ([(0, .v U2 x0), (1, .v U2 x1), (5, .v U1 x2), (20, .v .bool x3)] : Env)
abbrev e27 := fun x0 x1 x2 x3 => ([(0, .v U2 x0), (1, .v U2 x1), (5, .v U1 x2), (31, .v .bool x3)] : Env)
abbrev e28 := fun x0 => ([(0, .dead), (1, .dead), (4, .v U1 x0), (5, .dead)] : Env)
abbrev e29 := fun x0 x1 x2 => ([(0, .v U2 x0), (1, .v U2 x1), (4, .dead), (5, .v U1 x2)] : Env)
abbrev e30 := fun x0 x1 x2 x3 => ([(0, .v U2 x0), (1, .v U2 x1), (5, .v U1 x2), (40, .v .bool x3)] : Env)
abbrev e31 := fun x0 x1 => ([(0, .v U2 x0), (1, .v U1 x1)] : Env)
abbrev e32 := fun x0 x1 x2 => ([(0, .v U2 x0), (1, .v U1 x1), (8, .v .bool x2)] : Env)
abbrev e33 := fun x0 x1 x2 x3 => ([(0, .v U2 x0), (1, .v U2 x1), (5, .own true 3 U1 .no x2), (6, .v U1 x3)] : Env)
abbrev e34 := fun x0 x1 x2 x3 x4 => ([(0, .v U2 x0), (1, .v U2 x1), (5, .own true 3 U1 .no x2), (6, .v U1 x3), (7, .v U1 x4)] : Env)
abbrev e35 := fun x0 x1 x2 x3 x4 x5 => ([(0, .v U2 x0), (1, .v U2 x1), (5, .own true 3 U1 .no x2), (6, .v U1 x3), (7, .v U1 x4), (12, .v .bool x5)] : Env)
abbrev e36 := fun x0 x1 x2 x3 x4 x5 => ([(0, .v U2 x0), (1, .v U2 x1), (5, .own true 3 U1 .no x2), (6, .v U1 x3), (7, .v U1 x4), (8, .v U1 x5)] : Env)
abbrev e37 := fun x0 x1 x2 x3 x4 x5 x6 => ([(0, .v U2 x0), (1, .v U2 x1), (5, .own true 3 U1 .no x2), (6, .v U1 x3), (7, .v U1 x4), (8, .v U1 x5), (26, .v .bool x6)] : Env)
abbrev e38 := fun x0 => ([(5, .own true 3 U1 .no x0)] : Env)
abbrev e39 := fun x0 x1 x2 x3 x4 x5 => ([(0, .v U2 x0), (1, .v U2 x1), (5, .own true 3 U1 .no x2), (6, .v U1 x3), (7, .v U1 x4), (18, .v .bool x5)] : Env)
abbrev e40 := fun x0 x1 => ([(5, .own true 3 U1 .no x0), (6, .v U1 x1)] : Env)
abbrev e41 := fun x0 x1 => ([(0, .v U5 x0), (1, .v U5 x1)] : Env)
abbrev e42 := fun x0 x1 x2 => ([(2, .loc U5 .no x0), (3, .loc U5 .no x1), (4, .loc U5 (.pair (.own true 3 .no) .no) x2)] : Env)
abbrev e43 := fun x0 x1 x2 x3 => ([(2, .loc U5 .no x0), (3, .loc U5 .no x1), (4, .loc U5 (.pair (.own true 3 .no) .no) x2), (18, .v .bool x3)] : Env)
abbrev e44 := fun x0 x1 => ([(4, .loc U5 (.pair (.own true 3 .no) .no) x0), (5, .v U1 x1)] : Env)
abbrev e45 := fun x0 x1 => ([(2, .dead), (3, .dead), (4, .loc U5 (.pair (.own true 3 .no) .no) x0), (5, .v U1 x1)] : Env)
abbrev e46 := fun x0 x1 x2 => ([(2, .loc U5 .no x0), (3, .loc U5 .no x1), (4, .loc U5 (.pair (.own true 3 .no) .no) x2), (5, .dead)] : Env)
abbrev e47 := fun x0 x1 x2 => ([(4, .loc U5 (.pair (.own true 3 .no) .no) x0), (6, .v U2 x1), (7, .v U2 x2)] : Env)
abbrev e48 := fun x0 x1 x2 x3 => ([(4, .loc U5 (.pair (.own true 3 .no) .no) x0), (6, .v U2 x1), (7, .v U2 x2), (26, .v .bool x3)] : Env)
abbrev e49 := fun x0 x1 => ([(4, .loc U5 .no x0), (5, .v U1 x1)] : Env)
abbrev e50 := fun x0 x1 => ([(4, .loc U5 .no x0), (5, .v U1 x1), (6, .dead), (7, .dead)] : Env)
abbrev e51 := fun x0 x1 x2 => ([(4, .loc U5 (.pair (.own true 3 .no) .no) x0), (5, .dead), (6, .v U2 x1), (7, .v U2 x2)] : Env)
abbrev e52 := fun x0 x1 x2 x3 => ([(4, .loc U5 (.pair (.own true 3 .no) .no) x0), (6, .v U2 x1), (7, .v U2 x2), (8, .v U1 x3)] : Env)
abbrev e53 := fun x0 x1 x2 x3 x4 => ([(4, .loc U5 (.pair (.own true 3 .no) .no) x0), (6, .v U2 x1), (7, .v U2 x2), (8, .v U1 x3), (33, .v .bool x4)] : Env)
abbrev e54 := fun x0 x1 x2 x3 x4 => ([(4, .loc U5 (.pair (.own true 3 .no) .no) x0), (6, .v U2 x1), (7, .v U2 x2), (8, .v U1 x3), (37, .v .bool x4)] : Env)
abbrev e55 := fun x0 x1 x2 x3 x4 => ([(4, .loc U5 (.pair (.own true 3 .no) .no) x0), (6, .v U2 x1), (7, .v U2 x2), (8, .v U1 x3), (50, .v .bool x4)] : Env)
abbrev e56 := fun x0 x1 x2 x3 x4 => ([(4, .loc U5 (.pair (.own true 3 .no) .no) x0), (6, .v U2 x1), (7, .v U2 x2), (8, .v U1 x3), (55, .v .bool x4)] : Env)
abbrev e57 := fun x0 x1 x2 x3 x4 => ([(4, .loc U5 (.pair (.own true 3 .no) .no) x0), (6, .v U2 x1), (7, .v U2 x2), (8, .v U1 x3), (60, .v .bool x4)] : Env)
abbrev e58 := fun x0 x1 x2 => ([(4, .loc U5 (.pair (.own true 3 .no) .no) x0), (6, .v U2 x1), (8, .v U1 x2)] : Env)
abbrev e59 := fun x0 x1 x2 => ([(4, .loc U5 (.pair (.own true 3 .no) .no) x0), (8, .v U1 x1), (9, .v U2 x2)] : Env)
abbrev e60 := fun x0 x1 x2 x3 => ([(4, .loc U5 (.pair (.own true 3 .no) .no) x0), (8, .v U1 x1), (9, .v U2 x2), (10, .v U1 x3)] : Env)
abbrev e61 := fun x0 x1 x2 x3 x4 => ([(4, .loc U5 (.pair (.own true 3 .no) .no) x0), (8, .v U1 x1), (9, .v U2 x2), (10, .v U1 x3), (74, .v .bool x4)] : Env)
abbrev e62 := fun x0 x1 => ([(4, .loc U5 (.pair (.own true 3 .no) .no) x0), (9, .v U2 x1)] : Env)
abbrev e63 := fun x0 x1 x2 => ([(0, .v U2 x0), (1, .v U2 x1), (5, .own true 3 U1 .no x2)] : Env)
abbrev e64 := fun x0 x1 x2 x3 x4 => ([(0, .v U2 x0), (1, .v U2 x1), (5, .own true 3 U1 .no x2), (6, .v U1 x3), (20, .v .bool x4)] : Env)
abbrev e65 := fun x0 x1 x2 x3 x4 x5 x6 => ([(0, .v U2 x0), (1, .v U2 x1), (5, .own true 3 U1 .no x2), (6, .v U1 x3), (7, .v U1 x4), (8, .v U1 x5), (30, .v .bool x6)] : Env)
abbrev e66 := fun x0 x1 x2 x3 => ([(0, .v U2 x0), (1, .v U2 x1), (6, .own true 3 U1 .no x2), (7, .v U2 x3)] : Env)
abbrev e67 := fun x0 x1 x2 x3 x4 => ([(0, .v U2 x0), (1, .v U2 x1), (6, .own true 3 U1 .no x2), (7, .v U2 x3), (8, .v U1 x4)] : Env)
abbrev e68 := fun x0 x1 x2 x3 x4 x5 => ([(0, .v U2 x0), (1, .v U2 x1), (6, .own true 3 U1 .no x2), (7, .v U2 x3), (8, .v U1 x4), (19, .v .bool x5)] : Env)
abbrev e69 := fun x0 x1 x2 x3 x4 x5 x6 => ([(0, .v U2 x0), (1, .v U2 x1), (6, .own true 3 U1 .no x2), (7, .v U2 x3), (8, .v U1 x4), (9, .v U1 x5), (10, .v U1 x6)] : Env)
abbrev e70 := fun x0 x1 x2 x3 x4 x5 x6 x7 => ([(0, .v U2 x0), (1, .v U2 x1), (6, .own true 3 U1 .no x2), (7, .v U2 x3), (8, .v U1 x4), (9, .v U1 x5), (10, .v U1 x6), (32, .v .bool x7)] : Env)
abbrev e71 := fun x0 x1 x2 x3 x4 x5 x6 x7 x8 => ([(0, .v U2 x0), (1, .v U2 x1), (6, .own true 3 U1 .no x2), (7, .v U2 x3), (8, .v U1 x4), (9, .v U1 x5), (10, .v U1 x6), (11, .v U1 x7), (44, .v .bool x8)] : Env)
abbrev e72 := fun x0 x1 x2 x3 x4 x5 => ([(0, .v U2 x0), (1, .v U2 x1), (6, .own true 3 U1 .no x2), (7, .v U2 x3), (8, .v U1 x4), (9, .v U1 x5)] : Env)
abbrev e73 := fun x0 x1 => ([(6, .own true 3 U1 .no x0), (7, .v U2 x1)] : Env)
abbrev e74 := fun x0 x1 => ([(4, .v U2 x0), (5, .v U2 x1)] : Env)
abbrev e75 := fun x0 x1 x2 x3 => ([(2, .loc U5 .no x0), (3, .loc U5 .no x1), (4, .loc U5 (.pair (.own true 3 .no) .no) x2), (5, .loc U5 (.pair (.own true 3 .no) .no) x3)] : Env)
abbrev e76 := fun x0 x1 x2 x3 x4 => ([(2, .loc U5 .no x0), (3, .loc U5 .no x1), (4, .loc U5 (.pair (.own true 3 .no) .no) x2), (5, .loc U5 (.pair (.own true 3 .no) .no) x3), (16, .v .bool x4)] : Env)
abbrev e77 := fun x0 x1 x2 => ([(4, .loc U5 (.pair (.own true 3 .no) .no) x0), (5, .loc U5 (.pair (.own true 3 .no) .no) x1), (6, .v U1 x2)] : Env)
abbrev e78 := fun x0 x1 x2 => ([(2, .dead), (3, .dead), (4, .loc U5 (.pair (.own true 3 .no) .no) x0), (5, .loc U5 (.pair (.own true 3 .no) .no) x1), (6, .v U1 x2)] : Env)
abbrev e79 := fun x0 x1 x2 x3 => ([(2, .loc U5 .no x0), (3, .loc U5 .no x1), (4, .loc U5 (.pair (.own true 3 .no) .no) x2), (5, .loc U5 (.pair (.own true 3 .no) .no) x3), (6, .dead)] : Env)
abbrev e80 := fun x0 x1 x2 x3 x4 => ([(2, .loc U5 .no x0), (3, .loc U5 .no x1), (4, .loc U5 (.pair (.own true 3 .no) .no) x2), (5, .loc U5 (.pair (.own true 3 .no) .no) x3), (22, .v .bool x4)] : Env)
abbrev e81 := fun x0 x1 x2 => ([(4, .loc U5 .no x0), (5, .loc U5 .no x1), (6, .v U1 x2)] : Env)
abbrev e82 := fun x0 x1 x2 => ([(0, .v .bool x0), (1, .v U5 x1), (2, .v U5 x2)] : Env)
abbrev e83 := fun x0 x1 => ([(0, .v U1 x0), (1, .v U1 x1)] : Env)
abbrev e84 := fun x0 x1 x2 => ([(0, .v U1 x0), (1, .v U1 x1), (4, .loc U12 (.pair .no (.pair (.pair (.own true 3 .no) .no) (.pair (.pair (.own true 3 .no) .no) .no))) x2)] : Env)
abbrev e85 := fun x0 x1 x2 x3 => ([(0, .v U1 x0), (1, .v U1 x1), (4, .loc U12 (.pair .no (.pair (.pair (.own true 3 .no) .no) (.pair (.pair (.own true 3 .no) .no) .no))) x2), (8, .v .bool x3)] : Env)
abbrev e86 := fun x0 x1 => ([(4, .loc U12 .no x0), (5, .v U1 x1)] : Env)
abbrev e87 := fun x0 x1 => ([(0, .dead), (1, .dead), (4, .loc U12 .no x0), (5, .v U1 x1)] : Env)
abbrev e88 := fun x0 x1 x2 => ([(0, .v U1 x0), (1, .v U1 x1), (4, .loc U12 (.pair .no (.pair (.pair (.own true 3 .no) .no) (.pair (.pair (.own true 3 .no) .no) .no))) x2), (5, .dead)] : Env)
abbrev e89 := fun x0 x1 x2 x3 => ([(0, .v U1 x0), (1, .v U1 x1), (4, .loc U12 (.pair .no (.pair (.pair (.own true 3 .no) .no) (.pair (.pair (.own true 3 .no) .no) .no))) x2), (23, .v .bool x3)] : Env)
abbrev e90 := fun x0 x1 x2 x3 => ([(0, .v U1 x0), (1, .v U1 x1), (4, .loc U12 (.pair .no (.pair (.pair (.own true 3 .no) .no) (.pair (.pair (.own true 3 .no) .no) .no))) x2), (6, .v .bool x3)] : Env)
abbrev e91 := fun x0 x1 x2 x3 x4 => ([(0, .v U1 x0), (1, .v U1 x1), (4, .loc U12 (.pair .no (.pair (.pair (.own true 3 .no) .no) (.pair (.pair (.own true 3 .no) .no) .no))) x2), (6, .v .bool x3), (31, .v .bool x4)] : Env)
abbrev e92 := fun x0 x1 x2 x3 x4 => ([(0, .v U1 x0), (1, .v U1 x1), (4, .loc U12 (.pair .no (.pair (.pair (.own true 3 .no) .no) (.pair (.pair (.own true 3 .no) .no) .no))) x2), (6, .v .bool x3), (35, .v .bool x4)] : Env)
abbrev e93 := fun x0 x1 => ([(1, .loc U12 .no x0), (28, .v .bool x1)] : Env)
abbrev e94 := fun x0 => ([(1, .dead), (2, .v .bool x0)] : Env)
abbrev e95 := fun x0 => ([(1, .loc U12 .no x0), (2, .dead)] : Env)
abbrev e96 := fun x0 x1 => ([(1, .loc U12 .no x0), (2, .loc U12 (.pair .no (.pair (.pair (.own true 3 .no) .no) (.pair (.pair (.own true 3 .no) .no) .no))) x1)] : Env)
abbrev e97 := fun x0 x1 => ([(0, .v U2 x0), (2, .loc U5 (.pair (.own true 3 .no) .no) x1)] : Env)
abbrev e98 := fun x0 x1 x2 => ([(0, .v U2 x0), (2, .loc U5 (.pair (.own true 3 .no) .no) x1), (6, .v .bool x2)] : Env)
abbrev e99 := fun x0 x1 => ([(0, .v U2 x0), (2, .loc U5 (.pair (.own true 3 .no) .no) x1), (3, .dead)] : Env)
abbrev e100 := fun x0 x1 x2 x3 => ([(2, .loc U5 .no x0), (3, .loc U5 .no x1), (4, .loc U5 (.pair (.own true 3 .no) .no) x2), (13, .v .bool x3)] : Env)
abbrev e101 := fun x0 x1 x2 x3 => ([(0, .v U5 x0), (1, .v U5 x1), (2, .v U5 x2), (3, .v U5 x3)] : Env)
abbrev e102 := fun x0 x1 x2 x3 x4 x5 => ([(6, .loc U5 .no x0), (7, .loc U5 .no x1), (8, .loc U5 .no x2), (9, .loc U5 .no x3), (11, .loc U5 .no x4), (12, .v U1 x5)] : Env)
abbrev e103 := fun x0 x1 x2 x3 x4 x5 x6 => ([(6, .loc U5 .no x0), (7, .loc U5 .no x1), (8, .loc U5 .no x2), (9, .loc U5 .no x3), (11, .loc U5 .no x4), (12, .v U1 x5), (21, .v .bool x6)] : Env)
abbrev e104 := fun x0 x1 x2 => ([(8, .loc U5 .no x0), (9, .loc U5 .no x1), (10, .v U1 x2)] : Env)
abbrev e105 := fun x0 x1 x2 => ([(6, .dead), (7, .dead), (8, .loc U5 .no x0), (9, .loc U5 .no x1), (10, .v U1 x2), (11, .dead)] : Env)
abbrev e106 := fun x0 x1 x2 x3 x4 => ([(6, .loc U5 .no x0), (7, .loc U5 .no x1), (8, .loc U5 .no x2), (9, .loc U5 .no x3), (10, .dead), (11, .loc U5 .no x4)] : Env)
abbrev e107 := fun x0 x1 => ([(0, .v U12 x0), (1, .v U12 x1)] : Env)
abbrev e108 := fun x0 x1 x2 => ([(2, .loc U12 .no x0), (3, .loc U12 .no x1), (4, .loc U12 (.pair .no (.pair (.pair (.own true 3 .no) .no) (.pair (.pair (.own true 3 .no) .no) .no))) x2)] : Env)
abbrev e109 := fun x0 x1 x2 x3 => ([(2, .loc U12 .no x0), (3, .loc U12 .no x1), (4, .loc U12 (.pair .no (.pair (.pair (.own true 3 .no) .no) (.pair (.pair (.own true 3 .no) .no) .no))) x2), (23, .v .bool x3)] : Env)
abbrev e110 := fun x0 x1 => ([(2, .dead), (3, .dead), (4, .loc U12 .no x0), (5, .v U1 x1)] : Env)
abbrev e111 := fun x0 x1 x2 => ([(2, .loc U12 .no x0), (3, .loc U12 .no x1), (4, .loc U12 (.pair .no (.pair (.pair (.own true 3 .no) .no) (.pair (.pair (.own true 3 .no) .no) .no))) x2), (5, .dead)] : Env)
abbrev e112 := fun x0 x1 x2 x3 x4 x5 => ([(2, .loc U12 .no x0), (3, .loc U12 .no x1), (4, .loc U12 (.pair .no (.pair (.pair (.own true 3 .no) .no) (.pair (.pair (.own true 3 .no) .no) .no))) x2), (6, .loc U5 .no x3), (7, .loc U5 .no x4), (8, .v U1 x5)] : Env)
abbrev e113 := fun x0 x1 x2 x3 x4 x5 x6 => ([(2, .loc U12 .no x0), (3, .loc U12 .no x1), (4, .loc U12 (.pair .no (.pair (.pair (.own true 3 .no) .no) (.pair (.pair (.own true 3 .no) .no) .no))) x2), (6, .loc U5 .no x3), (7, .loc U5 .no x4), (8, .v U1 x5), (39, .v .bool x6)] : Env)
abbrev e114 := fun x0 x1 => ([(2, .dead), (3, .dead), (4, .loc U12 .no x0), (5, .v U1 x1), (6, .dead), (7, .dead)] : Env)
abbrev e115 := fun x0 x1 x2 x3 x4 => ([(2, .loc U12 .no x0), (3, .loc U12 .no x1), (4, .loc U12 (.pair .no (.pair (.pair (.own true 3 .no) .no) (.pair (.pair (.own true 3 .no) .no) .no))) x2), (5, .dead), (6, .loc U5 .no x3), (7, .loc U5 .no x4)] : Env)
abbrev e116 := fun x0 x1 x2 x3 x4 x5 x6 => ([(2, .loc U12 .no x0), (3, .loc U12 .no x1), (4, .loc U12 (.pair .no (.pair (.pair (.own true 3 .no) .no) (.pair (.pair (.own true 3 .no) .no) .no))) x2), (6, .loc U5 .no x3), (7, .loc U5 .no x4), (8, .v U1 x5), (9, .loc U5 .no x6)] : Env)
abbrev e117 := fun x0 x1 x2 x3 x4 x5 x6 x7 => ([(2, .loc U12 .no x0), (3, .loc U12 .no x1), (4, .loc U12 (.pair .no (.pair (.pair (.own true 3 .no) .no) (.pair (.pair (.own true 3 .no) .no) .no))) x2), (6, .loc U5 .no x3), (7, .loc U5 .no x4), (8, .v U1 x5), (9, .loc U5 .no x6), (51, .v .bool x7)] : Env)
abbrev e118 := fun x0 x1 => ([(2, .dead), (3, .dead), (4, .loc U12 .no x0), (5, .v U1 x1), (6, .dead), (7, .dead), (9, .dead)] : Env)
abbrev e119 := fun x0 x1 x2 x3 x4 x5 => ([(2, .loc U12 .no x0), (3, .loc U12 .no x1), (4, .loc U12 (.pair .no (.pair (.pair (.own true 3 .no) .no) (.pair (.pair (.own true 3 .no) .no) .no))) x2), (5, .dead), (6, .loc U5 .no x3), (7, .loc U5 .no x4), (9, .loc U5 .no x5)] : Env)
abbrev e120 := fun x0 x1 x2 x3 x4 x5 x6 => ([(2, .loc U12 .no x0), (3, .loc U12 .no x1), (4, .loc U12 (.pair .no (.pair (.pair (.own true 3 .no) .no) (.pair (.pair (.own true 3 .no) .no) .no))) x2), (6, .loc U5 .no x3), (7, .loc U5 .no x4), (9, .loc U5 .no x5), (58, .v .bool x6)] : Env)
abbrev e121 := fun x0 x1 x2 x3 x4 => ([(2, .loc U12 .no x0), (4, .loc U12 (.pair .no (.pair (.pair (.own true 3 .no) .no) (.pair (.pair (.own true 3 .no) .no) .no))) x1), (9, .loc U5 .no x2), (10, .loc U5 .no x3), (11, .v U1 x4)] : Env)
abbrev e122 := fun x0 x1 x2 x3 x4 x5 => ([(2, .loc U12 .no x0), (4, .loc U12 (.pair .no (.pair (.pair (.own true 3 .no) .no) (.pair (.pair (.own true 3 .no) .no) .no))) x1), (9, .loc U5 .no x2), (10, .loc U5 .no x3), (11, .v U1 x4), (66, .v .bool x5)] : Env)
abbrev e123 := fun x0 x1 => ([(2, .dead), (4, .loc U12 .no x0), (5, .v U1 x1), (9, .dead), (10, .dead)] : Env)
abbrev e124 := fun x0 x1 x2 x3 => ([(2, .loc U12 .no x0), (4, .loc U12 (.pair .no (.pair (.pair (.own true 3 .no) .no) (.pair (.pair (.own true 3 .no) .no) .no))) x1), (5, .dead), (9, .loc U5 .no x2), (10, .loc U5 .no x3)] : Env)
abbrev e125 := fun x0 x1 x2 x3 x4 x5 x6 => ([(2, .loc U12 .no x0), (3, .loc U12 .no x1), (4, .loc U12 (.pair .no (.pair (.pair (.own true 3 .no) .no) (.pair (.pair (.own true 3 .no) .no) .no))) x2), (6, .loc U5 .no x3), (7, .loc U5 .no x4), (9, .loc U5 .no x5), (77, .v .bool x6)] : Env)
abbrev e126 := fun x0 x1 => ([(3, .dead), (4, .loc U12 .no x0), (5, .v U1 x1), (6, .dead), (7, .dead), (9, .dead)] : Env)
abbrev e127 := fun x0 x1 x2 x3 x4 => ([(3, .loc U12 .no x0), (4, .loc U12 (.pair .no (.pair (.pair (.own true 3 .no) .no) (.pair (.pair (.own true 3 .no) .no) .no))) x1), (5, .dead), (6, .loc U5 .no x2), (7, .loc U5 .no x3), (9, .loc U5 .no x4)] : Env)
abbrev e128 := fun x0 x1 x2 x3 => ([(2, .loc U12 .no x0), (3, .loc U12 .no x1), (4, .loc U12 (.pair .no (.pair (.pair (.own true 3 .no) .no) (.pair (.pair (.own true 3 .no) .no) .no))) x2), (13, .v .bool x3)] : Env)
abbrev e129 := fun x0 x1 x2 x3 => ([(2, .loc U12 .no x0), (3, .loc U12 .no x1), (4, .loc U12 (.pair .no (.pair (.pair (.own true 3 .no) .no) (.pair (.pair (.own true 3 .no) .no) .no))) x2), (19, .v .bool x3)] : Env)
abbrev e130 := fun x0 x1 => ([(0, .v U2 x0), (1, .v U6 x1)] : Env)
abbrev e131 := fun x0 x1 x2 x3 => ([(0, .v U2 x0), (1, .v U6 x1), (7, .v U1 x2), (8, .v U1 x3)] : Env)
abbrev e132 := fun x0 x1 x2 x3 x4 => ([(0, .v U2 x0), (1, .v U6 x1), (7, .v U1 x2), (8, .v U1 x3), (9, .v .bool x4)] : Env)
abbrev e133 := fun x0 x1 x2 x3 x4 x5 => ([(0, .v U2 x0), (1, .v U6 x1), (5, .v U1 x2), (7, .v U1 x3), (8, .v U1 x4), (16, .v .bool x5)] : Env)
abbrev e134 := fun x0 => ([(0, .dead), (1, .dead), (4, .v U1 x0), (7, .dead), (8, .dead)] : Env)
abbrev e135 := fun x0 x1 x2 x3 => ([(0, .v U2 x0), (1, .v U6 x1), (4, .dead), (7, .v U1 x2), (8, .v U1 x3)] : Env)
abbrev e136 := fun x0 x1 => ([(3, .v U2 x0), (22, .v .bool x1)] : Env)
abbrev e137 := fun x0 x1 x2 x3 x4 => ([(1, .v U2 x0), (5, .own true 3 U1 .no x1), (17, .v U2 x2), (18, .v U1 x3), (19, .v U1 x4)] : Env)
abbrev e138 := fun x0 x1 x2 x3 x4 x5 => ([(1, .v U2 x0), (5, .own true 3 U1 .no x1), (17, .v U2 x2), (18, .v U1 x3), (19, .v U1 x4), (20, .v .bool x5)] : Env)
abbrev e139 := fun x0 x1 x2 x3 x4 x5 x6 x7 => ([(1, .v U2 x0), (5, .own true 3 U1 .no x1), (6, .v U1 x2), (7, .v U1 x3), (8, .v U1 x4), (17, .v U2 x5), (18, .v U1 x6), (19, .v U1 x7)] : Env)
abbrev e140 := fun x0 x1 x2 x3 x4 x5 x6 x7 x8 x9 x10 => ([(1, .v U2 x0), (5, .own true 3 U1 .no x1), (6, .v U1 x2), (7, .v U1 x3), (8, .v U1 x4), (17, .v U2 x5), (18, .v U1 x6), (19, .v U1 x7), (24, .v U2 x8), (25, .v U1 x9), (26, .v U1 x10)] : Env)
abbrev e141 := fun x0 x1 x2 x3 x4 x5 x6 x7 x8 x9 x10 x11 => ([(1, .v U2 x0), (5, .own true 3 U1 .no x1), (6, .v U1 x2), (7, .v U1 x3), (8, .v U1 x4), (17, .v U2 x5), (18, .v U1 x6), (19, .v U1 x7), (24, .v U2 x8), (25, .v U1 x9), (26, .v U1 x10), (27, .v .bool x11)] : Env)
abbrev e142 := fun x0 x1 x2 x3 x4 x5 x6 => ([(1, .v U2 x0), (5, .own true 3 U1 .no x1), (6, .v U1 x2), (8, .v U1 x3), (17, .v U2 x4), (18, .v U1 x5), (19, .v U1 x6)] : Env)
abbrev e143 := fun x0 x1 x2 x3 x4 => ([(1, .v U2 x0), (5, .own true 3 U1 .no x1), (6, .v U1 x2), (11, .v U1 x3), (12, .v U1 x4)] : Env)
abbrev e144 := fun x0 x1 x2 x3 x4 x5 => ([(1, .v U2 x0), (5, .own true 3 U1 .no x1), (6, .v U1 x2), (11, .v U1 x3), (12, .v U1 x4), (13, .v .bool x5)] : Env)
abbrev e145 := fun x0 x1 x2 x3 x4 => ([(1, .v U2 x0), (5, .own true 3 U1 .no x1), (7, .v U1 x2), (11, .v U1 x3), (12, .v U1 x4)] : Env)
abbrev e146 := fun x0 x1 x2 x3 x4 x5 => ([(1, .v U2 x0), (5, .own true 3 U1 .no x1), (7, .v U1 x2), (11, .v U1 x3), (12, .v U1 x4), (25, .v .bool x5)] : Env)
abbrev e147 := fun x0 x1 x2 x3 x4 x5 x6 => ([(1, .v U2 x0), (5, .own true 3 U1 .no x1), (6, .v U1 x2), (7, .v U1 x3), (11, .v U1 x4), (12, .v U1 x5), (40, .v .bool x6)] : Env)
abbrev e148 := fun x0 x1 x2 x3 x4 x5 => ([(0, .v U2 x0), (1, .v U2 x1), (6, .own true 3 U1 .no x2), (7, .v U2 x3), (8, .v U1 x4), (16, .v .bool x5)] : Env)
abbrev e149 := fun x0 x1 x2 x3 x4 x5 x6 x7 => ([(0, .v U2 x0), (1, .v U2 x1), (6, .own true 3 U1 .no x2), (7, .v U2 x3), (8, .v U1 x4), (9, .v U1 x5), (10, .v U1 x6), (29, .v .bool x7)] : Env)
abbrev e150 := fun x0 x1 x2 x3 x4 x5 x6 x7 x8 => ([(0, .v U2 x0), (1, .v U2 x1), (6, .own true 3 U1 .no x2), (7, .v U2 x3), (8, .v U1 x4), (9, .v U1 x5), (10, .v U1 x6), (11, .v U1 x7), (41, .v .bool x8)] : Env)
abbrev e151 := fun x0 x1 x2 x3 x4 x5 x6 => ([(0, .v U2 x0), (1, .v U2 x1), (6, .own true 3 U1 .no x2), (7, .v U2 x3), (8, .v U1 x4), (9, .v U1 x5), (46, .v .bool x6)] : Env)
abbrev e152 := fun x0 x1 x2 => ([(0, .v U2 x0), (2, .loc U5 (.pair (.own true 3 .no) .no) x1), (7, .v .bool x2)] : Env)
abbrev e153 := fun x0 => ([(0, .dead), (2, .loc U5 (.pair (.own true 3 .no) .no) x0)] : Env)
abbrev e154 := fun x0 x1 x2 x3 => ([(2, .loc U5 .no x0), (3, .loc U5 .no x1), (4, .loc U5 (.pair (.own true 3 .no) .no) x2), (17, .v .bool x3)] : Env)
abbrev e155 := fun x0 x1 x2 x3 => ([(4, .loc U5 (.pair (.own true 3 .no) .no) x0), (6, .v U2 x1), (7, .v U2 x2), (27, .v .bool x3)] : Env)
abbrev e156 := fun x0 x1 => ([(4, .loc U5 (.pair (.own true 3 .no) .no) x0), (6, .v U2 x1)] : Env)
abbrev e157 := fun x0 x1 => ([(1, .loc U5 .no x0), (6, .v .bool x1)] : Env)
abbrev e158 := fun x0 x1 => ([(1, .loc U12 .no x0), (7, .v .bool x1)] : Env)
abbrev e159 := fun x0 x1 x2 => ([(2, .v U1 x0), (3, .v U1 x1), (4, .v U1 x2)] : Env)
abbrev e160 := fun x0 x1 x2 => ([(1, .dead), (2, .v U1 x0), (3, .v U1 x1), (4, .v U1 x2)] : Env)
abbrev e161 := fun x0 => ([(1, .loc U12 .no x0), (2, .dead), (3, .dead), (4, .dead)] : Env)
abbrev e162 := fun x0 x1 => ([(1, .loc U12 .no x0), (24, .v .bool x1)] : Env)
abbrev e163 := fun x0 x1 x2 x3 x4 => ([(0, .v U1 x0), (1, .v U1 x1), (2, .v U1 x2), (3, .v U1 x3), (4, .v U12 x4)] : Env)
abbrev e164 := fun x0 x1 x2 x3 x4 x5 x6 => ([(0, .v U1 x0), (1, .v U1 x1), (2, .v U1 x2), (3, .v U1 x3), (13, .v U1 x4), (14, .v U1 x5), (15, .v U1 x6)] : Env)
abbrev e165 := fun x0 x1 x2 x3 x4 x5 x6 x7 => ([(0, .v U1 x0), (1, .v U1 x1), (2, .v U1 x2), (3, .v U1 x3), (13, .v U1 x4), (14, .v U1 x5), (15, .v U1 x6), (23, .v .bool x7)] : Env)
abbrev e166 := fun x0 x1 x2 => ([(10, .v U1 x0), (11, .v U1 x1), (12, .v U1 x2)] : Env)
abbrev e167 := fun x0 x1 x2 => ([(0, .dead), (1, .dead), (2, .dead), (3, .dead), (10, .v U1 x0), (11, .v U1 x1), (12, .v U1 x2), (13, .dead), (14, .dead)] : Env)
abbrev e168 := fun x0 x1 x2 x3 x4 x5 => ([(0, .v U1 x0), (1, .v U1 x1), (2, .v U1 x2), (3, .v U1 x3), (10, .dead), (11, .dead), (12, .dead), (13, .v U1 x4), (14, .v U1 x5)] : Env)
abbrev e169 := fun x0 x1 x2 => ([(13, .v U1 x0), (14, .v U1 x1), (40, .v .bool x2)] : Env)
abbrev e170 := fun x0 x1 x2 => ([(10, .v U1 x0), (11, .v U1 x1), (12, .v U1 x2), (13, .dead), (14, .dead)] : Env)
abbrev e171 := fun x0 x1 => ([(10, .dead), (11, .dead), (12, .dead), (13, .v U1 x0), (14, .v U1 x1)] : Env)
abbrev e172 := fun x0 x1 x2 => ([(0, .v U1 x0), (1, .v U1 x1), (4, .loc U5 (.pair (.own true 3 .no) .no) x2)] : Env)
abbrev e173 := fun x0 x1 x2 x3 => ([(0, .v U1 x0), (1, .v U1 x1), (4, .loc U5 (.pair (.own true 3 .no) .no) x2), (22, .v .bool x3)] : Env)
abbrev e174 := fun x0 x1 => ([(0, .dead), (1, .dead), (4, .loc U5 (.pair (.own true 3 .no) .no) x0), (5, .v U1 x1)] : Env)
abbrev e175 := fun x0 x1 x2 => ([(0, .v U1 x0), (1, .v U1 x1), (4, .loc U5 (.pair (.own true 3 .no) .no) x2), (5, .dead)] : Env)
abbrev e176 := fun x0 x1 x2 x3 => ([(0, .v U1 x0), (1, .v U1 x1), (4, .loc U5 (.pair (.own true 3 .no) .no) x2), (6, .v U2 x3)] : Env)
abbrev e177 := fun x0 x1 x2 x3 x4 => ([(0, .v U1 x0), (1, .v U1 x1), (4, .loc U5 (.pair (.own true 3 .no) .no) x2), (6, .v U2 x3), (7, .v U1 x4)] : Env)
abbrev e178 := fun x0 x1 x2 x3 x4 x5 => ([(0, .v U1 x0), (1, .v U1 x1), (4, .loc U5 (.pair (.own true 3 .no) .no) x2), (6, .v U2 x3), (7, .v U1 x4), (31, .v .bool x5)] : Env)
abbrev e179 := fun x0 x1 x2 x3 => ([(0, .v U1 x0), (1, .v U1 x1), (4, .loc U5 (.pair (.own true 3 .no) .no) x2), (13, .v .bool x3)] : Env)
abbrev e180 := fun x0 => ([(0, .dead), (1, .dead), (4, .loc U5 .no x0)] : Env)
abbrev e181 := fun x0 x1 x2 x3 => ([(1, .v U1 x0), (4, .loc U5 (.pair (.own true 3 .no) .no) x1), (5, .loc U5 .no x2), (6, .loc U5 .no x3)] : Env)
abbrev e182 := fun x0 x1 x2 x3 x4 => ([(4, .loc U5 (.pair (.own true 3 .no) .no) x0), (5, .loc U5 .no x1), (6, .loc U5 .no x2), (10, .v U1 x3), (11, .v U1 x4)] : Env)
abbrev e183 := fun x0 x1 x2 x3 x4 x5 => ([(4, .loc U5 (.pair (.own true 3 .no) .no) x0), (5, .loc U5 .no x1), (6, .loc U5 .no x2), (10, .v U1 x3), (11, .v U1 x4), (12, .v .bool x5)] : Env)
abbrev e184 := fun x0 x1 => ([(4, .loc U5 (.pair (.own true 3 .no) .no) x0), (5, .loc U5 .no x1)] : Env)
abbrev e185 := fun x0 x1 x2 x3 => ([(0, .v U1 x0), (1, .v U1 x1), (2, .v U1 x2), (3, .v U1 x3)] : Env)
abbrev e186 := fun x0 x1 x2 x3 x4 => ([(2, .loc U5 .no x0), (3, .loc U5 .no x1), (4, .loc U5 (.pair (.own true 3 .no) .no) x2), (5, .loc U5 (.pair (.own true 3 .no) .no) x3), (9, .v .bool x4)] : Env)
abbrev e187 := fun x0 x1 x2 x3 x4 => ([(2, .loc U5 .no x0), (3, .loc U5 .no x1), (4, .loc U5 (.pair (.own true 3 .no) .no) x2), (5, .loc U5 (.pair (.own true 3 .no) .no) x3), (20, .v .bool x4)] : Env)
abbrev e188 := fun x0 x1 x2 => ([(2, .loc U5 .no x0), (3, .loc U5 .no x1), (4, .loc U12 (.pair .no (.pair (.pair (.own true 3 .no) .no) (.pair (.pair (.own true 3 .no) .no) .no))) x2)] : Env)
abbrev e189 := fun x0 x1 x2 x3 => ([(2, .loc U5 .no x0), (3, .loc U5 .no x1), (4, .loc U12 (.pair .no (.pair (.pair (.own true 3 .no) .no) (.pair (.pair (.own true 3 .no) .no) .no))) x2), (13, .v .bool x3)] : Env)
abbrev e190 := fun x0 x1 x2 => ([(2, .loc U5 .no x0), (3, .loc U5 .no x1), (4, .loc U12 (.pair .no (.pair (.pair (.own true 3 .no) .no) (.pair (.pair (.own true 3 .no) .no) .no))) x2), (5, .dead)] : Env)
abbrev e191 := fun x0 x1 x2 x3 => ([(2, .loc U5 .no x0), (3, .loc U5 .no x1), (4, .loc U12 (.pair .no (.pair (.pair (.own true 3 .no) .no) (.pair (.pair (.own true 3 .no) .no) .no))) x2), (16, .v .bool x3)] : Env)
abbrev e192 := fun x0 x1 x2 => ([(0, .v U1 x0), (1, .v U1 x1), (2, .v U12 x2)] : Env)
abbrev e193 := fun x0 x1 x2 x3 x4 x5 => ([(0, .v U1 x0), (1, .v U1 x1), (6, .loc U12 (.pair .no (.pair (.pair (.own true 3 .no) .no) (.pair (.pair (.own true 3 .no) .no) .no))) x2), (8, .v U1 x3), (9, .v U1 x4), (10, .v U1 x5)] : Env)
abbrev e194 := fun x0 x1 x2 x3 x4 x5 x6 => ([(0, .v U1 x0), (1, .v U1 x1), (6, .loc U12 (.pair .no (.pair (.pair (.own true 3 .no) .no) (.pair (.pair (.own true 3 .no) .no) .no))) x2), (8, .v U1 x3), (9, .v U1 x4), (10, .v U1 x5), (21, .v .bool x6)] : Env)
abbrev e195 := fun x0 x1 => ([(6, .loc U12 .no x0), (7, .v U1 x1)] : Env)
abbrev e196 := fun x0 x1 => ([(0, .dead), (1, .dead), (6, .loc U12 .no x0), (7, .v U1 x1), (8, .dead), (9, .dead)] : Env)
abbrev e197 := fun x0 x1 x2 x3 x4 => ([(0, .v U1 x0), (1, .v U1 x1), (6, .loc U12 (.pair .no (.pair (.pair (.own true 3 .no) .no) (.pair (.pair (.own true 3 .no) .no) .no))) x2), (7, .dead), (8, .v U1 x3), (9, .v U1 x4)] : Env)
abbrev e198 := fun x0 x1 x2 x3 => ([(2, .loc U12 .no x0), (3, .loc U12 .no x1), (4, .loc U12 (.pair .no (.pair (.pair (.own true 3 .no) .no) (.pair (.pair (.own true 3 .no) .no) .no))) x2), (16, .v .bool x3)] : Env)
abbrev e199 := fun x0 x1 x2 x3 x4 x5 x6 => ([(2, .loc U12 .no x0), (3, .loc U12 .no x1), (4, .loc U12 (.pair .no (.pair (.pair (.own true 3 .no) .no) (.pair (.pair (.own true 3 .no) .no) .no))) x2), (6, .loc U5 .no x3), (7, .loc U5 .no x4), (8, .v U1 x5), (32, .v .bool x6)] : Env)
abbrev e200 := fun x0 x1 => ([(1, .loc U10 .no x0), (29, .v .bool x1)] : Env)
variable {N : Nat} {cl : Cal} {R : Type} {K : KE R}
def g111_0 (k0 : Int → V4 → Option R) (x0 : Int) : Option R :=
k0 x0 ([], ())
theorem t111_0 (x0) : exec cl N c111_0 [(0, .v U1 x0)] K = (g111_0 (fun y0 y1 => K .normal (e0 y0 y1)) x0) := by
 kernel_rfl
def g111_1 (k0 : Int → V4 → Bool → Option R) (x0 : Int) (x1 : V4) : Option R :=
k0 x0 x1 (decide (x0 < (0 : Int)))
theorem t111_1 (x0 x1) : exec cl N c111_1 (e0 x0 x1) K = (g111_1 (fun y0 y1 y2 => K .normal (e1 y0 y1 y2)) x0 x1) := by
 kernel_rfl
def g111_2 (k0 : V4 → Int → Option R) (x0 : Int) (x1 : V4) (x2 : Bool) : Option R :=
k0 ([], ()) (6 : Int)
theorem t111_2 (x0 x1 x2) : exec cl N c111_2 (e1 x0 x1 x2) K = (g111_2 (fun y0 y1 => K .normal (e2 y0 y1)) x0 x1 x2) := by
 kernel_rfl
theorem kp111_0 (x0 x1) : keep [0, 2, 3] (e2 x0 x1) = (e3 x0 x1) := by kernel_rfl
theorem kp111_1 (x0 x1 x2) : keep [0, 2, 3] (e1 x0 x1 x2) = (e4 x0 x1) := by kernel_rfl
theorem hb111_0 (x0 x1 x2) : boolOf? (ent (e1 x0 x1 x2) (.t 6)) = some x2 := by kernel_rfl
def g111_4 (k0 : Int → V4 → V0 → Option R) (x0 : Int) (x1 : V4) : Option R :=
k0 x0 x1 []
theorem t111_4 (x0 x1) : exec cl N c111_4 (e4 x0 x1) K = (g111_4 (fun y0 y1 y2 => K .normal (e5 y0 y1 y2)) x0 x1) := by
 kernel_rfl
theorem kp111_2 (x0 x1 x2) : keep [0, 2, 4] (e5 x0 x1 x2) = (e5 x0 x1 x2) := by kernel_rfl
def g111_5 (k0 : Int → V4 → V0 → Bool → Option R) (x0 : Int) (x1 : V4) (x2 : V0) : Option R :=
k0 x0 x1 x2 (decide (x0 > (0 : Int)))
theorem t111_5 (x0 x1 x2) : exec cl N c111_5 (e5 x0 x1 x2) K = (g111_5 (fun y0 y1 y2 y3 => K .normal (e6 y0 y1 y2 y3)) x0 x1 x2) := by
 kernel_rfl
theorem kp111_3 (x0 x1 x2 x3) : keep [0, 2, 4] (e6 x0 x1 x2 x3) = (e5 x0 x1 x2) := by kernel_rfl
theorem hb111_1 (x0 x1 x2 x3) : boolOf? (ent (e6 x0 x1 x2 x3) (.t 9)) = some x3 := by kernel_rfl
def g111_9 (k0 : Int → V4 → V0 → Option R) (x0 : Int) (x1 : V4) (x2 : V0) : Option R :=
let v39 : Int := (Int.tmod x0 (10000 : Int))
if x2.length + [v39].length ≤ 17592186044416 then
k0 (IntKind.i64.wrap (Int.tdiv x0 (10000 : Int))) x1 (x2 ++ [v39])
else none
theorem t111_9 (x0 x1 x2) : exec cl N c111_9 (e5 x0 x1 x2) K = (g111_9 (fun y0 y1 y2 => K .normal (e5 y0 y1 y2)) x0 x1 x2) := by
 kernel_rfl
def g111_11 (k0 : Int → V4 → V0 → Option R) (k1 : Int → V4 → V0 → Option R) (x0 : Int) (x1 : V4) (x2 : V0) : Option R :=
(g111_5 (fun y0 y1 y2 y3 => brB y3 ((g111_9 k0) y0 y1 y2) (k1 y0 y1 y2)) x0 x1 x2)
theorem t111_11 (x0 x1 x2) : exec cl N c111_11 (e5 x0 x1 x2) K = (g111_11 (fun y0 y1 y2 => K .normal (e5 y0 y1 y2)) (fun y0 y1 y2 => K (.exit 0) (e5 y0 y1 y2)) x0 x1 x2) := by
 simp only [c111_11, exec_seq, seqK_normal, seqK_exit, seqK_ret, t111_5, c111_6, exec_out, exec_cond', hb111_1, Option.bind_some, brB_true, brB_false, exec_skip, exec_exit, kp111_3, c111_10, exec_block, t111_9, blockK_normal, blockK_ret, blockK_eq, kp111_2]
 rfl
def l111_12 {R : Type} (k0 : Int → V4 → V0 → Option R) : Nat → Int → V4 → V0 → Option R
 | 0, _, _, _ => none
 | m + 1, x0, x1, x2 => (g111_11 (l111_12 k0 m) k0 x0 x1 x2)
theorem lt111_12 : ∀ (m) (x0 x1 x2), iter [0, 2, 4] (fun env K => exec cl N c111_11 env K) K m (e5 x0 x1 x2) = l111_12 (fun y0 y1 y2 => K (.exit 0) (e5 y0 y1 y2)) m x0 x1 x2 := by
 intro m
 induction m with
 | zero => intros; rfl
 | succ m ih =>
   intro x0 x1 x2
   simp only [iter_succ, t111_11, loopK_normal, loopK_exit, loopK_ret, kp111_2, ih]
   rfl
theorem kp111_4 (x0 x1 x2) : keep [2, 4] (e5 x0 x1 x2) = (e7 x1 x2) := by kernel_rfl
def g111_12 (N : Nat) (k0 : V4 → V0 → Option R) (x0 : Int) (x1 : V4) (x2 : V0) : Option R :=
l111_12 (fun y0 y1 y2 => k0 y1 y2) N x0 x1 x2
theorem t111_12 (x0 x1 x2) : exec cl N c111_12 (e5 x0 x1 x2) K = (g111_12 N (fun y0 y1 => K (.exit 0) (e7 y0 y1)) x0 x1 x2) := by
 simp only [c111_12, exec_out, exec_loop, kp111_2, lt111_12, kp111_4]
 rfl
theorem kp111_5 (x0 x1) : keep [2, 4] (e7 x0 x1) = (e7 x0 x1) := by kernel_rfl
def g111_14 (k0 : V4 → Int → Option R) (x0 : V4) (x1 : V0) : Option R :=
k0 (x1, ()) (0 : Int)
theorem t111_14 (x0 x1) : exec cl N c111_14 (e7 x0 x1) K = (g111_14 (fun y0 y1 => K .normal (e8 y0 y1)) x0 x1) := by
 kernel_rfl
def g111_15 (N : Nat) (k0 : V4 → Int → Option R) (k1 : V4 → Int → Option R) (x0 : Int) : Option R :=
(g111_0 (g111_1 (fun y0 y1 y2 => brB y2 (g111_2 k0 y0 y1 y2) ((g111_4 (g111_12 N ((g111_14 k1)))) y0 y1))) x0)
theorem t111_15 (x0) : exec cl N c111_15 [(0, .v U1 x0)] K = (g111_15 N (fun y0 y1 => K .ret (e3 y0 y1)) (fun y0 y1 => K .ret (e8 y0 y1)) x0) := by
 simp only [c111_15, exec_seq, seqK_normal, seqK_exit, seqK_ret, t111_0, t111_1, c111_3, exec_out, exec_cond', hb111_0, Option.bind_some, brB_true, brB_false, t111_2, exec_ret, exec_skip, kp111_0, kp111_1, t111_4, c111_13, exec_block, t111_12, blockK_normal, blockK_ret, blockK_eq, kp111_5, t111_14]
 rfl
theorem rk111_0 (y0 y1) : retK d111 .ret (e3 y0 y1) = some [.v U5 y0, .v U1 y1] := by kernel_rfl
theorem rk111_1 (y0 y1) : retK d111 .ret (e8 y0 y1) = some [.v U5 y0, .v U1 y1] := by kernel_rfl
def g111 (N : Nat) (x0 : Int) (k : V4 → Int → Option R) : Option R :=
(g111_15 N k k x0)
theorem gen111 (x0) (k : List E → Option R) : exec cl N c111 [(0, .v U1 x0)] (fun e env => (retK d111 e env).bind k) = g111 N x0 (fun r0 r1 => k [.v U5 r0, .v U1 r1]) := by
 simp only [c111, t111_15, rk111_0, rk111_1, Option.bind_some]
 rfl
def ctr111 (S : Int → Option V8) : Ctr := cv1 111 U1 S fun b => [.v U5 b.1, .v U1 b.2]
def S111 (N : Nat) (x0 : Int) : Option V8 := g111 N x0 (fun (r0 : V4) (r1 : Int) => some (r0, r1))
def g85_3 (S111 : Int → Option V8) (k0 : V4 → Option R) (x0 : Int) : Option R :=
(S111 x0).bind fun r44 =>
k0 r44.1
theorem t85_3 (S111) (h111 : (ctr111 S111).holds cl) (x0) : exec cl N c85_3 [(0, .v U1 x0)] K = (g85_3 S111 (fun y0 => exec cl N .ret [(2, .loc U5 .no y0)] K) x0) := by
 rw [← put_eq h111]
 kernel_rfl
def g85_3b (S111 : Int → Option V8) (k0 : V4 → Option R) (x0 : Int) : Option R :=
(g85_3 S111 k0 x0)
theorem t85_3b (S111) (h111 : (ctr111 S111).holds cl) (x0) : exec cl N c85_3 [(0, .v U1 x0)] K = (g85_3b S111 (fun y0 => K .ret [(2, .loc U5 .no y0)]) x0) := by
 simp only [exec_seq, seqK_normal, seqK_exit, seqK_ret, t85_3 S111 h111, exec_ret]
 rfl
theorem rk85_0 (y0) : retK d85 .ret [(2, .loc U5 .no y0)] = some [.v U5 y0] := by kernel_rfl
def g85 (S111 : Int → Option V8) (x0 : Int) (k : V4 → Option R) : Option R :=
(g85_3b S111 k x0)
theorem gen85 (S111) (h111 : (ctr111 S111).holds cl) (x0) (k : List E → Option R) : exec cl N c85 [(0, .v U1 x0)] (fun e env => (retK d85 e env).bind k) = g85 S111 x0 (fun r0 => k [.v U5 r0]) := by
 simp only [c85, t85_3b S111 h111, rk85_0, Option.bind_some]
 rfl
def ctr85 (S : Int → Option V6) : Ctr := cv1 85 U1 S fun b => [.v U5 b]
def S85 (N : Nat) (x0 : Int) : Option V6 := g85 (S111 N) x0 (fun (r0 : V4) => some (r0))
def g53_2 (S85 : Int → Option V6) (k0 : V4 → Option R) (x0 : Int) : Option R :=
(S85 (if (0 : Int) > x0 then (0 : Int) else x0)).bind fun r47 =>
k0 r47
theorem t53_2 (S85) (h85 : (ctr85 S85).holds cl) (x0) : exec cl N c53_2 [(0, .v U1 x0)] K = (g53_2 S85 (fun y0 => exec cl N .ret [(2, .loc U5 .no y0)] K) x0) := by
 rw [← put_eq h85]
 kernel_rfl
def g53_2b (S85 : Int → Option V6) (k0 : V4 → Option R) (x0 : Int) : Option R :=
(g53_2 S85 k0 x0)
theorem t53_2b (S85) (h85 : (ctr85 S85).holds cl) (x0) : exec cl N c53_2 [(0, .v U1 x0)] K = (g53_2b S85 (fun y0 => K .ret [(2, .loc U5 .no y0)]) x0) := by
 simp only [exec_seq, seqK_normal, seqK_exit, seqK_ret, t53_2 S85 h85, exec_ret]
 rfl
theorem rk53_0 (y0) : retK d53 .ret [(2, .loc U5 .no y0)] = some [.v U5 y0] := by kernel_rfl
def g53 (S85 : Int → Option V6) (x0 : Int) (k : V4 → Option R) : Option R :=
(g53_2b S85 k x0)
theorem gen53 (S85) (h85 : (ctr85 S85).holds cl) (x0) (k : List E → Option R) : exec cl N c53 [(0, .v U1 x0)] (fun e env => (retK d53 e env).bind k) = g53 S85 x0 (fun r0 => k [.v U5 r0]) := by
 simp only [c53, t53_2b S85 h85, rk53_0, Option.bind_some]
 rfl
def ctr53 (S : Int → Option V6) : Ctr := cv1 53 U1 S fun b => [.v U5 b]
def S53 (N : Nat) (x0 : Int) : Option V6 := g53 (S85 N) x0 (fun (r0 : V4) => some (r0))
def g86_17 (k0 : V4 → Int → Option R) (x0 : V4) : Option R :=
k0 x0 (x0.1.length : Int)
theorem t86_17 (x0) : exec cl N c86_17 [(0, .v U5 x0)] K = (g86_17 (fun y0 y1 => exec cl N (.seq (.seq c86_2 c86_4) (.seq (.seq c86_5 c86_15) (.seq c86_16 .ret))) [(1, .loc U5 .no y0), (3, .v U1 y1)] K) x0) := by
 kernel_rfl
def g86_2 (k0 : V4 → Int → Bool → Option R) (x0 : V4) (x1 : Int) : Option R :=
brB (decide (x1 > (200 : Int))) (k0 x0 x1 true) (brB (decide (x1 > (0 : Int))) (let v60 : Int := (IntKind.i64.wrap (x1 - (1 : Int)))
if 0 ≤ v60 ∧ v60 < (x0.1.length : Int) then
k0 x0 x1 ((x0.1.getD v60.toNat (0 : Int)) == (0 : Int))
else none) (k0 x0 x1 false))
theorem t86_2 (x0 x1) : exec cl N c86_2 [(1, .loc U5 .no x0), (3, .v U1 x1)] K = (g86_2 (fun y0 y1 y2 => K .normal (e9 y0 y1 y2)) x0 x1) := by
 kernel_rfl
def g86_3 (k0 : Bool → Option R) (x0 : V4) (x1 : Int) (x2 : Bool) : Option R :=
k0 false
theorem t86_3 (x0 x1 x2) : exec cl N c86_3 (e9 x0 x1 x2) K = (g86_3 (fun y0 => K .normal [(2, .v .bool y0)]) x0 x1 x2) := by
 kernel_rfl
theorem kp86_0 (x0) : keep [1, 2, 3] [(2, .v .bool x0)] = (e10 x0) := by kernel_rfl
theorem kp86_1 (x0 x1 x2) : keep [1, 2, 3] (e9 x0 x1 x2) = [(1, .loc U5 .no x0), (2, .dead), (3, .v U1 x1)] := by kernel_rfl
theorem hb86_0 (x0 x1 x2) : boolOf? (ent (e9 x0 x1 x2) (.t 22)) = some x2 := by kernel_rfl
def g86_5 (k0 : V4 → Int → Int → Option R) (x0 : V4) (x1 : Int) : Option R :=
k0 x0 x1 (0 : Int)
theorem t86_5 (x0 x1) : exec cl N c86_5 [(1, .loc U5 .no x0), (2, .dead), (3, .v U1 x1)] K = (g86_5 (fun y0 y1 y2 => K .normal (e11 y0 y1 y2)) x0 x1) := by
 kernel_rfl
theorem kp86_2 (x0 x1 x2) : keep [1, 3, 4] (e11 x0 x1 x2) = (e11 x0 x1 x2) := by kernel_rfl
def g86_6 (k0 : V4 → Int → Int → Bool → Option R) (x0 : V4) (x1 x2 : Int) : Option R :=
k0 x0 x1 x2 (decide (x2 < x1))
theorem t86_6 (x0 x1 x2) : exec cl N c86_6 (e11 x0 x1 x2) K = (g86_6 (fun y0 y1 y2 y3 => K .normal (e12 y0 y1 y2 y3)) x0 x1 x2) := by
 kernel_rfl
theorem kp86_3 (x0 x1 x2 x3) : keep [1, 3, 4] (e12 x0 x1 x2 x3) = (e11 x0 x1 x2) := by kernel_rfl
theorem hb86_1 (x0 x1 x2 x3) : boolOf? (ent (e12 x0 x1 x2 x3) (.t 25)) = some x3 := by kernel_rfl
def g86_8 (k0 : V4 → Int → Int → Bool → Option R) (x0 : V4) (x1 x2 : Int) : Option R :=
if 0 ≤ x2 ∧ x2 < (x0.1.length : Int) then
brB (decide ((x0.1.getD x2.toNat (0 : Int)) < (0 : Int))) (k0 x0 x1 x2 true) (if 0 ≤ x2 ∧ x2 < (x0.1.length : Int) then
k0 x0 x1 x2 (decide ((x0.1.getD x2.toNat (0 : Int)) ≥ (10000 : Int)))
else none)
else none
theorem t86_8 (x0 x1 x2) : exec cl N c86_8 (e11 x0 x1 x2) K = (g86_8 (fun y0 y1 y2 y3 => K .normal (e13 y0 y1 y2 y3)) x0 x1 x2) := by
 kernel_rfl
def g86_9 (k0 : Bool → Option R) (x0 : V4) (x1 x2 : Int) (x3 : Bool) : Option R :=
k0 false
theorem t86_9 (x0 x1 x2 x3) : exec cl N c86_9 (e13 x0 x1 x2 x3) K = (g86_9 (fun y0 => K .normal [(2, .v .bool y0)]) x0 x1 x2 x3) := by
 kernel_rfl
theorem kp86_4 (x0) : keep [1, 2, 3, 4] [(2, .v .bool x0)] = (e14 x0) := by kernel_rfl
theorem kp86_5 (x0 x1 x2 x3) : keep [1, 2, 3, 4] (e13 x0 x1 x2 x3) = (e15 x0 x1 x2) := by kernel_rfl
theorem hb86_2 (x0 x1 x2 x3) : boolOf? (ent (e13 x0 x1 x2 x3) (.t 41)) = some x3 := by kernel_rfl
theorem kp86_6 (x0) : keep [1, 2, 3, 4] (e14 x0) = (e14 x0) := by kernel_rfl
theorem kp86_7 (x0 x1 x2) : keep [1, 2, 3, 4] (e15 x0 x1 x2) = (e15 x0 x1 x2) := by kernel_rfl
def g86_12 (k0 : V4 → Int → Int → Option R) (x0 : V4) (x1 x2 : Int) : Option R :=
k0 x0 x1 (IntKind.i64.wrap (x2 + (1 : Int)))
theorem t86_12 (x0 x1 x2) : exec cl N c86_12 (e15 x0 x1 x2) K = (g86_12 (fun y0 y1 y2 => K .normal (e11 y0 y1 y2)) x0 x1 x2) := by
 kernel_rfl
def g86_13 (k0 : Bool → Option R) (k1 : V4 → Int → Int → Option R) (k2 : V4 → Int → Int → Option R) (x0 : V4) (x1 x2 : Int) : Option R :=
(g86_6 (fun y0 y1 y2 y3 => brB y3 ((g86_8 (fun y0 y1 y2 y3 => brB y3 (g86_9 k0 y0 y1 y2 y3) (((g86_12 k1)) y0 y1 y2))) y0 y1 y2) (k2 y0 y1 y2)) x0 x1 x2)
theorem t86_13 (x0 x1 x2) : exec cl N c86_13 (e11 x0 x1 x2) K = (g86_13 (fun y0 => K .ret (e14 y0)) (fun y0 y1 y2 => K .normal (e11 y0 y1 y2)) (fun y0 y1 y2 => K (.exit 0) (e11 y0 y1 y2)) x0 x1 x2) := by
 simp only [c86_13, exec_seq, seqK_normal, seqK_exit, seqK_ret, t86_6, c86_7, exec_out, exec_cond', hb86_1, Option.bind_some, brB_true, brB_false, exec_skip, exec_exit, kp86_3, c86_11, exec_block, t86_8, c86_10, hb86_2, t86_9, exec_ret, kp86_4, kp86_5, blockK_normal, blockK_ret, blockK_eq, kp86_6, kp86_7, t86_12]
 rfl
def l86_14 {R : Type} (k0 : Bool → Option R) (k1 : V4 → Int → Int → Option R) : Nat → V4 → Int → Int → Option R
 | 0, _, _, _ => none
 | m + 1, x0, x1, x2 => (g86_13 k0 (l86_14 k0 k1 m) k1 x0 x1 x2)
theorem lt86_14 : ∀ (m) (x0 x1 x2), iter [1, 3, 4] (fun env K => exec cl N c86_13 env K) K m (e11 x0 x1 x2) = l86_14 (fun y0 => K .ret (e14 y0)) (fun y0 y1 y2 => K (.exit 0) (e11 y0 y1 y2)) m x0 x1 x2 := by
 intro m
 induction m with
 | zero => intros; rfl
 | succ m ih =>
   intro x0 x1 x2
   simp only [iter_succ, t86_13, loopK_normal, loopK_exit, loopK_ret, kp86_2, ih]
   rfl
theorem kp86_8 (x0) : keep [2] (e14 x0) = [(2, .v .bool x0)] := by kernel_rfl
theorem kp86_9 (x0 x1 x2) : keep [2] (e11 x0 x1 x2) = [(2, .dead)] := by kernel_rfl
def g86_14 (N : Nat) (k0 : Bool → Option R) (k1 : Option R) (x0 : V4) (x1 x2 : Int) : Option R :=
l86_14 k0 (fun y0 y1 y2 => k1) N x0 x1 x2
theorem t86_14 (x0 x1 x2) : exec cl N c86_14 (e11 x0 x1 x2) K = (g86_14 N (fun y0 => K .ret [(2, .v .bool y0)]) (K (.exit 0) [(2, .dead)]) x0 x1 x2) := by
 simp only [c86_14, exec_out, exec_loop, kp86_2, lt86_14, kp86_8, kp86_9]
 rfl
theorem kp86_10 (x0) : keep [2] [(2, .v .bool x0)] = [(2, .v .bool x0)] := by kernel_rfl
theorem kp86_11 : keep [2] [(2, .dead)] = [(2, .dead)] := by kernel_rfl
def g86_16 (k0 : Bool → Option R) : Option R :=
k0 true
theorem t86_16 : exec cl N c86_16 [(2, .dead)] K = (g86_16 (fun y0 => K .normal [(2, .v .bool y0)])) := by
 kernel_rfl
def g86_17b (N : Nat) (k0 : Bool → Option R) (k1 : Bool → Option R) (x0 : V4) : Option R :=
(g86_17 (g86_2 (fun y0 y1 y2 => brB y2 (g86_3 k0 y0 y1 y2) ((g86_5 (g86_14 N k1 (g86_16 k1))) y0 y1))) x0)
theorem t86_17b (x0) : exec cl N c86_17 [(0, .v U5 x0)] K = (g86_17b N (fun y0 => K .ret (e10 y0)) (fun y0 => K .ret [(2, .v .bool y0)]) x0) := by
 simp only [exec_seq, seqK_normal, seqK_exit, seqK_ret, t86_17, t86_2, c86_4, exec_out, exec_cond', hb86_0, Option.bind_some, brB_true, brB_false, t86_3, exec_ret, exec_skip, kp86_0, kp86_1, t86_5, c86_15, exec_block, t86_14, blockK_normal, blockK_ret, blockK_eq, kp86_10, kp86_11, t86_16]
 rfl
theorem rk86_0 (y0) : retK d86 .ret (e10 y0) = some [.v .bool y0] := by kernel_rfl
theorem rk86_1 (y0) : retK d86 .ret [(2, .v .bool y0)] = some [.v .bool y0] := by kernel_rfl
def g86 (N : Nat) (x0 : V4) (k : Bool → Option R) : Option R :=
(g86_17b N k k x0)
theorem gen86 (x0) (k : List E → Option R) : exec cl N c86 [(0, .v U5 x0)] (fun e env => (retK d86 e env).bind k) = g86 N x0 (fun r0 => k [.v .bool r0]) := by
 simp only [c86, t86_17b, rk86_0, rk86_1, Option.bind_some]
 rfl
def ctr86 (S : V4 → Option (Bool)) : Ctr := cv1 86 U5 S fun b => [.v .bool b]
def S86 (N : Nat) (x0 : V4) : Option (Bool) := g86 N x0 (fun (r0 : Bool) => some (r0))
def g108_2 (k0 : Bool → Option R) (x0 : V0) : Option R :=
brB ((x0.length : Int) == (0 : Int)) (k0 true) (if 0 ≤ (0 : Int) ∧ (0 : Int) < (x0.length : Int) then
k0 ((Int.tmod (x0.getD (0 : Int).toNat (0 : Int)) (2 : Int)) == (0 : Int))
else none)
theorem t108_2 (x0) : exec cl N c108_2 [(0, .v U2 x0)] K = (g108_2 (fun y0 => exec cl N .ret [(2, .v .bool y0)] K) x0) := by
 kernel_rfl
def g108_2b (k0 : Bool → Option R) (x0 : V0) : Option R :=
(g108_2 k0 x0)
theorem t108_2b (x0) : exec cl N c108_2 [(0, .v U2 x0)] K = (g108_2b (fun y0 => K .ret [(2, .v .bool y0)]) x0) := by
 simp only [exec_seq, seqK_normal, seqK_exit, seqK_ret, t108_2, exec_ret]
 rfl
theorem rk108_0 (y0) : retK d108 .ret [(2, .v .bool y0)] = some [.v .bool y0] := by kernel_rfl
def g108 (x0 : V0) (k : Bool → Option R) : Option R :=
(g108_2b k x0)
theorem gen108 (x0) (k : List E → Option R) : exec cl N c108 [(0, .v U2 x0)] (fun e env => (retK d108 e env).bind k) = g108 x0 (fun r0 => k [.v .bool r0]) := by
 simp only [c108, t108_2b, rk108_0, Option.bind_some]
 rfl
def ctr108 (S : V0 → Option (Bool)) : Ctr := cv1 108 U2 S fun b => [.v .bool b]
def S108 (N : Nat) (x0 : V0) : Option (Bool) := g108 x0 (fun (r0 : Bool) => some (r0))
def g113_0 (k0 : V0 → Option R) (x0 : V0) : Option R :=
k0 x0
theorem t113_0 (x0) : exec cl N c113_0 [(0, .v U2 x0)] K = (g113_0 (fun y0 => K .normal [(0, .v U2 y0)]) x0) := by
 kernel_rfl
theorem kp113_0 (x0) : keep [0] [(0, .v U2 x0)] = [(0, .v U2 x0)] := by kernel_rfl
def g113_1 (k0 : V0 → Bool → Option R) (x0 : V0) : Option R :=
brB (decide ((x0.length : Int) > (0 : Int))) (let v97 : Int := (IntKind.i64.wrap ((x0.length : Int) - (1 : Int)))
if 0 ≤ v97 ∧ v97 < (x0.length : Int) then
k0 x0 ((x0.getD v97.toNat (0 : Int)) == (0 : Int))
else none) (k0 x0 false)
theorem t113_1 (x0) : exec cl N c113_1 [(0, .v U2 x0)] K = (g113_1 (fun y0 y1 => K .normal (e16 y0 y1)) x0) := by
 kernel_rfl
theorem kp113_1 (x0 x1) : keep [0] (e16 x0 x1) = [(0, .v U2 x0)] := by kernel_rfl
theorem hb113_0 (x0 x1) : boolOf? (ent (e16 x0 x1) (.t 14)) = some x1 := by kernel_rfl
def g113_3 (k0 : V0 → Option R) (x0 : V0) : Option R :=
let v99 : Int := (IntKind.i64.wrap ((x0.length : Int) - (1 : Int)))
if 0 ≤ (0 : Int) ∧ (0 : Int) ≤ v99 ∧ v99 ≤ (x0.length : Int) ∧ (x0.length : Int) ≤ (x0.length : Int) then
k0 ((x0.drop (0 : Int).toNat).take (v99.toNat - (0 : Int).toNat))
else none
theorem t113_3 (x0) : exec cl N c113_3 [(0, .v U2 x0)] K = (g113_3 (fun y0 => K .normal [(0, .v U2 y0)]) x0) := by
 kernel_rfl
def g113_5 (k0 : V0 → Option R) (k1 : V0 → Option R) (x0 : V0) : Option R :=
(g113_1 (fun y0 y1 => brB y1 ((g113_3 k0) y0) (k1 y0)) x0)
theorem t113_5 (x0) : exec cl N c113_5 [(0, .v U2 x0)] K = (g113_5 (fun y0 => K .normal [(0, .v U2 y0)]) (fun y0 => K (.exit 0) [(0, .v U2 y0)]) x0) := by
 simp only [c113_5, exec_seq, seqK_normal, seqK_exit, seqK_ret, t113_1, c113_2, exec_out, exec_cond', hb113_0, Option.bind_some, brB_true, brB_false, exec_skip, exec_exit, kp113_1, c113_4, exec_block, t113_3, blockK_normal, blockK_ret, blockK_eq, kp113_0]
 rfl
def l113_6 {R : Type} (k0 : V0 → Option R) : Nat → V0 → Option R
 | 0, _ => none
 | m + 1, x0 => (g113_5 (l113_6 k0 m) k0 x0)
theorem lt113_6 : ∀ (m) (x0), iter [0] (fun env K => exec cl N c113_5 env K) K m [(0, .v U2 x0)] = l113_6 (fun y0 => K (.exit 0) [(0, .v U2 y0)]) m x0 := by
 intro m
 induction m with
 | zero => intros; rfl
 | succ m ih =>
   intro x0
   simp only [iter_succ, t113_5, loopK_normal, loopK_exit, loopK_ret, kp113_0, ih]
   rfl
def g113_6 (N : Nat) (k0 : V0 → Option R) (x0 : V0) : Option R :=
l113_6 k0 N x0
theorem t113_6 (x0) : exec cl N c113_6 [(0, .v U2 x0)] K = (g113_6 N (fun y0 => K (.exit 0) [(0, .v U2 y0)]) x0) := by
 simp only [c113_6, exec_out, exec_loop, kp113_0, lt113_6, kp113_0]
 rfl
def g113_8 (k0 : V0 → Option R) (x0 : V0) : Option R :=
k0 x0
theorem t113_8 (x0) : exec cl N c113_8 [(0, .v U2 x0)] K = (g113_8 (fun y0 => K .normal [(2, .v U2 y0)]) x0) := by
 kernel_rfl
def g113_9 (N : Nat) (k0 : V0 → Option R) (x0 : V0) : Option R :=
(g113_0 (g113_6 N ((g113_8 k0))) x0)
theorem t113_9 (x0) : exec cl N c113_9 [(0, .v U2 x0)] K = (g113_9 N (fun y0 => K .ret [(2, .v U2 y0)]) x0) := by
 simp only [c113_9, exec_seq, seqK_normal, seqK_exit, seqK_ret, t113_0, c113_7, exec_out, exec_block, t113_6, blockK_normal, blockK_ret, blockK_eq, kp113_0, t113_8, exec_ret]
 rfl
theorem rk113_0 (y0) : retK d113 .ret [(2, .v U2 y0)] = some [.v U2 y0] := by kernel_rfl
def g113 (N : Nat) (x0 : V0) (k : V0 → Option R) : Option R :=
(g113_9 N k x0)
theorem gen113 (x0) (k : List E → Option R) : exec cl N c113 [(0, .v U2 x0)] (fun e env => (retK d113 e env).bind k) = g113 N x0 (fun r0 => k [.v U2 r0]) := by
 simp only [c113, t113_9, rk113_0, Option.bind_some]
 rfl
def ctr113 (S : V0 → Option V1) : Ctr := cv1 113 U2 S fun b => [.v U2 b]
def S113 (N : Nat) (x0 : V0) : Option V1 := g113 N x0 (fun (r0 : V0) => some (r0))
def g109_16 (k0 : V0 → V0 → Int → Option R) (x0 : V0) : Option R :=
if 0 ≤ (x0.length : Int) ∧ (x0.length : Int) ≤ (x0.length : Int) ∧ (x0.length : Int) ≤ ((17592186044416 : Nat) : Int) then
k0 x0 (List.replicate (x0.length : Int).toNat (0 : Int)) (0 : Int)
else none
theorem t109_16 (x0) : exec cl N c109_16 [(0, .v U2 x0)] K = (g109_16 (fun y0 y1 y2 => exec cl N (.seq (.seq c109_3 c109_14) (.seq c109_15 .ret)) [(0, .v U2 y0), (3, .own true 3 U1 .no y1), (4, .v U1 y2)] K) x0) := by
 kernel_rfl
def g109_3 (k0 : V0 → V0 → Int → Int → Option R) (x0 x1 : V0) (x2 : Int) : Option R :=
k0 x0 x1 x2 (IntKind.i64.wrap ((x0.length : Int) - (1 : Int)))
theorem t109_3 (x0 x1 x2) : exec cl N c109_3 [(0, .v U2 x0), (3, .own true 3 U1 .no x1), (4, .v U1 x2)] K = (g109_3 (fun y0 y1 y2 y3 => K .normal (e17 y0 y1 y2 y3)) x0 x1 x2) := by
 kernel_rfl
theorem kp109_0 (x0 x1 x2 x3) : keep [0, 3, 4, 5] (e17 x0 x1 x2 x3) = (e17 x0 x1 x2 x3) := by kernel_rfl
def g109_4 (k0 : V0 → V0 → Int → Int → Bool → Option R) (x0 x1 : V0) (x2 x3 : Int) : Option R :=
k0 x0 x1 x2 x3 (decide (x3 ≥ (0 : Int)))
theorem t109_4 (x0 x1 x2 x3) : exec cl N c109_4 (e17 x0 x1 x2 x3) K = (g109_4 (fun y0 y1 y2 y3 y4 => K .normal (e18 y0 y1 y2 y3 y4)) x0 x1 x2 x3) := by
 kernel_rfl
theorem kp109_1 (x0 x1 x2 x3 x4) : keep [0, 3, 4, 5] (e18 x0 x1 x2 x3 x4) = (e17 x0 x1 x2 x3) := by kernel_rfl
theorem hb109_0 (x0 x1 x2 x3 x4) : boolOf? (ent (e18 x0 x1 x2 x3 x4) (.t 14)) = some x4 := by kernel_rfl
def g109_9 (k0 : V0 → V0 → Int → Int → Option R) (x0 x1 : V0) (x2 x3 : Int) : Option R :=
if 0 ≤ x3 ∧ x3 < (x0.length : Int) then
let v110 : Int := (IntKind.i64.wrap ((IntKind.i64.wrap (x2 * (10000 : Int))) + (x0.getD x3.toNat (0 : Int))))
if 0 ≤ x3 ∧ x3 < (x1.length : Int) then
if x3.toNat < x1.length then
k0 x0 (x1.set x3.toNat (IntKind.i64.wrap (Int.tdiv v110 (2 : Int)))) (Int.tmod v110 (2 : Int)) x3
else none
else none
else none
theorem t109_9 (x0 x1 x2 x3) : exec cl N c109_9 (e17 x0 x1 x2 x3) K = (g109_9 (fun y0 y1 y2 y3 => K .normal (e17 y0 y1 y2 y3)) x0 x1 x2 x3) := by
 kernel_rfl
def g109_11 (k0 : V0 → V0 → Int → Int → Option R) (x0 x1 : V0) (x2 x3 : Int) : Option R :=
k0 x0 x1 x2 (IntKind.i64.wrap (x3 - (1 : Int)))
theorem t109_11 (x0 x1 x2 x3) : exec cl N c109_11 (e17 x0 x1 x2 x3) K = (g109_11 (fun y0 y1 y2 y3 => K .normal (e17 y0 y1 y2 y3)) x0 x1 x2 x3) := by
 kernel_rfl
def g109_12 (k0 : V0 → V0 → Int → Int → Option R) (k1 : V0 → V0 → Int → Int → Option R) (x0 x1 : V0) (x2 x3 : Int) : Option R :=
(g109_4 (fun y0 y1 y2 y3 y4 => brB y4 ((g109_9 ((g109_11 k0))) y0 y1 y2 y3) (k1 y0 y1 y2 y3)) x0 x1 x2 x3)
theorem t109_12 (x0 x1 x2 x3) : exec cl N c109_12 (e17 x0 x1 x2 x3) K = (g109_12 (fun y0 y1 y2 y3 => K .normal (e17 y0 y1 y2 y3)) (fun y0 y1 y2 y3 => K (.exit 0) (e17 y0 y1 y2 y3)) x0 x1 x2 x3) := by
 simp only [c109_12, exec_seq, seqK_normal, seqK_exit, seqK_ret, t109_4, c109_5, exec_out, exec_cond', hb109_0, Option.bind_some, brB_true, brB_false, exec_skip, exec_exit, kp109_1, c109_10, exec_block, t109_9, blockK_normal, blockK_ret, blockK_eq, kp109_0, t109_11]
 rfl
def l109_13 {R : Type} (k0 : V0 → V0 → Int → Int → Option R) : Nat → V0 → V0 → Int → Int → Option R
 | 0, _, _, _, _ => none
 | m + 1, x0, x1, x2, x3 => (g109_12 (l109_13 k0 m) k0 x0 x1 x2 x3)
theorem lt109_13 : ∀ (m) (x0 x1 x2 x3), iter [0, 3, 4, 5] (fun env K => exec cl N c109_12 env K) K m (e17 x0 x1 x2 x3) = l109_13 (fun y0 y1 y2 y3 => K (.exit 0) (e17 y0 y1 y2 y3)) m x0 x1 x2 x3 := by
 intro m
 induction m with
 | zero => intros; rfl
 | succ m ih =>
   intro x0 x1 x2 x3
   simp only [iter_succ, t109_12, loopK_normal, loopK_exit, loopK_ret, kp109_0, ih]
   rfl
theorem kp109_2 (x0 x1 x2 x3) : keep [3] (e17 x0 x1 x2 x3) = (e19 x1) := by kernel_rfl
def g109_13 (N : Nat) (k0 : V0 → Option R) (x0 x1 : V0) (x2 x3 : Int) : Option R :=
l109_13 (fun y0 y1 y2 y3 => k0 y1) N x0 x1 x2 x3
theorem t109_13 (x0 x1 x2 x3) : exec cl N c109_13 (e17 x0 x1 x2 x3) K = (g109_13 N (fun y0 => K (.exit 0) (e19 y0)) x0 x1 x2 x3) := by
 simp only [c109_13, exec_out, exec_loop, kp109_0, lt109_13, kp109_2]
 rfl
theorem kp109_3 (x0) : keep [3] (e19 x0) = (e19 x0) := by kernel_rfl
def g109_15 (S113 : V0 → Option V1) (k0 : V0 → Option R) (x0 : V0) : Option R :=
(S113 x0).bind fun r114 =>
k0 r114
theorem t109_15 (S113) (h113 : (ctr113 S113).holds cl) (x0) : exec cl N c109_15 (e19 x0) K = (g109_15 S113 (fun y0 => K .normal [(2, .v U2 y0)]) x0) := by
 rw [← put_eq h113]
 kernel_rfl
def g109_16b (N : Nat) (S113 : V0 → Option V1) (k0 : V0 → Option R) (x0 : V0) : Option R :=
(g109_16 (g109_3 (g109_13 N ((g109_15 S113 k0)))) x0)
theorem t109_16b (S113) (h113 : (ctr113 S113).holds cl) (x0) : exec cl N c109_16 [(0, .v U2 x0)] K = (g109_16b N S113 (fun y0 => K .ret [(2, .v U2 y0)]) x0) := by
 simp only [exec_seq, seqK_normal, seqK_exit, seqK_ret, t109_16, t109_3, c109_14, exec_out, exec_block, t109_13, blockK_normal, blockK_ret, blockK_eq, kp109_3, t109_15 S113 h113, exec_ret]
 rfl
theorem rk109_0 (y0) : retK d109 .ret [(2, .v U2 y0)] = some [.v U2 y0] := by kernel_rfl
def g109 (N : Nat) (S113 : V0 → Option V1) (x0 : V0) (k : V0 → Option R) : Option R :=
(g109_16b N S113 k x0)
theorem gen109 (S113) (h113 : (ctr113 S113).holds cl) (x0) (k : List E → Option R) : exec cl N c109 [(0, .v U2 x0)] (fun e env => (retK d109 e env).bind k) = g109 N S113 x0 (fun r0 => k [.v U2 r0]) := by
 simp only [c109, t109_16b S113 h113, rk109_0, Option.bind_some]
 rfl
def ctr109 (S : V0 → Option V1) : Ctr := cv1 109 U2 S fun b => [.v U2 b]
def S109 (N : Nat) (x0 : V0) : Option V1 := g109 N (S113 N) x0 (fun (r0 : V0) => some (r0))
def g90_0 (k0 : V0 → V0 → Option R) (x0 x1 : V0) : Option R :=
k0 x0 x1
theorem t90_0 (x0 x1) : exec cl N c90_0 (e20 x0 x1) K = (g90_0 (fun y0 y1 => K .normal (e20 y0 y1)) x0 x1) := by
 kernel_rfl
def g90_1 (k0 : V0 → V0 → Bool → Option R) (x0 x1 : V0) : Option R :=
k0 x0 x1 (decide ((x0.length : Int) < (x1.length : Int)))
theorem t90_1 (x0 x1) : exec cl N c90_1 (e20 x0 x1) K = (g90_1 (fun y0 y1 y2 => K .normal (e21 y0 y1 y2)) x0 x1) := by
 kernel_rfl
def g90_2 (k0 : Int → Option R) (x0 x1 : V0) (x2 : Bool) : Option R :=
k0 (-1 : Int)
theorem t90_2 (x0 x1 x2) : exec cl N c90_2 (e21 x0 x1 x2) K = (g90_2 (fun y0 => K .normal [(4, .v U1 y0)]) x0 x1 x2) := by
 kernel_rfl
theorem kp90_0 (x0) : keep [0, 1, 4] [(4, .v U1 x0)] = (e22 x0) := by kernel_rfl
theorem kp90_1 (x0 x1 x2) : keep [0, 1, 4] (e21 x0 x1 x2) = (e23 x0 x1) := by kernel_rfl
theorem hb90_0 (x0 x1 x2) : boolOf? (ent (e21 x0 x1 x2) (.t 10)) = some x2 := by kernel_rfl
def g90_4 (k0 : V0 → V0 → Bool → Option R) (x0 x1 : V0) : Option R :=
k0 x0 x1 (decide ((x0.length : Int) > (x1.length : Int)))
theorem t90_4 (x0 x1) : exec cl N c90_4 (e23 x0 x1) K = (g90_4 (fun y0 y1 y2 => K .normal (e24 y0 y1 y2)) x0 x1) := by
 kernel_rfl
def g90_5 (k0 : Int → Option R) (x0 x1 : V0) (x2 : Bool) : Option R :=
k0 (1 : Int)
theorem t90_5 (x0 x1 x2) : exec cl N c90_5 (e24 x0 x1 x2) K = (g90_5 (fun y0 => K .normal [(4, .v U1 y0)]) x0 x1 x2) := by
 kernel_rfl
theorem kp90_2 (x0 x1 x2) : keep [0, 1, 4] (e24 x0 x1 x2) = (e23 x0 x1) := by kernel_rfl
theorem hb90_1 (x0 x1 x2) : boolOf? (ent (e24 x0 x1 x2) (.t 15)) = some x2 := by kernel_rfl
def g90_7 (k0 : V0 → V0 → Int → Option R) (x0 x1 : V0) : Option R :=
k0 x0 x1 (IntKind.i64.wrap ((x0.length : Int) - (1 : Int)))
theorem t90_7 (x0 x1) : exec cl N c90_7 (e23 x0 x1) K = (g90_7 (fun y0 y1 y2 => K .normal (e25 y0 y1 y2)) x0 x1) := by
 kernel_rfl
theorem kp90_3 (x0 x1 x2) : keep [0, 1, 5] (e25 x0 x1 x2) = (e25 x0 x1 x2) := by kernel_rfl
def g90_8 (k0 : V0 → V0 → Int → Bool → Option R) (x0 x1 : V0) (x2 : Int) : Option R :=
k0 x0 x1 x2 (decide (x2 ≥ (0 : Int)))
theorem t90_8 (x0 x1 x2) : exec cl N c90_8 (e25 x0 x1 x2) K = (g90_8 (fun y0 y1 y2 y3 => K .normal (e26 y0 y1 y2 y3)) x0 x1 x2) := by
 kernel_rfl
theorem kp90_4 (x0 x1 x2 x3) : keep [0, 1, 5] (e26 x0 x1 x2 x3) = (e25 x0 x1 x2) := by kernel_rfl
theorem hb90_2 (x0 x1 x2 x3) : boolOf? (ent (e26 x0 x1 x2 x3) (.t 20)) = some x3 := by kernel_rfl
def g90_10 (k0 : V0 → V0 → Int → Bool → Option R) (x0 x1 : V0) (x2 : Int) : Option R :=
if 0 ≤ x2 ∧ x2 < (x0.length : Int) then
if 0 ≤ x2 ∧ x2 < (x1.length : Int) then
k0 x0 x1 x2 (decide ((x0.getD x2.toNat (0 : Int)) < (x1.getD x2.toNat (0 : Int))))
else none
else none
theorem t90_10 (x0 x1 x2) : exec cl N c90_10 (e25 x0 x1 x2) K = (g90_10 (fun y0 y1 y2 y3 => K .normal (e27 y0 y1 y2 y3)) x0 x1 x2) := by
 kernel_rfl
def g90_11 (k0 : Int → Option R) (x0 x1 : V0) (x2 : Int) (x3 : Bool) : Option R :=
k0 (-1 : Int)
theorem t90_11 (x0 x1 x2 x3) : exec cl N c90_11 (e27 x0 x1 x2 x3) K = (g90_11 (fun y0 => K .normal [(4, .v U1 y0)]) x0 x1 x2 x3) := by
 kernel_rfl
theorem kp90_5 (x0) : keep [0, 1, 4, 5] [(4, .v U1 x0)] = (e28 x0) := by kernel_rfl
theorem kp90_6 (x0 x1 x2 x3) : keep [0, 1, 4, 5] (e27 x0 x1 x2 x3) = (e29 x0 x1 x2) := by kernel_rfl
theorem hb90_3 (x0 x1 x2 x3) : boolOf? (ent (e27 x0 x1 x2 x3) (.t 31)) = some x3 := by kernel_rfl
def g90_13 (k0 : V0 → V0 → Int → Bool → Option R) (x0 x1 : V0) (x2 : Int) : Option R :=
if 0 ≤ x2 ∧ x2 < (x0.length : Int) then
if 0 ≤ x2 ∧ x2 < (x1.length : Int) then
k0 x0 x1 x2 (decide ((x0.getD x2.toNat (0 : Int)) > (x1.getD x2.toNat (0 : Int))))
else none
else none
theorem t90_13 (x0 x1 x2) : exec cl N c90_13 (e29 x0 x1 x2) K = (g90_13 (fun y0 y1 y2 y3 => K .normal (e30 y0 y1 y2 y3)) x0 x1 x2) := by
 kernel_rfl
def g90_14 (k0 : Int → Option R) (x0 x1 : V0) (x2 : Int) (x3 : Bool) : Option R :=
k0 (1 : Int)
theorem t90_14 (x0 x1 x2 x3) : exec cl N c90_14 (e30 x0 x1 x2 x3) K = (g90_14 (fun y0 => K .normal [(4, .v U1 y0)]) x0 x1 x2 x3) := by
 kernel_rfl
theorem kp90_7 (x0 x1 x2 x3) : keep [0, 1, 4, 5] (e30 x0 x1 x2 x3) = (e29 x0 x1 x2) := by kernel_rfl
theorem hb90_4 (x0 x1 x2 x3) : boolOf? (ent (e30 x0 x1 x2 x3) (.t 40)) = some x3 := by kernel_rfl
theorem kp90_8 (x0) : keep [0, 1, 4, 5] (e28 x0) = (e28 x0) := by kernel_rfl
theorem kp90_9 (x0 x1 x2) : keep [0, 1, 4, 5] (e29 x0 x1 x2) = (e29 x0 x1 x2) := by kernel_rfl
def g90_17 (k0 : V0 → V0 → Int → Option R) (x0 x1 : V0) (x2 : Int) : Option R :=
k0 x0 x1 (IntKind.i64.wrap (x2 - (1 : Int)))
theorem t90_17 (x0 x1 x2) : exec cl N c90_17 (e29 x0 x1 x2) K = (g90_17 (fun y0 y1 y2 => K .normal (e25 y0 y1 y2)) x0 x1 x2) := by
 kernel_rfl
def g90_18 (k0 : Int → Option R) (k1 : V0 → V0 → Int → Option R) (k2 : V0 → V0 → Int → Option R) (x0 x1 : V0) (x2 : Int) : Option R :=
(g90_8 (fun y0 y1 y2 y3 => brB y3 ((g90_10 (fun y0 y1 y2 y3 => brB y3 (g90_11 k0 y0 y1 y2 y3) ((g90_13 (fun y0 y1 y2 y3 => brB y3 (g90_14 k0 y0 y1 y2 y3) (((g90_17 k1)) y0 y1 y2))) y0 y1 y2))) y0 y1 y2) (k2 y0 y1 y2)) x0 x1 x2)
theorem t90_18 (x0 x1 x2) : exec cl N c90_18 (e25 x0 x1 x2) K = (g90_18 (fun y0 => K .ret (e28 y0)) (fun y0 y1 y2 => K .normal (e25 y0 y1 y2)) (fun y0 y1 y2 => K (.exit 0) (e25 y0 y1 y2)) x0 x1 x2) := by
 simp only [c90_18, exec_seq, seqK_normal, seqK_exit, seqK_ret, t90_8, c90_9, exec_out, exec_cond', hb90_2, Option.bind_some, brB_true, brB_false, exec_skip, exec_exit, kp90_4, c90_16, exec_block, t90_10, c90_12, hb90_3, t90_11, exec_ret, kp90_5, kp90_6, t90_13, c90_15, hb90_4, t90_14, kp90_7, blockK_normal, blockK_ret, blockK_eq, kp90_8, kp90_9, t90_17]
 rfl
def l90_19 {R : Type} (k0 : Int → Option R) (k1 : V0 → V0 → Int → Option R) : Nat → V0 → V0 → Int → Option R
 | 0, _, _, _ => none
 | m + 1, x0, x1, x2 => (g90_18 k0 (l90_19 k0 k1 m) k1 x0 x1 x2)
theorem lt90_19 : ∀ (m) (x0 x1 x2), iter [0, 1, 5] (fun env K => exec cl N c90_18 env K) K m (e25 x0 x1 x2) = l90_19 (fun y0 => K .ret (e28 y0)) (fun y0 y1 y2 => K (.exit 0) (e25 y0 y1 y2)) m x0 x1 x2 := by
 intro m
 induction m with
 | zero => intros; rfl
 | succ m ih =>
   intro x0 x1 x2
   simp only [iter_succ, t90_18, loopK_normal, loopK_exit, loopK_ret, kp90_3, ih]
   rfl
theorem kp90_10 (x0) : keep [4] (e28 x0) = [(4, .v U1 x0)] := by kernel_rfl
theorem kp90_11 (x0 x1 x2) : keep [4] (e25 x0 x1 x2) = [(4, .dead)] := by kernel_rfl
def g90_19 (N : Nat) (k0 : Int → Option R) (k1 : Option R) (x0 x1 : V0) (x2 : Int) : Option R :=
l90_19 k0 (fun y0 y1 y2 => k1) N x0 x1 x2
theorem t90_19 (x0 x1 x2) : exec cl N c90_19 (e25 x0 x1 x2) K = (g90_19 N (fun y0 => K .ret [(4, .v U1 y0)]) (K (.exit 0) [(4, .dead)]) x0 x1 x2) := by
 simp only [c90_19, exec_out, exec_loop, kp90_3, lt90_19, kp90_10, kp90_11]
 rfl
theorem kp90_12 (x0) : keep [4] [(4, .v U1 x0)] = [(4, .v U1 x0)] := by kernel_rfl
theorem kp90_13 : keep [4] [(4, .dead)] = [(4, .dead)] := by kernel_rfl
def g90_21 (k0 : Int → Option R) : Option R :=
k0 (0 : Int)
theorem t90_21 : exec cl N c90_21 [(4, .dead)] K = (g90_21 (fun y0 => K .normal [(4, .v U1 y0)])) := by
 kernel_rfl
def g90_22 (N : Nat) (k0 : Int → Option R) (k1 : Int → Option R) (x0 x1 : V0) : Option R :=
(g90_0 (g90_1 (fun y0 y1 y2 => brB y2 (g90_2 k0 y0 y1 y2) ((g90_4 (fun y0 y1 y2 => brB y2 (g90_5 k0 y0 y1 y2) ((g90_7 (g90_19 N k1 (g90_21 k1))) y0 y1))) y0 y1))) x0 x1)
theorem t90_22 (x0 x1) : exec cl N c90_22 (e20 x0 x1) K = (g90_22 N (fun y0 => K .ret (e22 y0)) (fun y0 => K .ret [(4, .v U1 y0)]) x0 x1) := by
 simp only [c90_22, exec_seq, seqK_normal, seqK_exit, seqK_ret, t90_0, t90_1, c90_3, exec_out, exec_cond', hb90_0, Option.bind_some, brB_true, brB_false, t90_2, exec_ret, exec_skip, kp90_0, kp90_1, t90_4, c90_6, hb90_1, t90_5, kp90_2, t90_7, c90_20, exec_block, t90_19, blockK_normal, blockK_ret, blockK_eq, kp90_12, kp90_13, t90_21]
 rfl
theorem rk90_0 (y0) : retK d90 .ret (e22 y0) = some [.v U1 y0] := by kernel_rfl
theorem rk90_1 (y0) : retK d90 .ret [(4, .v U1 y0)] = some [.v U1 y0] := by kernel_rfl
def g90 (N : Nat) (x0 x1 : V0) (k : Int → Option R) : Option R :=
(g90_22 N k k x0 x1)
theorem gen90 (x0 x1) (k : List E → Option R) : exec cl N c90 (e20 x0 x1) (fun e env => (retK d90 e env).bind k) = g90 N x0 x1 (fun r0 => k [.v U1 r0]) := by
 simp only [c90, t90_22, rk90_0, rk90_1, Option.bind_some]
 rfl
def ctr90 (S : V0 → V0 → Option (Int)) : Ctr := cv2 90 U2 U2 S fun b => [.v U1 b]
def S90 (N : Nat) (x0 : V0) (x1 : V0) : Option (Int) := g90 N x0 x1 (fun (r0 : Int) => some (r0))
def g112_0 (k0 : V0 → Int → Option R) (x0 : V0) (x1 : Int) : Option R :=
k0 x0 x1
theorem t112_0 (x0 x1) : exec cl N c112_0 (e31 x0 x1) K = (g112_0 (fun y0 y1 => K .normal (e31 y0 y1)) x0 x1) := by
 kernel_rfl
def g112_1 (k0 : V0 → Int → Bool → Option R) (x0 : V0) (x1 : Int) : Option R :=
k0 x0 x1 (decide (x1 < (x0.length : Int)))
theorem t112_1 (x0 x1) : exec cl N c112_1 (e31 x0 x1) K = (g112_1 (fun y0 y1 y2 => K .normal (e32 y0 y1 y2)) x0 x1) := by
 kernel_rfl
def g112_2 (k0 : Int → Option R) (x0 : V0) (x1 : Int) (x2 : Bool) : Option R :=
if 0 ≤ x1 ∧ x1 < (x0.length : Int) then
k0 (x0.getD x1.toNat (0 : Int))
else none
theorem t112_2 (x0 x1 x2) : exec cl N c112_2 (e32 x0 x1 x2) K = (g112_2 (fun y0 => K .normal [(4, .v U1 y0)]) x0 x1 x2) := by
 kernel_rfl
theorem kp112_0 (x0) : keep [4] [(4, .v U1 x0)] = [(4, .v U1 x0)] := by kernel_rfl
theorem kp112_1 (x0 x1 x2) : keep [4] (e32 x0 x1 x2) = [(4, .dead)] := by kernel_rfl
theorem hb112_0 (x0 x1 x2) : boolOf? (ent (e32 x0 x1 x2) (.t 8)) = some x2 := by kernel_rfl
def g112_4 (k0 : Int → Option R) : Option R :=
k0 (0 : Int)
theorem t112_4 : exec cl N c112_4 [(4, .dead)] K = (g112_4 (fun y0 => K .normal [(4, .v U1 y0)])) := by
 kernel_rfl
def g112_5 (k0 : Int → Option R) (x0 : V0) (x1 : Int) : Option R :=
(g112_0 (g112_1 (fun y0 y1 y2 => brB y2 (g112_2 k0 y0 y1 y2) (g112_4 k0))) x0 x1)
theorem t112_5 (x0 x1) : exec cl N c112_5 (e31 x0 x1) K = (g112_5 (fun y0 => K .ret [(4, .v U1 y0)]) x0 x1) := by
 simp only [c112_5, exec_seq, seqK_normal, seqK_exit, seqK_ret, t112_0, t112_1, c112_3, exec_out, exec_cond', hb112_0, Option.bind_some, brB_true, brB_false, t112_2, exec_ret, exec_skip, kp112_0, kp112_1, t112_4]
 rfl
theorem rk112_0 (y0) : retK d112 .ret [(4, .v U1 y0)] = some [.v U1 y0] := by kernel_rfl
def g112 (x0 : V0) (x1 : Int) (k : Int → Option R) : Option R :=
(g112_5 k x0 x1)
theorem gen112 (x0 x1) (k : List E → Option R) : exec cl N c112 (e31 x0 x1) (fun e env => (retK d112 e env).bind k) = g112 x0 x1 (fun r0 => k [.v U1 r0]) := by
 simp only [c112, t112_5, rk112_0, Option.bind_some]
 rfl
def ctr112 (S : V0 → Int → Option (Int)) : Ctr := cv2 112 U2 U1 S fun b => [.v U1 b]
def S112 (N : Nat) (x0 : V0) (x1 : Int) : Option (Int) := g112 x0 x1 (fun (r0 : Int) => some (r0))
def g91_22 (k0 : V0 → V0 → V0 → Int → Option R) (x0 x1 : V0) : Option R :=
k0 x0 x1 [] (0 : Int)
theorem t91_22 (x0 x1) : exec cl N c91_22 (e20 x0 x1) K = (g91_22 (fun y0 y1 y2 y3 => exec cl N (.seq (.seq c91_3 c91_20) (.seq c91_21 .ret)) (e33 y0 y1 y2 y3) K) x0 x1) := by
 kernel_rfl
def g91_3 (k0 : V0 → V0 → V0 → Int → Int → Option R) (x0 x1 x2 : V0) (x3 : Int) : Option R :=
k0 x0 x1 x2 x3 (0 : Int)
theorem t91_3 (x0 x1 x2 x3) : exec cl N c91_3 (e33 x0 x1 x2 x3) K = (g91_3 (fun y0 y1 y2 y3 y4 => K .normal (e34 y0 y1 y2 y3 y4)) x0 x1 x2 x3) := by
 kernel_rfl
theorem kp91_0 (x0 x1 x2 x3 x4) : keep [0, 1, 5, 6, 7] (e34 x0 x1 x2 x3 x4) = (e34 x0 x1 x2 x3 x4) := by kernel_rfl
def g91_4 (k0 : V0 → V0 → V0 → Int → Int → Bool → Option R) (x0 x1 x2 : V0) (x3 x4 : Int) : Option R :=
k0 x0 x1 x2 x3 x4 (decide (x4 < (x0.length : Int)))
theorem t91_4 (x0 x1 x2 x3 x4) : exec cl N c91_4 (e34 x0 x1 x2 x3 x4) K = (g91_4 (fun y0 y1 y2 y3 y4 y5 => K .normal (e35 y0 y1 y2 y3 y4 y5)) x0 x1 x2 x3 x4) := by
 kernel_rfl
theorem kp91_1 (x0 x1 x2 x3 x4 x5) : keep [0, 1, 5, 6, 7] (e35 x0 x1 x2 x3 x4 x5) = (e34 x0 x1 x2 x3 x4) := by kernel_rfl
theorem hb91_0 (x0 x1 x2 x3 x4 x5) : boolOf? (ent (e35 x0 x1 x2 x3 x4 x5) (.t 12)) = some x5 := by kernel_rfl
def g91_15 (S112 : V0 → Int → Option (Int)) (k0 : V0 → V0 → V0 → Int → Int → Int → Option R) (x0 x1 x2 : V0) (x3 x4 : Int) : Option R :=
if 0 ≤ x4 ∧ x4 < (x0.length : Int) then
(S112 x1 x4).bind fun r158 =>
k0 x0 x1 x2 (0 : Int) x4 (IntKind.i64.wrap ((IntKind.i64.wrap ((x0.getD x4.toNat (0 : Int)) - r158)) - x3))
else none
theorem t91_15 (S112) (h112 : (ctr112 S112).holds cl) (x0 x1 x2 x3 x4) : exec cl N c91_15 (e34 x0 x1 x2 x3 x4) K = (g91_15 S112 (fun y0 y1 y2 y3 y4 y5 => exec cl N (.seq c91_13 c91_14) (e36 y0 y1 y2 y3 y4 y5) K) x0 x1 x2 x3 x4) := by
 rw [← put_eq h112]
 kernel_rfl
def g91_8 (k0 : V0 → V0 → V0 → Int → Int → Int → Bool → Option R) (x0 x1 x2 : V0) (x3 x4 x5 : Int) : Option R :=
k0 x0 x1 x2 x3 x4 x5 (decide (x5 < (0 : Int)))
theorem t91_8 (x0 x1 x2 x3 x4 x5) : exec cl N c91_8 (e36 x0 x1 x2 x3 x4 x5) K = (g91_8 (fun y0 y1 y2 y3 y4 y5 y6 => K .normal (e37 y0 y1 y2 y3 y4 y5 y6)) x0 x1 x2 x3 x4 x5) := by
 kernel_rfl
def g91_11 (k0 : V0 → V0 → V0 → Int → Int → Int → Option R) (x0 x1 x2 : V0) (x3 x4 x5 : Int) (x6 : Bool) : Option R :=
k0 x0 x1 x2 (1 : Int) x4 (IntKind.i64.wrap (x5 + (10000 : Int)))
theorem t91_11 (x0 x1 x2 x3 x4 x5 x6) : exec cl N c91_11 (e37 x0 x1 x2 x3 x4 x5 x6) K = (g91_11 (fun y0 y1 y2 y3 y4 y5 => K .normal (e36 y0 y1 y2 y3 y4 y5)) x0 x1 x2 x3 x4 x5 x6) := by
 kernel_rfl
theorem kp91_2 (x0 x1 x2 x3 x4 x5) : keep [0, 1, 5, 6, 7, 8] (e36 x0 x1 x2 x3 x4 x5) = (e36 x0 x1 x2 x3 x4 x5) := by kernel_rfl
theorem kp91_3 (x0 x1 x2 x3 x4 x5 x6) : keep [0, 1, 5, 6, 7, 8] (e37 x0 x1 x2 x3 x4 x5 x6) = (e36 x0 x1 x2 x3 x4 x5) := by kernel_rfl
theorem hb91_1 (x0 x1 x2 x3 x4 x5 x6) : boolOf? (ent (e37 x0 x1 x2 x3 x4 x5 x6) (.t 26)) = some x6 := by kernel_rfl
def g91_13 (k0 : V0 → V0 → V0 → Int → Int → Int → Option R) (x0 x1 x2 : V0) (x3 x4 x5 : Int) : Option R :=
(g91_8 (fun y0 y1 y2 y3 y4 y5 y6 => brB y6 (g91_11 k0 y0 y1 y2 y3 y4 y5 y6) (k0 y0 y1 y2 y3 y4 y5)) x0 x1 x2 x3 x4 x5)
theorem t91_13 (x0 x1 x2 x3 x4 x5) : exec cl N c91_13 (e36 x0 x1 x2 x3 x4 x5) K = (g91_13 (fun y0 y1 y2 y3 y4 y5 => K .normal (e36 y0 y1 y2 y3 y4 y5)) x0 x1 x2 x3 x4 x5) := by
 simp only [c91_13, exec_seq, seqK_normal, seqK_exit, seqK_ret, t91_8, c91_12, exec_out, exec_cond', hb91_1, Option.bind_some, brB_true, brB_false, t91_11, exec_skip, kp91_2, kp91_3]
 rfl
def g91_14 (k0 : V0 → V0 → V0 → Int → Int → Option R) (x0 x1 x2 : V0) (x3 x4 x5 : Int) : Option R :=
if x2.length + [x5].length ≤ 17592186044416 then
k0 x0 x1 (x2 ++ [x5]) x3 x4
else none
theorem t91_14 (x0 x1 x2 x3 x4 x5) : exec cl N c91_14 (e36 x0 x1 x2 x3 x4 x5) K = (g91_14 (fun y0 y1 y2 y3 y4 => K .normal (e34 y0 y1 y2 y3 y4)) x0 x1 x2 x3 x4 x5) := by
 kernel_rfl
def g91_17 (k0 : V0 → V0 → V0 → Int → Int → Option R) (x0 x1 x2 : V0) (x3 x4 : Int) : Option R :=
k0 x0 x1 x2 x3 (IntKind.i64.wrap (x4 + (1 : Int)))
theorem t91_17 (x0 x1 x2 x3 x4) : exec cl N c91_17 (e34 x0 x1 x2 x3 x4) K = (g91_17 (fun y0 y1 y2 y3 y4 => K .normal (e34 y0 y1 y2 y3 y4)) x0 x1 x2 x3 x4) := by
 kernel_rfl
def g91_18 (S112 : V0 → Int → Option (Int)) (k0 : V0 → V0 → V0 → Int → Int → Option R) (k1 : V0 → V0 → V0 → Int → Int → Option R) (x0 x1 x2 : V0) (x3 x4 : Int) : Option R :=
(g91_4 (fun y0 y1 y2 y3 y4 y5 => brB y5 ((g91_15 S112 (g91_13 (g91_14 ((g91_17 k0))))) y0 y1 y2 y3 y4) (k1 y0 y1 y2 y3 y4)) x0 x1 x2 x3 x4)
theorem t91_18 (S112) (h112 : (ctr112 S112).holds cl) (x0 x1 x2 x3 x4) : exec cl N c91_18 (e34 x0 x1 x2 x3 x4) K = (g91_18 S112 (fun y0 y1 y2 y3 y4 => K .normal (e34 y0 y1 y2 y3 y4)) (fun y0 y1 y2 y3 y4 => K (.exit 0) (e34 y0 y1 y2 y3 y4)) x0 x1 x2 x3 x4) := by
 simp only [c91_18, exec_seq, seqK_normal, seqK_exit, seqK_ret, t91_4, c91_5, exec_out, exec_cond', hb91_0, Option.bind_some, brB_true, brB_false, exec_skip, exec_exit, kp91_1, c91_16, exec_block, t91_15 S112 h112, t91_13, t91_14, blockK_normal, blockK_ret, blockK_eq, kp91_0, t91_17]
 rfl
def l91_19 {R : Type} (S112 : V0 → Int → Option (Int)) (k0 : V0 → V0 → V0 → Int → Int → Option R) : Nat → V0 → V0 → V0 → Int → Int → Option R
 | 0, _, _, _, _, _ => none
 | m + 1, x0, x1, x2, x3, x4 => (g91_18 S112 (l91_19 S112 k0 m) k0 x0 x1 x2 x3 x4)
theorem lt91_19 (S112) (h112 : (ctr112 S112).holds cl) : ∀ (m) (x0 x1 x2 x3 x4), iter [0, 1, 5, 6, 7] (fun env K => exec cl N c91_18 env K) K m (e34 x0 x1 x2 x3 x4) = l91_19 S112 (fun y0 y1 y2 y3 y4 => K (.exit 0) (e34 y0 y1 y2 y3 y4)) m x0 x1 x2 x3 x4 := by
 intro m
 induction m with
 | zero => intros; rfl
 | succ m ih =>
   intro x0 x1 x2 x3 x4
   simp only [iter_succ, t91_18 S112 h112, loopK_normal, loopK_exit, loopK_ret, kp91_0, ih]
   rfl
theorem kp91_4 (x0 x1 x2 x3 x4) : keep [5] (e34 x0 x1 x2 x3 x4) = (e38 x2) := by kernel_rfl
def g91_19 (N : Nat) (S112 : V0 → Int → Option (Int)) (k0 : V0 → Option R) (x0 x1 x2 : V0) (x3 x4 : Int) : Option R :=
l91_19 S112 (fun y0 y1 y2 y3 y4 => k0 y2) N x0 x1 x2 x3 x4
theorem t91_19 (S112) (h112 : (ctr112 S112).holds cl) (x0 x1 x2 x3 x4) : exec cl N c91_19 (e34 x0 x1 x2 x3 x4) K = (g91_19 N S112 (fun y0 => K (.exit 0) (e38 y0)) x0 x1 x2 x3 x4) := by
 simp only [c91_19, exec_out, exec_loop, kp91_0, lt91_19 S112 h112, kp91_4]
 rfl
theorem kp91_5 (x0) : keep [5] (e38 x0) = (e38 x0) := by kernel_rfl
def g91_21 (S113 : V0 → Option V1) (k0 : V0 → Option R) (x0 : V0) : Option R :=
(S113 x0).bind fun r165 =>
k0 r165
theorem t91_21 (S113) (h113 : (ctr113 S113).holds cl) (x0) : exec cl N c91_21 (e38 x0) K = (g91_21 S113 (fun y0 => K .normal [(4, .v U2 y0)]) x0) := by
 rw [← put_eq h113]
 kernel_rfl
def g91_22b (N : Nat) (S112 : V0 → Int → Option (Int)) (S113 : V0 → Option V1) (k0 : V0 → Option R) (x0 x1 : V0) : Option R :=
(g91_22 (g91_3 (g91_19 N S112 ((g91_21 S113 k0)))) x0 x1)
theorem t91_22b (S112) (S113) (h112 : (ctr112 S112).holds cl) (h113 : (ctr113 S113).holds cl) (x0 x1) : exec cl N c91_22 (e20 x0 x1) K = (g91_22b N S112 S113 (fun y0 => K .ret [(4, .v U2 y0)]) x0 x1) := by
 simp only [exec_seq, seqK_normal, seqK_exit, seqK_ret, t91_22, t91_3, c91_20, exec_out, exec_block, t91_19 S112 h112, blockK_normal, blockK_ret, blockK_eq, kp91_5, t91_21 S113 h113, exec_ret]
 rfl
theorem rk91_0 (y0) : retK d91 .ret [(4, .v U2 y0)] = some [.v U2 y0] := by kernel_rfl
def g91 (N : Nat) (S112 : V0 → Int → Option (Int)) (S113 : V0 → Option V1) (x0 x1 : V0) (k : V0 → Option R) : Option R :=
(g91_22b N S112 S113 k x0 x1)
theorem gen91 (S112) (S113) (h112 : (ctr112 S112).holds cl) (h113 : (ctr113 S113).holds cl) (x0 x1) (k : List E → Option R) : exec cl N c91 (e20 x0 x1) (fun e env => (retK d91 e env).bind k) = g91 N S112 S113 x0 x1 (fun r0 => k [.v U2 r0]) := by
 simp only [c91, t91_22b S112 S113 h112 h113, rk91_0, Option.bind_some]
 rfl
def ctr91 (S : V0 → V0 → Option V1) : Ctr := cv2 91 U2 U2 S fun b => [.v U2 b]
def S91 (N : Nat) (x0 : V0) (x1 : V0) : Option V1 := g91 N (S112 N) (S113 N) x0 x1 (fun (r0 : V0) => some (r0))
def g89_16 (k0 : V0 → V0 → V0 → Int → Option R) (x0 x1 : V0) : Option R :=
k0 x0 x1 [] (0 : Int)
theorem t89_16 (x0 x1) : exec cl N c89_16 (e20 x0 x1) K = (g89_16 (fun y0 y1 y2 y3 => exec cl N (.seq (.seq c89_3 c89_14) (.seq c89_15 .ret)) (e33 y0 y1 y2 y3) K) x0 x1) := by
 kernel_rfl
def g89_3 (k0 : V0 → V0 → V0 → Int → Int → Option R) (x0 x1 x2 : V0) (x3 : Int) : Option R :=
k0 x0 x1 x2 x3 (0 : Int)
theorem t89_3 (x0 x1 x2 x3) : exec cl N c89_3 (e33 x0 x1 x2 x3) K = (g89_3 (fun y0 y1 y2 y3 y4 => K .normal (e34 y0 y1 y2 y3 y4)) x0 x1 x2 x3) := by
 kernel_rfl
theorem kp89_0 (x0 x1 x2 x3 x4) : keep [0, 1, 5, 6, 7] (e34 x0 x1 x2 x3 x4) = (e34 x0 x1 x2 x3 x4) := by kernel_rfl
def g89_4 (k0 : V0 → V0 → V0 → Int → Int → Bool → Option R) (x0 x1 x2 : V0) (x3 x4 : Int) : Option R :=
brB (decide (x4 < (x0.length : Int))) (k0 x0 x1 x2 x3 x4 true) (k0 x0 x1 x2 x3 x4 (decide (x4 < (x1.length : Int))))
theorem t89_4 (x0 x1 x2 x3 x4) : exec cl N c89_4 (e34 x0 x1 x2 x3 x4) K = (g89_4 (fun y0 y1 y2 y3 y4 y5 => K .normal (e39 y0 y1 y2 y3 y4 y5)) x0 x1 x2 x3 x4) := by
 kernel_rfl
theorem kp89_1 (x0 x1 x2 x3 x4 x5) : keep [0, 1, 5, 6, 7] (e39 x0 x1 x2 x3 x4 x5) = (e34 x0 x1 x2 x3 x4) := by kernel_rfl
theorem hb89_0 (x0 x1 x2 x3 x4 x5) : boolOf? (ent (e39 x0 x1 x2 x3 x4 x5) (.t 18)) = some x5 := by kernel_rfl
def g89_9 (S112 : V0 → Int → Option (Int)) (k0 : V0 → V0 → V0 → Int → Int → Option R) (x0 x1 x2 : V0) (x3 x4 : Int) : Option R :=
(S112 x0 x4).bind fun r199 =>
(S112 x1 x4).bind fun r200 =>
let v202 : Int := (IntKind.i64.wrap ((IntKind.i64.wrap (r199 + r200)) + x3))
let v203 : Int := (Int.tmod v202 (10000 : Int))
if x2.length + [v203].length ≤ 17592186044416 then
k0 x0 x1 (x2 ++ [v203]) (IntKind.i64.wrap (Int.tdiv v202 (10000 : Int))) x4
else none
theorem t89_9 (S112) (h112 : (ctr112 S112).holds cl) (x0 x1 x2 x3 x4) : exec cl N c89_9 (e34 x0 x1 x2 x3 x4) K = (g89_9 S112 (fun y0 y1 y2 y3 y4 => K .normal (e34 y0 y1 y2 y3 y4)) x0 x1 x2 x3 x4) := by
 rw [← put_eq h112]
 kernel_rfl
def g89_11 (k0 : V0 → V0 → V0 → Int → Int → Option R) (x0 x1 x2 : V0) (x3 x4 : Int) : Option R :=
k0 x0 x1 x2 x3 (IntKind.i64.wrap (x4 + (1 : Int)))
theorem t89_11 (x0 x1 x2 x3 x4) : exec cl N c89_11 (e34 x0 x1 x2 x3 x4) K = (g89_11 (fun y0 y1 y2 y3 y4 => K .normal (e34 y0 y1 y2 y3 y4)) x0 x1 x2 x3 x4) := by
 kernel_rfl
def g89_12 (S112 : V0 → Int → Option (Int)) (k0 : V0 → V0 → V0 → Int → Int → Option R) (k1 : V0 → V0 → V0 → Int → Int → Option R) (x0 x1 x2 : V0) (x3 x4 : Int) : Option R :=
(g89_4 (fun y0 y1 y2 y3 y4 y5 => brB y5 ((g89_9 S112 ((g89_11 k0))) y0 y1 y2 y3 y4) (k1 y0 y1 y2 y3 y4)) x0 x1 x2 x3 x4)
theorem t89_12 (S112) (h112 : (ctr112 S112).holds cl) (x0 x1 x2 x3 x4) : exec cl N c89_12 (e34 x0 x1 x2 x3 x4) K = (g89_12 S112 (fun y0 y1 y2 y3 y4 => K .normal (e34 y0 y1 y2 y3 y4)) (fun y0 y1 y2 y3 y4 => K (.exit 0) (e34 y0 y1 y2 y3 y4)) x0 x1 x2 x3 x4) := by
 simp only [c89_12, exec_seq, seqK_normal, seqK_exit, seqK_ret, t89_4, c89_5, exec_out, exec_cond', hb89_0, Option.bind_some, brB_true, brB_false, exec_skip, exec_exit, kp89_1, c89_10, exec_block, t89_9 S112 h112, blockK_normal, blockK_ret, blockK_eq, kp89_0, t89_11]
 rfl
def l89_13 {R : Type} (S112 : V0 → Int → Option (Int)) (k0 : V0 → V0 → V0 → Int → Int → Option R) : Nat → V0 → V0 → V0 → Int → Int → Option R
 | 0, _, _, _, _, _ => none
 | m + 1, x0, x1, x2, x3, x4 => (g89_12 S112 (l89_13 S112 k0 m) k0 x0 x1 x2 x3 x4)
theorem lt89_13 (S112) (h112 : (ctr112 S112).holds cl) : ∀ (m) (x0 x1 x2 x3 x4), iter [0, 1, 5, 6, 7] (fun env K => exec cl N c89_12 env K) K m (e34 x0 x1 x2 x3 x4) = l89_13 S112 (fun y0 y1 y2 y3 y4 => K (.exit 0) (e34 y0 y1 y2 y3 y4)) m x0 x1 x2 x3 x4 := by
 intro m
 induction m with
 | zero => intros; rfl
 | succ m ih =>
   intro x0 x1 x2 x3 x4
   simp only [iter_succ, t89_12 S112 h112, loopK_normal, loopK_exit, loopK_ret, kp89_0, ih]
   rfl
theorem kp89_2 (x0 x1 x2 x3 x4) : keep [5, 6] (e34 x0 x1 x2 x3 x4) = (e40 x2 x3) := by kernel_rfl
def g89_13 (N : Nat) (S112 : V0 → Int → Option (Int)) (k0 : V0 → Int → Option R) (x0 x1 x2 : V0) (x3 x4 : Int) : Option R :=
l89_13 S112 (fun y0 y1 y2 y3 y4 => k0 y2 y3) N x0 x1 x2 x3 x4
theorem t89_13 (S112) (h112 : (ctr112 S112).holds cl) (x0 x1 x2 x3 x4) : exec cl N c89_13 (e34 x0 x1 x2 x3 x4) K = (g89_13 N S112 (fun y0 y1 => K (.exit 0) (e40 y0 y1)) x0 x1 x2 x3 x4) := by
 simp only [c89_13, exec_out, exec_loop, kp89_0, lt89_13 S112 h112, kp89_2]
 rfl
theorem kp89_3 (x0 x1) : keep [5, 6] (e40 x0 x1) = (e40 x0 x1) := by kernel_rfl
def g89_15 (S113 : V0 → Option V1) (k0 : V0 → Option R) (x0 : V0) (x1 : Int) : Option R :=
if x0.length + [x1].length ≤ 17592186044416 then
(S113 (x0 ++ [x1])).bind fun r206 =>
k0 r206
else none
theorem t89_15 (S113) (h113 : (ctr113 S113).holds cl) (x0 x1) : exec cl N c89_15 (e40 x0 x1) K = (g89_15 S113 (fun y0 => K .normal [(4, .v U2 y0)]) x0 x1) := by
 rw [← put_eq h113]
 kernel_rfl
def g89_16b (N : Nat) (S112 : V0 → Int → Option (Int)) (S113 : V0 → Option V1) (k0 : V0 → Option R) (x0 x1 : V0) : Option R :=
(g89_16 (g89_3 (g89_13 N S112 ((g89_15 S113 k0)))) x0 x1)
theorem t89_16b (S112) (S113) (h112 : (ctr112 S112).holds cl) (h113 : (ctr113 S113).holds cl) (x0 x1) : exec cl N c89_16 (e20 x0 x1) K = (g89_16b N S112 S113 (fun y0 => K .ret [(4, .v U2 y0)]) x0 x1) := by
 simp only [exec_seq, seqK_normal, seqK_exit, seqK_ret, t89_16, t89_3, c89_14, exec_out, exec_block, t89_13 S112 h112, blockK_normal, blockK_ret, blockK_eq, kp89_3, t89_15 S113 h113, exec_ret]
 rfl
theorem rk89_0 (y0) : retK d89 .ret [(4, .v U2 y0)] = some [.v U2 y0] := by kernel_rfl
def g89 (N : Nat) (S112 : V0 → Int → Option (Int)) (S113 : V0 → Option V1) (x0 x1 : V0) (k : V0 → Option R) : Option R :=
(g89_16b N S112 S113 k x0 x1)
theorem gen89 (S112) (S113) (h112 : (ctr112 S112).holds cl) (h113 : (ctr113 S113).holds cl) (x0 x1) (k : List E → Option R) : exec cl N c89 (e20 x0 x1) (fun e env => (retK d89 e env).bind k) = g89 N S112 S113 x0 x1 (fun r0 => k [.v U2 r0]) := by
 simp only [c89, t89_16b S112 S113 h112 h113, rk89_0, Option.bind_some]
 rfl
def ctr89 (S : V0 → V0 → Option V1) : Ctr := cv2 89 U2 U2 S fun b => [.v U2 b]
def S89 (N : Nat) (x0 : V0) (x1 : V0) : Option V1 := g89 N (S112 N) (S113 N) x0 x1 (fun (r0 : V0) => some (r0))
def g83_0 (k0 : V4 → V4 → V4 → Option R) (x0 x1 : V4) : Option R :=
k0 x0 x1 ([], ())
theorem t83_0 (x0 x1) : exec cl N c83_0 (e41 x0 x1) K = (g83_0 (fun y0 y1 y2 => K .normal (e42 y0 y1 y2)) x0 x1) := by
 kernel_rfl
def g83_1 (S86 : V4 → Option (Bool)) (k0 : V4 → V4 → V4 → Bool → Option R) (x0 x1 x2 : V4) : Option R :=
(S86 x0).bind fun r209 =>
brB (!r209) (k0 x0 x1 x2 true) ((S86 x1).bind fun r210 =>
k0 x0 x1 x2 (!r210))
theorem t83_1 (S86) (h86 : (ctr86 S86).holds cl) (x0 x1 x2) : exec cl N c83_1 (e42 x0 x1 x2) K = (g83_1 S86 (fun y0 y1 y2 y3 => K .normal (e43 y0 y1 y2 y3)) x0 x1 x2) := by
 rw [← put_eq h86]
 kernel_rfl
def g83_2 (k0 : V4 → Int → Option R) (x0 x1 x2 : V4) (x3 : Bool) : Option R :=
k0 ([], ()) (1 : Int)
theorem t83_2 (x0 x1 x2 x3) : exec cl N c83_2 (e43 x0 x1 x2 x3) K = (g83_2 (fun y0 y1 => K .normal (e44 y0 y1)) x0 x1 x2 x3) := by
 kernel_rfl
theorem kp83_0 (x0 x1) : keep [2, 3, 4, 5] (e44 x0 x1) = (e45 x0 x1) := by kernel_rfl
theorem kp83_1 (x0 x1 x2 x3) : keep [2, 3, 4, 5] (e43 x0 x1 x2 x3) = (e46 x0 x1 x2) := by kernel_rfl
theorem hb83_0 (x0 x1 x2 x3) : boolOf? (ent (e43 x0 x1 x2 x3) (.t 18)) = some x3 := by kernel_rfl
def g83_4 (k0 : V4 → V0 → V0 → Option R) (x0 x1 x2 : V4) : Option R :=
k0 x2 x0.1 x1.1
theorem t83_4 (x0 x1 x2) : exec cl N c83_4 (e46 x0 x1 x2) K = (g83_4 (fun y0 y1 y2 => K .normal (e47 y0 y1 y2)) x0 x1 x2) := by
 kernel_rfl
def g83_5 (k0 : V4 → V0 → V0 → Bool → Option R) (x0 : V4) (x1 x2 : V0) : Option R :=
k0 x0 x1 x2 ((x1.length : Int) == (0 : Int))
theorem t83_5 (x0 x1 x2) : exec cl N c83_5 (e47 x0 x1 x2) K = (g83_5 (fun y0 y1 y2 y3 => K .normal (e48 y0 y1 y2 y3)) x0 x1 x2) := by
 kernel_rfl
def g83_6 (k0 : V4 → Int → Option R) (x0 : V4) (x1 x2 : V0) (x3 : Bool) : Option R :=
if ([] : List Int).length + x2.length ≤ 17592186044416 then
k0 ((([] : List Int) ++ x2), ()) (0 : Int)
else none
theorem t83_6 (x0 x1 x2 x3) : exec cl N c83_6 (e48 x0 x1 x2 x3) K = (g83_6 (fun y0 y1 => K .normal (e49 y0 y1)) x0 x1 x2 x3) := by
 kernel_rfl
theorem kp83_2 (x0 x1) : keep [4, 5, 6, 7] (e49 x0 x1) = (e50 x0 x1) := by kernel_rfl
theorem kp83_3 (x0 x1 x2 x3) : keep [4, 5, 6, 7] (e48 x0 x1 x2 x3) = (e51 x0 x1 x2) := by kernel_rfl
theorem hb83_1 (x0 x1 x2 x3) : boolOf? (ent (e48 x0 x1 x2 x3) (.t 26)) = some x3 := by kernel_rfl
def g83_8 (k0 : V4 → V0 → V0 → Int → Option R) (x0 : V4) (x1 x2 : V0) : Option R :=
k0 x0 x1 x2 (0 : Int)
theorem t83_8 (x0 x1 x2) : exec cl N c83_8 (e51 x0 x1 x2) K = (g83_8 (fun y0 y1 y2 y3 => K .normal (e52 y0 y1 y2 y3)) x0 x1 x2) := by
 kernel_rfl
theorem kp83_4 (x0 x1 x2 x3) : keep [4, 6, 7, 8] (e52 x0 x1 x2 x3) = (e52 x0 x1 x2 x3) := by kernel_rfl
def g83_9 (k0 : V4 → V0 → V0 → Int → Bool → Option R) (x0 : V4) (x1 x2 : V0) (x3 : Int) : Option R :=
k0 x0 x1 x2 x3 (decide ((x2.length : Int) > (0 : Int)))
theorem t83_9 (x0 x1 x2 x3) : exec cl N c83_9 (e52 x0 x1 x2 x3) K = (g83_9 (fun y0 y1 y2 y3 y4 => K .normal (e53 y0 y1 y2 y3 y4)) x0 x1 x2 x3) := by
 kernel_rfl
theorem kp83_5 (x0 x1 x2 x3 x4) : keep [4, 6, 7, 8] (e53 x0 x1 x2 x3 x4) = (e52 x0 x1 x2 x3) := by kernel_rfl
theorem hb83_2 (x0 x1 x2 x3 x4) : boolOf? (ent (e53 x0 x1 x2 x3 x4) (.t 33)) = some x4 := by kernel_rfl
def g83_11 (S108 : V0 → Option (Bool)) (k0 : V4 → V0 → V0 → Int → Bool → Option R) (x0 : V4) (x1 x2 : V0) (x3 : Int) : Option R :=
(S108 x1).bind fun r214 =>
brB r214 ((S108 x2).bind fun r215 =>
k0 x0 x1 x2 x3 r215) (k0 x0 x1 x2 x3 false)
theorem t83_11 (S108) (h108 : (ctr108 S108).holds cl) (x0 x1 x2 x3) : exec cl N c83_11 (e52 x0 x1 x2 x3) K = (g83_11 S108 (fun y0 y1 y2 y3 y4 => K .normal (e54 y0 y1 y2 y3 y4)) x0 x1 x2 x3) := by
 rw [← put_eq h108]
 kernel_rfl
def g83_14 (S109 : V0 → Option V1) (k0 : V4 → V0 → V0 → Int → Option R) (x0 : V4) (x1 x2 : V0) (x3 : Int) (x4 : Bool) : Option R :=
(S109 x1).bind fun r218 =>
(S109 x2).bind fun r219 =>
k0 x0 r218 r219 (IntKind.i64.wrap (x3 + (1 : Int)))
theorem t83_14 (S109) (h109 : (ctr109 S109).holds cl) (x0 x1 x2 x3 x4) : exec cl N c83_14 (e54 x0 x1 x2 x3 x4) K = (g83_14 S109 (fun y0 y1 y2 y3 => K .normal (e52 y0 y1 y2 y3)) x0 x1 x2 x3 x4) := by
 rw [← put_eq h109]
 kernel_rfl
def g83_15 (S108 : V0 → Option (Bool)) (k0 : V4 → V0 → V0 → Int → Bool → Option R) (x0 : V4) (x1 x2 : V0) (x3 : Int) (x4 : Bool) : Option R :=
(S108 x1).bind fun r221 =>
k0 x0 x1 x2 x3 r221
theorem t83_15 (S108) (h108 : (ctr108 S108).holds cl) (x0 x1 x2 x3 x4) : exec cl N c83_15 (e54 x0 x1 x2 x3 x4) K = (g83_15 S108 (fun y0 y1 y2 y3 y4 => K .normal (e55 y0 y1 y2 y3 y4)) x0 x1 x2 x3 x4) := by
 rw [← put_eq h108]
 kernel_rfl
def g83_16 (S109 : V0 → Option V1) (k0 : V4 → V0 → V0 → Int → Option R) (x0 : V4) (x1 x2 : V0) (x3 : Int) (x4 : Bool) : Option R :=
(S109 x1).bind fun r222 =>
k0 x0 r222 x2 x3
theorem t83_16 (S109) (h109 : (ctr109 S109).holds cl) (x0 x1 x2 x3 x4) : exec cl N c83_16 (e55 x0 x1 x2 x3 x4) K = (g83_16 S109 (fun y0 y1 y2 y3 => K .normal (e52 y0 y1 y2 y3)) x0 x1 x2 x3 x4) := by
 rw [← put_eq h109]
 kernel_rfl
def g83_17 (S108 : V0 → Option (Bool)) (k0 : V4 → V0 → V0 → Int → Bool → Option R) (x0 : V4) (x1 x2 : V0) (x3 : Int) (x4 : Bool) : Option R :=
(S108 x2).bind fun r223 =>
k0 x0 x1 x2 x3 r223
theorem t83_17 (S108) (h108 : (ctr108 S108).holds cl) (x0 x1 x2 x3 x4) : exec cl N c83_17 (e55 x0 x1 x2 x3 x4) K = (g83_17 S108 (fun y0 y1 y2 y3 y4 => K .normal (e56 y0 y1 y2 y3 y4)) x0 x1 x2 x3 x4) := by
 rw [← put_eq h108]
 kernel_rfl
def g83_18 (S109 : V0 → Option V1) (k0 : V4 → V0 → V0 → Int → Option R) (x0 : V4) (x1 x2 : V0) (x3 : Int) (x4 : Bool) : Option R :=
(S109 x2).bind fun r224 =>
k0 x0 x1 r224 x3
theorem t83_18 (S109) (h109 : (ctr109 S109).holds cl) (x0 x1 x2 x3 x4) : exec cl N c83_18 (e56 x0 x1 x2 x3 x4) K = (g83_18 S109 (fun y0 y1 y2 y3 => K .normal (e52 y0 y1 y2 y3)) x0 x1 x2 x3 x4) := by
 rw [← put_eq h109]
 kernel_rfl
def g83_19 (S90 : V0 → V0 → Option (Int)) (k0 : V4 → V0 → V0 → Int → Bool → Option R) (x0 : V4) (x1 x2 : V0) (x3 : Int) (x4 : Bool) : Option R :=
(S90 x1 x2).bind fun r225 =>
k0 x0 x1 x2 x3 (decide (r225 > (0 : Int)))
theorem t83_19 (S90) (h90 : (ctr90 S90).holds cl) (x0 x1 x2 x3 x4) : exec cl N c83_19 (e56 x0 x1 x2 x3 x4) K = (g83_19 S90 (fun y0 y1 y2 y3 y4 => K .normal (e57 y0 y1 y2 y3 y4)) x0 x1 x2 x3 x4) := by
 rw [← put_eq h90]
 kernel_rfl
def g83_20 (S91 : V0 → V0 → Option V1) (k0 : V4 → V0 → V0 → Int → Option R) (x0 : V4) (x1 x2 : V0) (x3 : Int) (x4 : Bool) : Option R :=
(S91 x1 x2).bind fun r227 =>
k0 x0 x2 r227 x3
theorem t83_20 (S91) (h91 : (ctr91 S91).holds cl) (x0 x1 x2 x3 x4) : exec cl N c83_20 (e57 x0 x1 x2 x3 x4) K = (g83_20 S91 (fun y0 y1 y2 y3 => K .normal (e52 y0 y1 y2 y3)) x0 x1 x2 x3 x4) := by
 rw [← put_eq h91]
 kernel_rfl
def g83_21 (S91 : V0 → V0 → Option V1) (k0 : V4 → V0 → V0 → Int → Option R) (x0 : V4) (x1 x2 : V0) (x3 : Int) (x4 : Bool) : Option R :=
(S91 x2 x1).bind fun r228 =>
k0 x0 x1 r228 x3
theorem t83_21 (S91) (h91 : (ctr91 S91).holds cl) (x0 x1 x2 x3 x4) : exec cl N c83_21 (e57 x0 x1 x2 x3 x4) K = (g83_21 S91 (fun y0 y1 y2 y3 => K .normal (e52 y0 y1 y2 y3)) x0 x1 x2 x3 x4) := by
 rw [← put_eq h91]
 kernel_rfl
theorem hb83_3 (x0 x1 x2 x3 x4) : boolOf? (ent (e57 x0 x1 x2 x3 x4) (.t 60)) = some x4 := by kernel_rfl
theorem hb83_4 (x0 x1 x2 x3 x4) : boolOf? (ent (e56 x0 x1 x2 x3 x4) (.t 55)) = some x4 := by kernel_rfl
theorem hb83_5 (x0 x1 x2 x3 x4) : boolOf? (ent (e55 x0 x1 x2 x3 x4) (.t 50)) = some x4 := by kernel_rfl
theorem hb83_6 (x0 x1 x2 x3 x4) : boolOf? (ent (e54 x0 x1 x2 x3 x4) (.t 37)) = some x4 := by kernel_rfl
def g83_28 (S90 : V0 → V0 → Option (Int)) (S91 : V0 → V0 → Option V1) (S108 : V0 → Option (Bool)) (S109 : V0 → Option V1) (k0 : V4 → V0 → V0 → Int → Option R) (k1 : V4 → V0 → V0 → Int → Option R) (x0 : V4) (x1 x2 : V0) (x3 : Int) : Option R :=
(g83_9 (fun y0 y1 y2 y3 y4 => brB y4 ((g83_11 S108 (fun y0 y1 y2 y3 y4 => brB y4 (g83_14 S109 k0 y0 y1 y2 y3 y4) (g83_15 S108 (fun y0 y1 y2 y3 y4 => brB y4 (g83_16 S109 k0 y0 y1 y2 y3 y4) (g83_17 S108 (fun y0 y1 y2 y3 y4 => brB y4 (g83_18 S109 k0 y0 y1 y2 y3 y4) (g83_19 S90 (fun y0 y1 y2 y3 y4 => brB y4 (g83_20 S91 k0 y0 y1 y2 y3 y4) (g83_21 S91 k0 y0 y1 y2 y3 y4)) y0 y1 y2 y3 y4)) y0 y1 y2 y3 y4)) y0 y1 y2 y3 y4))) y0 y1 y2 y3) (k1 y0 y1 y2 y3)) x0 x1 x2 x3)
theorem t83_28 (S90) (S91) (S108) (S109) (h90 : (ctr90 S90).holds cl) (h91 : (ctr91 S91).holds cl) (h108 : (ctr108 S108).holds cl) (h109 : (ctr109 S109).holds cl) (x0 x1 x2 x3) : exec cl N c83_28 (e52 x0 x1 x2 x3) K = (g83_28 S90 S91 S108 S109 (fun y0 y1 y2 y3 => K .normal (e52 y0 y1 y2 y3)) (fun y0 y1 y2 y3 => K (.exit 0) (e52 y0 y1 y2 y3)) x0 x1 x2 x3) := by
 simp only [c83_28, exec_seq, seqK_normal, seqK_exit, seqK_ret, t83_9, c83_10, exec_out, exec_cond', hb83_2, Option.bind_some, brB_true, brB_false, exec_skip, exec_exit, kp83_5, c83_27, exec_block, c83_26, t83_11 S108 h108, c83_25, hb83_6, t83_14 S109 h109, t83_15 S108 h108, c83_24, hb83_5, t83_16 S109 h109, t83_17 S108 h108, c83_23, hb83_4, t83_18 S109 h109, t83_19 S90 h90, c83_22, hb83_3, t83_20 S91 h91, t83_21 S91 h91, kp83_4, blockK_normal, blockK_ret, blockK_eq]
 rfl
def l83_29 {R : Type} (S90 : V0 → V0 → Option (Int)) (S91 : V0 → V0 → Option V1) (S108 : V0 → Option (Bool)) (S109 : V0 → Option V1) (k0 : V4 → V0 → V0 → Int → Option R) : Nat → V4 → V0 → V0 → Int → Option R
 | 0, _, _, _, _ => none
 | m + 1, x0, x1, x2, x3 => (g83_28 S90 S91 S108 S109 (l83_29 S90 S91 S108 S109 k0 m) k0 x0 x1 x2 x3)
theorem lt83_29 (S90) (S91) (S108) (S109) (h90 : (ctr90 S90).holds cl) (h91 : (ctr91 S91).holds cl) (h108 : (ctr108 S108).holds cl) (h109 : (ctr109 S109).holds cl) : ∀ (m) (x0 x1 x2 x3), iter [4, 6, 7, 8] (fun env K => exec cl N c83_28 env K) K m (e52 x0 x1 x2 x3) = l83_29 S90 S91 S108 S109 (fun y0 y1 y2 y3 => K (.exit 0) (e52 y0 y1 y2 y3)) m x0 x1 x2 x3 := by
 intro m
 induction m with
 | zero => intros; rfl
 | succ m ih =>
   intro x0 x1 x2 x3
   simp only [iter_succ, t83_28 S90 S91 S108 S109 h90 h91 h108 h109, loopK_normal, loopK_exit, loopK_ret, kp83_4, ih]
   rfl
theorem kp83_6 (x0 x1 x2 x3) : keep [4, 6, 8] (e52 x0 x1 x2 x3) = (e58 x0 x1 x3) := by kernel_rfl
def g83_29 (N : Nat) (S90 : V0 → V0 → Option (Int)) (S91 : V0 → V0 → Option V1) (S108 : V0 → Option (Bool)) (S109 : V0 → Option V1) (k0 : V4 → V0 → Int → Option R) (x0 : V4) (x1 x2 : V0) (x3 : Int) : Option R :=
l83_29 S90 S91 S108 S109 (fun y0 y1 y2 y3 => k0 y0 y1 y3) N x0 x1 x2 x3
theorem t83_29 (S90) (S91) (S108) (S109) (h90 : (ctr90 S90).holds cl) (h91 : (ctr91 S91).holds cl) (h108 : (ctr108 S108).holds cl) (h109 : (ctr109 S109).holds cl) (x0 x1 x2 x3) : exec cl N c83_29 (e52 x0 x1 x2 x3) K = (g83_29 N S90 S91 S108 S109 (fun y0 y1 y2 => K (.exit 0) (e58 y0 y1 y2)) x0 x1 x2 x3) := by
 simp only [c83_29, exec_out, exec_loop, kp83_4, lt83_29 S90 S91 S108 S109 h90 h91 h108 h109, kp83_6]
 rfl
theorem kp83_7 (x0 x1 x2) : keep [4, 6, 8] (e58 x0 x1 x2) = (e58 x0 x1 x2) := by kernel_rfl
def g83_31 (k0 : V4 → Int → V0 → Option R) (x0 : V4) (x1 : V0) (x2 : Int) : Option R :=
if ([] : List Int).length + x1.length ≤ 17592186044416 then
k0 x0 x2 (([] : List Int) ++ x1)
else none
theorem t83_31 (x0 x1 x2) : exec cl N c83_31 (e58 x0 x1 x2) K = (g83_31 (fun y0 y1 y2 => K .normal (e59 y0 y1 y2)) x0 x1 x2) := by
 kernel_rfl
def g83_32 (k0 : V4 → Int → V0 → Int → Option R) (x0 : V4) (x1 : Int) (x2 : V0) : Option R :=
k0 x0 x1 x2 (0 : Int)
theorem t83_32 (x0 x1 x2) : exec cl N c83_32 (e59 x0 x1 x2) K = (g83_32 (fun y0 y1 y2 y3 => K .normal (e60 y0 y1 y2 y3)) x0 x1 x2) := by
 kernel_rfl
theorem kp83_8 (x0 x1 x2 x3) : keep [4, 8, 9, 10] (e60 x0 x1 x2 x3) = (e60 x0 x1 x2 x3) := by kernel_rfl
def g83_33 (k0 : V4 → Int → V0 → Int → Bool → Option R) (x0 : V4) (x1 : Int) (x2 : V0) (x3 : Int) : Option R :=
k0 x0 x1 x2 x3 (decide (x3 < x1))
theorem t83_33 (x0 x1 x2 x3) : exec cl N c83_33 (e60 x0 x1 x2 x3) K = (g83_33 (fun y0 y1 y2 y3 y4 => K .normal (e61 y0 y1 y2 y3 y4)) x0 x1 x2 x3) := by
 kernel_rfl
theorem kp83_9 (x0 x1 x2 x3 x4) : keep [4, 8, 9, 10] (e61 x0 x1 x2 x3 x4) = (e60 x0 x1 x2 x3) := by kernel_rfl
theorem hb83_7 (x0 x1 x2 x3 x4) : boolOf? (ent (e61 x0 x1 x2 x3 x4) (.t 74)) = some x4 := by kernel_rfl
def g83_35 (S89 : V0 → V0 → Option V1) (k0 : V4 → Int → V0 → Int → Option R) (x0 : V4) (x1 : Int) (x2 : V0) (x3 : Int) : Option R :=
(S89 x2 x2).bind fun r230 =>
k0 x0 x1 r230 x3
theorem t83_35 (S89) (h89 : (ctr89 S89).holds cl) (x0 x1 x2 x3) : exec cl N c83_35 (e60 x0 x1 x2 x3) K = (g83_35 S89 (fun y0 y1 y2 y3 => K .normal (e60 y0 y1 y2 y3)) x0 x1 x2 x3) := by
 rw [← put_eq h89]
 kernel_rfl
def g83_37 (k0 : V4 → Int → V0 → Int → Option R) (x0 : V4) (x1 : Int) (x2 : V0) (x3 : Int) : Option R :=
k0 x0 x1 x2 (IntKind.i64.wrap (x3 + (1 : Int)))
theorem t83_37 (x0 x1 x2 x3) : exec cl N c83_37 (e60 x0 x1 x2 x3) K = (g83_37 (fun y0 y1 y2 y3 => K .normal (e60 y0 y1 y2 y3)) x0 x1 x2 x3) := by
 kernel_rfl
def g83_38 (S89 : V0 → V0 → Option V1) (k0 : V4 → Int → V0 → Int → Option R) (k1 : V4 → Int → V0 → Int → Option R) (x0 : V4) (x1 : Int) (x2 : V0) (x3 : Int) : Option R :=
(g83_33 (fun y0 y1 y2 y3 y4 => brB y4 ((g83_35 S89 ((g83_37 k0))) y0 y1 y2 y3) (k1 y0 y1 y2 y3)) x0 x1 x2 x3)
theorem t83_38 (S89) (h89 : (ctr89 S89).holds cl) (x0 x1 x2 x3) : exec cl N c83_38 (e60 x0 x1 x2 x3) K = (g83_38 S89 (fun y0 y1 y2 y3 => K .normal (e60 y0 y1 y2 y3)) (fun y0 y1 y2 y3 => K (.exit 3) (e60 y0 y1 y2 y3)) x0 x1 x2 x3) := by
 simp only [c83_38, exec_seq, seqK_normal, seqK_exit, seqK_ret, t83_33, c83_34, exec_out, exec_cond', hb83_7, Option.bind_some, brB_true, brB_false, exec_skip, exec_exit, kp83_9, c83_36, exec_block, t83_35 S89 h89, blockK_normal, blockK_ret, blockK_eq, kp83_8, t83_37]
 rfl
def l83_39 {R : Type} (S89 : V0 → V0 → Option V1) (k0 : V4 → Int → V0 → Int → Option R) : Nat → V4 → Int → V0 → Int → Option R
 | 0, _, _, _, _ => none
 | m + 1, x0, x1, x2, x3 => (g83_38 S89 (l83_39 S89 k0 m) k0 x0 x1 x2 x3)
theorem lt83_39 (S89) (h89 : (ctr89 S89).holds cl) : ∀ (m) (x0 x1 x2 x3), iter [4, 8, 9, 10] (fun env K => exec cl N c83_38 env K) K m (e60 x0 x1 x2 x3) = l83_39 S89 (fun y0 y1 y2 y3 => K (.exit 3) (e60 y0 y1 y2 y3)) m x0 x1 x2 x3 := by
 intro m
 induction m with
 | zero => intros; rfl
 | succ m ih =>
   intro x0 x1 x2 x3
   simp only [iter_succ, t83_38 S89 h89, loopK_normal, loopK_exit, loopK_ret, kp83_8, ih]
   rfl
theorem kp83_10 (x0 x1 x2 x3) : keep [4, 9] (e60 x0 x1 x2 x3) = (e62 x0 x2) := by kernel_rfl
def g83_39 (N : Nat) (S89 : V0 → V0 → Option V1) (k0 : V4 → V0 → Option R) (x0 : V4) (x1 : Int) (x2 : V0) (x3 : Int) : Option R :=
l83_39 S89 (fun y0 y1 y2 y3 => k0 y0 y2) N x0 x1 x2 x3
theorem t83_39 (S89) (h89 : (ctr89 S89).holds cl) (x0 x1 x2 x3) : exec cl N c83_39 (e60 x0 x1 x2 x3) K = (g83_39 N S89 (fun y0 y1 => K (.exit 3) (e62 y0 y1)) x0 x1 x2 x3) := by
 simp only [c83_39, exec_out, exec_loop, kp83_8, lt83_39 S89 h89, kp83_10]
 rfl
theorem kp83_11 (x0 x1) : keep [4, 9] (e62 x0 x1) = (e62 x0 x1) := by kernel_rfl
def g83_41 (k0 : V4 → Int → Option R) (x0 : V4) (x1 : V0) : Option R :=
k0 (x1, ()) (0 : Int)
theorem t83_41 (x0 x1) : exec cl N c83_41 (e62 x0 x1) K = (g83_41 (fun y0 y1 => K .normal (e49 y0 y1)) x0 x1) := by
 kernel_rfl
def g83_42 (N : Nat) (S86 : V4 → Option (Bool)) (S89 : V0 → V0 → Option V1) (S90 : V0 → V0 → Option (Int)) (S91 : V0 → V0 → Option V1) (S108 : V0 → Option (Bool)) (S109 : V0 → Option V1) (k0 : V4 → Int → Option R) (k1 : V4 → Int → Option R) (k2 : V4 → Int → Option R) (x0 x1 : V4) : Option R :=
(g83_0 (g83_1 S86 (fun y0 y1 y2 y3 => brB y3 (g83_2 k0 y0 y1 y2 y3) ((g83_4 (g83_5 (fun y0 y1 y2 y3 => brB y3 (g83_6 k1 y0 y1 y2 y3) ((g83_8 (g83_29 N S90 S91 S108 S109 ((g83_31 (g83_32 (g83_39 N S89 ((g83_41 k2)))))))) y0 y1 y2)))) y0 y1 y2))) x0 x1)
theorem t83_42 (S86) (S89) (S90) (S91) (S108) (S109) (h86 : (ctr86 S86).holds cl) (h89 : (ctr89 S89).holds cl) (h90 : (ctr90 S90).holds cl) (h91 : (ctr91 S91).holds cl) (h108 : (ctr108 S108).holds cl) (h109 : (ctr109 S109).holds cl) (x0 x1) : exec cl N c83_42 (e41 x0 x1) K = (g83_42 N S86 S89 S90 S91 S108 S109 (fun y0 y1 => K .ret (e45 y0 y1)) (fun y0 y1 => K .ret (e50 y0 y1)) (fun y0 y1 => K .ret (e49 y0 y1)) x0 x1) := by
 simp only [c83_42, exec_seq, seqK_normal, seqK_exit, seqK_ret, t83_0, t83_1 S86 h86, c83_3, exec_out, exec_cond', hb83_0, Option.bind_some, brB_true, brB_false, t83_2, exec_ret, exec_skip, kp83_0, kp83_1, t83_4, t83_5, c83_7, hb83_1, t83_6, kp83_2, kp83_3, t83_8, c83_30, exec_block, t83_29 S90 S91 S108 S109 h90 h91 h108 h109, blockK_normal, blockK_ret, blockK_eq, kp83_7, t83_31, t83_32, c83_40, t83_39 S89 h89, kp83_11, t83_41]
 rfl
theorem rk83_0 (y0 y1) : retK d83 .ret (e45 y0 y1) = some [.v U5 y0, .v U1 y1] := by kernel_rfl
theorem rk83_1 (y0 y1) : retK d83 .ret (e50 y0 y1) = some [.v U5 y0, .v U1 y1] := by kernel_rfl
theorem rk83_2 (y0 y1) : retK d83 .ret (e49 y0 y1) = some [.v U5 y0, .v U1 y1] := by kernel_rfl
def g83 (N : Nat) (S86 : V4 → Option (Bool)) (S89 : V0 → V0 → Option V1) (S90 : V0 → V0 → Option (Int)) (S91 : V0 → V0 → Option V1) (S108 : V0 → Option (Bool)) (S109 : V0 → Option V1) (x0 x1 : V4) (k : V4 → Int → Option R) : Option R :=
(g83_42 N S86 S89 S90 S91 S108 S109 k k k x0 x1)
theorem gen83 (S86) (S89) (S90) (S91) (S108) (S109) (h86 : (ctr86 S86).holds cl) (h89 : (ctr89 S89).holds cl) (h90 : (ctr90 S90).holds cl) (h91 : (ctr91 S91).holds cl) (h108 : (ctr108 S108).holds cl) (h109 : (ctr109 S109).holds cl) (x0 x1) (k : List E → Option R) : exec cl N c83 (e41 x0 x1) (fun e env => (retK d83 e env).bind k) = g83 N S86 S89 S90 S91 S108 S109 x0 x1 (fun r0 r1 => k [.v U5 r0, .v U1 r1]) := by
 simp only [c83, t83_42 S86 S89 S90 S91 S108 S109 h86 h89 h90 h91 h108 h109, rk83_0, rk83_1, rk83_2, Option.bind_some]
 rfl
def ctr83 (S : V4 → V4 → Option V8) : Ctr := cv2 83 U5 U5 S fun b => [.v U5 b.1, .v U1 b.2]
def S83 (N : Nat) (x0 : V4) (x1 : V4) : Option V8 := g83 N (S86 N) (S89 N) (S90 N) (S91 N) (S108 N) (S109 N) x0 x1 (fun (r0 : V4) (r1 : Int) => some (r0, r1))
def g88_25 (k0 : V0 → V0 → V0 → Option R) (x0 x1 : V0) : Option R :=
let v280 : Int := (IntKind.i64.wrap ((IntKind.i64.wrap ((x0.length : Int) + (x1.length : Int))) + (1 : Int)))
if 0 ≤ v280 ∧ v280 ≤ v280 ∧ v280 ≤ ((17592186044416 : Nat) : Int) then
k0 x0 x1 (List.replicate v280.toNat (0 : Int))
else none
theorem t88_25 (x0 x1) : exec cl N c88_25 (e20 x0 x1) K = (g88_25 (fun y0 y1 y2 => exec cl N (.seq (.seq c88_2 c88_23) (.seq c88_24 .ret)) (e63 y0 y1 y2) K) x0 x1) := by
 kernel_rfl
def g88_2 (k0 : V0 → V0 → V0 → Int → Option R) (x0 x1 x2 : V0) : Option R :=
k0 x0 x1 x2 (0 : Int)
theorem t88_2 (x0 x1 x2) : exec cl N c88_2 (e63 x0 x1 x2) K = (g88_2 (fun y0 y1 y2 y3 => K .normal (e33 y0 y1 y2 y3)) x0 x1 x2) := by
 kernel_rfl
theorem kp88_0 (x0 x1 x2 x3) : keep [0, 1, 5, 6] (e33 x0 x1 x2 x3) = (e33 x0 x1 x2 x3) := by kernel_rfl
def g88_3 (k0 : V0 → V0 → V0 → Int → Bool → Option R) (x0 x1 x2 : V0) (x3 : Int) : Option R :=
k0 x0 x1 x2 x3 (decide (x3 < (x0.length : Int)))
theorem t88_3 (x0 x1 x2 x3) : exec cl N c88_3 (e33 x0 x1 x2 x3) K = (g88_3 (fun y0 y1 y2 y3 y4 => K .normal (e64 y0 y1 y2 y3 y4)) x0 x1 x2 x3) := by
 kernel_rfl
theorem kp88_1 (x0 x1 x2 x3 x4) : keep [0, 1, 5, 6] (e64 x0 x1 x2 x3 x4) = (e33 x0 x1 x2 x3) := by kernel_rfl
theorem hb88_0 (x0 x1 x2 x3 x4) : boolOf? (ent (e64 x0 x1 x2 x3 x4) (.t 20)) = some x4 := by kernel_rfl
def g88_18 (k0 : V0 → V0 → V0 → Int → Int → Int → Option R) (x0 x1 x2 : V0) (x3 : Int) : Option R :=
k0 x0 x1 x2 x3 (0 : Int) (0 : Int)
theorem t88_18 (x0 x1 x2 x3) : exec cl N c88_18 (e33 x0 x1 x2 x3) K = (g88_18 (fun y0 y1 y2 y3 y4 y5 => exec cl N c88_17 (e36 y0 y1 y2 y3 y4 y5) K) x0 x1 x2 x3) := by
 kernel_rfl
theorem kp88_2 (x0 x1 x2 x3 x4 x5) : keep [0, 1, 5, 6, 7, 8] (e36 x0 x1 x2 x3 x4 x5) = (e36 x0 x1 x2 x3 x4 x5) := by kernel_rfl
def g88_7 (k0 : V0 → V0 → V0 → Int → Int → Int → Bool → Option R) (x0 x1 x2 : V0) (x3 x4 x5 : Int) : Option R :=
brB (decide (x5 < (x1.length : Int))) (k0 x0 x1 x2 x3 x4 x5 true) (k0 x0 x1 x2 x3 x4 x5 (decide (x4 > (0 : Int))))
theorem t88_7 (x0 x1 x2 x3 x4 x5) : exec cl N c88_7 (e36 x0 x1 x2 x3 x4 x5) K = (g88_7 (fun y0 y1 y2 y3 y4 y5 y6 => K .normal (e65 y0 y1 y2 y3 y4 y5 y6)) x0 x1 x2 x3 x4 x5) := by
 kernel_rfl
theorem kp88_3 (x0 x1 x2 x3 x4 x5 x6) : keep [0, 1, 5, 6, 7, 8] (e65 x0 x1 x2 x3 x4 x5 x6) = (e36 x0 x1 x2 x3 x4 x5) := by kernel_rfl
theorem hb88_1 (x0 x1 x2 x3 x4 x5 x6) : boolOf? (ent (e65 x0 x1 x2 x3 x4 x5 x6) (.t 30)) = some x6 := by kernel_rfl
def g88_12 (S112 : V0 → Int → Option (Int)) (k0 : V0 → V0 → V0 → Int → Int → Int → Option R) (x0 x1 x2 : V0) (x3 x4 x5 : Int) : Option R :=
let v298 : Int := (IntKind.i64.wrap (x3 + x5))
if 0 ≤ v298 ∧ v298 < (x2.length : Int) then
if v298.toNat < x2.length then
if 0 ≤ x3 ∧ x3 < (x0.length : Int) then
(S112 x1 x5).bind fun r300 =>
let v303 : Int := (IntKind.i64.wrap ((IntKind.i64.wrap ((x2.getD v298.toNat (0 : Int)) + (IntKind.i64.wrap ((x0.getD x3.toNat (0 : Int)) * r300)))) + x4))
let v304 : Int := (IntKind.i64.wrap (x3 + x5))
if 0 ≤ v304 ∧ v304 < (x2.length : Int) then
if v304.toNat < x2.length then
k0 x0 x1 (x2.set v304.toNat (Int.tmod v303 (10000 : Int))) x3 (IntKind.i64.wrap (Int.tdiv v303 (10000 : Int))) x5
else none
else none
else none
else none
else none
theorem t88_12 (S112) (h112 : (ctr112 S112).holds cl) (x0 x1 x2 x3 x4 x5) : exec cl N c88_12 (e36 x0 x1 x2 x3 x4 x5) K = (g88_12 S112 (fun y0 y1 y2 y3 y4 y5 => K .normal (e36 y0 y1 y2 y3 y4 y5)) x0 x1 x2 x3 x4 x5) := by
 rw [← put_eq h112]
 kernel_rfl
def g88_14 (k0 : V0 → V0 → V0 → Int → Int → Int → Option R) (x0 x1 x2 : V0) (x3 x4 x5 : Int) : Option R :=
k0 x0 x1 x2 x3 x4 (IntKind.i64.wrap (x5 + (1 : Int)))
theorem t88_14 (x0 x1 x2 x3 x4 x5) : exec cl N c88_14 (e36 x0 x1 x2 x3 x4 x5) K = (g88_14 (fun y0 y1 y2 y3 y4 y5 => K .normal (e36 y0 y1 y2 y3 y4 y5)) x0 x1 x2 x3 x4 x5) := by
 kernel_rfl
def g88_15 (S112 : V0 → Int → Option (Int)) (k0 : V0 → V0 → V0 → Int → Int → Int → Option R) (k1 : V0 → V0 → V0 → Int → Int → Int → Option R) (x0 x1 x2 : V0) (x3 x4 x5 : Int) : Option R :=
(g88_7 (fun y0 y1 y2 y3 y4 y5 y6 => brB y6 ((g88_12 S112 ((g88_14 k0))) y0 y1 y2 y3 y4 y5) (k1 y0 y1 y2 y3 y4 y5)) x0 x1 x2 x3 x4 x5)
theorem t88_15 (S112) (h112 : (ctr112 S112).holds cl) (x0 x1 x2 x3 x4 x5) : exec cl N c88_15 (e36 x0 x1 x2 x3 x4 x5) K = (g88_15 S112 (fun y0 y1 y2 y3 y4 y5 => K .normal (e36 y0 y1 y2 y3 y4 y5)) (fun y0 y1 y2 y3 y4 y5 => K (.exit 2) (e36 y0 y1 y2 y3 y4 y5)) x0 x1 x2 x3 x4 x5) := by
 simp only [c88_15, exec_seq, seqK_normal, seqK_exit, seqK_ret, t88_7, c88_8, exec_out, exec_cond', hb88_1, Option.bind_some, brB_true, brB_false, exec_skip, exec_exit, kp88_3, c88_13, exec_block, t88_12 S112 h112, blockK_normal, blockK_ret, blockK_eq, kp88_2, t88_14]
 rfl
def l88_16 {R : Type} (S112 : V0 → Int → Option (Int)) (k0 : V0 → V0 → V0 → Int → Int → Int → Option R) : Nat → V0 → V0 → V0 → Int → Int → Int → Option R
 | 0, _, _, _, _, _, _ => none
 | m + 1, x0, x1, x2, x3, x4, x5 => (g88_15 S112 (l88_16 S112 k0 m) k0 x0 x1 x2 x3 x4 x5)
theorem lt88_16 (S112) (h112 : (ctr112 S112).holds cl) : ∀ (m) (x0 x1 x2 x3 x4 x5), iter [0, 1, 5, 6, 7, 8] (fun env K => exec cl N c88_15 env K) K m (e36 x0 x1 x2 x3 x4 x5) = l88_16 S112 (fun y0 y1 y2 y3 y4 y5 => K (.exit 2) (e36 y0 y1 y2 y3 y4 y5)) m x0 x1 x2 x3 x4 x5 := by
 intro m
 induction m with
 | zero => intros; rfl
 | succ m ih =>
   intro x0 x1 x2 x3 x4 x5
   simp only [iter_succ, t88_15 S112 h112, loopK_normal, loopK_exit, loopK_ret, kp88_2, ih]
   rfl
theorem kp88_4 (x0 x1 x2 x3 x4 x5) : keep [0, 1, 5, 6] (e36 x0 x1 x2 x3 x4 x5) = (e33 x0 x1 x2 x3) := by kernel_rfl
def g88_16 (N : Nat) (S112 : V0 → Int → Option (Int)) (k0 : V0 → V0 → V0 → Int → Option R) (x0 x1 x2 : V0) (x3 x4 x5 : Int) : Option R :=
l88_16 S112 (fun y0 y1 y2 y3 y4 y5 => k0 y0 y1 y2 y3) N x0 x1 x2 x3 x4 x5
theorem t88_16 (S112) (h112 : (ctr112 S112).holds cl) (x0 x1 x2 x3 x4 x5) : exec cl N c88_16 (e36 x0 x1 x2 x3 x4 x5) K = (g88_16 N S112 (fun y0 y1 y2 y3 => K (.exit 2) (e33 y0 y1 y2 y3)) x0 x1 x2 x3 x4 x5) := by
 simp only [c88_16, exec_out, exec_loop, kp88_2, lt88_16 S112 h112, kp88_4]
 rfl
def g88_20 (k0 : V0 → V0 → V0 → Int → Option R) (x0 x1 x2 : V0) (x3 : Int) : Option R :=
k0 x0 x1 x2 (IntKind.i64.wrap (x3 + (1 : Int)))
theorem t88_20 (x0 x1 x2 x3) : exec cl N c88_20 (e33 x0 x1 x2 x3) K = (g88_20 (fun y0 y1 y2 y3 => K .normal (e33 y0 y1 y2 y3)) x0 x1 x2 x3) := by
 kernel_rfl
def g88_21 (N : Nat) (S112 : V0 → Int → Option (Int)) (k0 : V0 → V0 → V0 → Int → Option R) (k1 : V0 → V0 → V0 → Int → Option R) (x0 x1 x2 : V0) (x3 : Int) : Option R :=
(g88_3 (fun y0 y1 y2 y3 y4 => brB y4 ((g88_18 (g88_16 N S112 (((g88_20 k0))))) y0 y1 y2 y3) (k1 y0 y1 y2 y3)) x0 x1 x2 x3)
theorem t88_21 (S112) (h112 : (ctr112 S112).holds cl) (x0 x1 x2 x3) : exec cl N c88_21 (e33 x0 x1 x2 x3) K = (g88_21 N S112 (fun y0 y1 y2 y3 => K .normal (e33 y0 y1 y2 y3)) (fun y0 y1 y2 y3 => K (.exit 0) (e33 y0 y1 y2 y3)) x0 x1 x2 x3) := by
 simp only [c88_21, exec_seq, seqK_normal, seqK_exit, seqK_ret, t88_3, c88_4, exec_out, exec_cond', hb88_0, Option.bind_some, brB_true, brB_false, exec_skip, exec_exit, kp88_1, c88_19, exec_block, t88_18, c88_17, t88_16 S112 h112, blockK_normal, blockK_ret, blockK_eq, kp88_0, t88_20]
 rfl
def l88_22 {R : Type} (N : Nat) (S112 : V0 → Int → Option (Int)) (k0 : V0 → V0 → V0 → Int → Option R) : Nat → V0 → V0 → V0 → Int → Option R
 | 0, _, _, _, _ => none
 | m + 1, x0, x1, x2, x3 => (g88_21 N S112 (l88_22 N S112 k0 m) k0 x0 x1 x2 x3)
theorem lt88_22 (S112) (h112 : (ctr112 S112).holds cl) : ∀ (m) (x0 x1 x2 x3), iter [0, 1, 5, 6] (fun env K => exec cl N c88_21 env K) K m (e33 x0 x1 x2 x3) = l88_22 N S112 (fun y0 y1 y2 y3 => K (.exit 0) (e33 y0 y1 y2 y3)) m x0 x1 x2 x3 := by
 intro m
 induction m with
 | zero => intros; rfl
 | succ m ih =>
   intro x0 x1 x2 x3
   simp only [iter_succ, t88_21 S112 h112, loopK_normal, loopK_exit, loopK_ret, kp88_0, ih]
   rfl
theorem kp88_5 (x0 x1 x2 x3) : keep [5] (e33 x0 x1 x2 x3) = (e38 x2) := by kernel_rfl
def g88_22 (N : Nat) (S112 : V0 → Int → Option (Int)) (k0 : V0 → Option R) (x0 x1 x2 : V0) (x3 : Int) : Option R :=
l88_22 N S112 (fun y0 y1 y2 y3 => k0 y2) N x0 x1 x2 x3
theorem t88_22 (S112) (h112 : (ctr112 S112).holds cl) (x0 x1 x2 x3) : exec cl N c88_22 (e33 x0 x1 x2 x3) K = (g88_22 N S112 (fun y0 => K (.exit 0) (e38 y0)) x0 x1 x2 x3) := by
 simp only [c88_22, exec_out, exec_loop, kp88_0, lt88_22 S112 h112, kp88_5]
 rfl
theorem kp88_6 (x0) : keep [5] (e38 x0) = (e38 x0) := by kernel_rfl
def g88_24 (S113 : V0 → Option V1) (k0 : V0 → Option R) (x0 : V0) : Option R :=
(S113 x0).bind fun r309 =>
k0 r309
theorem t88_24 (S113) (h113 : (ctr113 S113).holds cl) (x0) : exec cl N c88_24 (e38 x0) K = (g88_24 S113 (fun y0 => K .normal [(4, .v U2 y0)]) x0) := by
 rw [← put_eq h113]
 kernel_rfl
def g88_25b (N : Nat) (S112 : V0 → Int → Option (Int)) (S113 : V0 → Option V1) (k0 : V0 → Option R) (x0 x1 : V0) : Option R :=
(g88_25 (g88_2 (g88_22 N S112 ((g88_24 S113 k0)))) x0 x1)
theorem t88_25b (S112) (S113) (h112 : (ctr112 S112).holds cl) (h113 : (ctr113 S113).holds cl) (x0 x1) : exec cl N c88_25 (e20 x0 x1) K = (g88_25b N S112 S113 (fun y0 => K .ret [(4, .v U2 y0)]) x0 x1) := by
 simp only [exec_seq, seqK_normal, seqK_exit, seqK_ret, t88_25, t88_2, c88_23, exec_out, exec_block, t88_22 S112 h112, blockK_normal, blockK_ret, blockK_eq, kp88_6, t88_24 S113 h113, exec_ret]
 rfl
theorem rk88_0 (y0) : retK d88 .ret [(4, .v U2 y0)] = some [.v U2 y0] := by kernel_rfl
def g88 (N : Nat) (S112 : V0 → Int → Option (Int)) (S113 : V0 → Option V1) (x0 x1 : V0) (k : V0 → Option R) : Option R :=
(g88_25b N S112 S113 k x0 x1)
theorem gen88 (S112) (S113) (h112 : (ctr112 S112).holds cl) (h113 : (ctr113 S113).holds cl) (x0 x1) (k : List E → Option R) : exec cl N c88 (e20 x0 x1) (fun e env => (retK d88 e env).bind k) = g88 N S112 S113 x0 x1 (fun r0 => k [.v U2 r0]) := by
 simp only [c88, t88_25b S112 S113 h112 h113, rk88_0, Option.bind_some]
 rfl
def ctr88 (S : V0 → V0 → Option V1) : Ctr := cv2 88 U2 U2 S fun b => [.v U2 b]
def S88 (N : Nat) (x0 : V0) (x1 : V0) : Option V1 := g88 N (S112 N) (S113 N) x0 x1 (fun (r0 : V0) => some (r0))
def g110_30 (k0 : V0 → V0 → V0 → V0 → Option R) (x0 x1 : V0) : Option R :=
if 0 ≤ (x0.length : Int) ∧ (x0.length : Int) ≤ (x0.length : Int) ∧ (x0.length : Int) ≤ ((17592186044416 : Nat) : Int) then
k0 x0 x1 (List.replicate (x0.length : Int).toNat (0 : Int)) []
else none
theorem t110_30 (x0 x1) : exec cl N c110_30 (e20 x0 x1) K = (g110_30 (fun y0 y1 y2 y3 => exec cl N (.seq (.seq c110_3 c110_28) (.seq c110_29 .ret)) (e66 y0 y1 y2 y3) K) x0 x1) := by
 kernel_rfl
def g110_3 (k0 : V0 → V0 → V0 → V0 → Int → Option R) (x0 x1 x2 x3 : V0) : Option R :=
k0 x0 x1 x2 x3 (IntKind.i64.wrap ((x0.length : Int) - (1 : Int)))
theorem t110_3 (x0 x1 x2 x3) : exec cl N c110_3 (e66 x0 x1 x2 x3) K = (g110_3 (fun y0 y1 y2 y3 y4 => K .normal (e67 y0 y1 y2 y3 y4)) x0 x1 x2 x3) := by
 kernel_rfl
theorem kp110_0 (x0 x1 x2 x3 x4) : keep [0, 1, 6, 7, 8] (e67 x0 x1 x2 x3 x4) = (e67 x0 x1 x2 x3 x4) := by kernel_rfl
def g110_4 (k0 : V0 → V0 → V0 → V0 → Int → Bool → Option R) (x0 x1 x2 x3 : V0) (x4 : Int) : Option R :=
k0 x0 x1 x2 x3 x4 (decide (x4 ≥ (0 : Int)))
theorem t110_4 (x0 x1 x2 x3 x4) : exec cl N c110_4 (e67 x0 x1 x2 x3 x4) K = (g110_4 (fun y0 y1 y2 y3 y4 y5 => K .normal (e68 y0 y1 y2 y3 y4 y5)) x0 x1 x2 x3 x4) := by
 kernel_rfl
theorem kp110_1 (x0 x1 x2 x3 x4 x5) : keep [0, 1, 6, 7, 8] (e68 x0 x1 x2 x3 x4 x5) = (e67 x0 x1 x2 x3 x4) := by kernel_rfl
theorem hb110_0 (x0 x1 x2 x3 x4 x5) : boolOf? (ent (e68 x0 x1 x2 x3 x4 x5) (.t 19)) = some x5 := by kernel_rfl
def g110_23 (S113 : V0 → Option V1) (k0 : V0 → V0 → V0 → V0 → Int → Int → Int → Option R) (x0 x1 x2 x3 : V0) (x4 : Int) : Option R :=
if 0 ≤ x4 ∧ x4 < (x0.length : Int) then
if [(x0.getD x4.toNat (0 : Int))].length + x3.length ≤ 17592186044416 then
(S113 ([(x0.getD x4.toNat (0 : Int))] ++ x3)).bind fun r321 =>
k0 x0 x1 x2 r321 x4 (0 : Int) (9999 : Int)
else none
else none
theorem t110_23 (S113) (h113 : (ctr113 S113).holds cl) (x0 x1 x2 x3 x4) : exec cl N c110_23 (e67 x0 x1 x2 x3 x4) K = (g110_23 S113 (fun y0 y1 y2 y3 y4 y5 y6 => exec cl N (.seq c110_19 c110_22) (e69 y0 y1 y2 y3 y4 y5 y6) K) x0 x1 x2 x3 x4) := by
 rw [← put_eq h113]
 kernel_rfl
theorem kp110_2 (x0 x1 x2 x3 x4 x5 x6) : keep [0, 1, 6, 7, 8, 9, 10] (e69 x0 x1 x2 x3 x4 x5 x6) = (e69 x0 x1 x2 x3 x4 x5 x6) := by kernel_rfl
def g110_8 (k0 : V0 → V0 → V0 → V0 → Int → Int → Int → Bool → Option R) (x0 x1 x2 x3 : V0) (x4 x5 x6 : Int) : Option R :=
k0 x0 x1 x2 x3 x4 x5 x6 (decide (x5 < x6))
theorem t110_8 (x0 x1 x2 x3 x4 x5 x6) : exec cl N c110_8 (e69 x0 x1 x2 x3 x4 x5 x6) K = (g110_8 (fun y0 y1 y2 y3 y4 y5 y6 y7 => K .normal (e70 y0 y1 y2 y3 y4 y5 y6 y7)) x0 x1 x2 x3 x4 x5 x6) := by
 kernel_rfl
theorem kp110_3 (x0 x1 x2 x3 x4 x5 x6 x7) : keep [0, 1, 6, 7, 8, 9, 10] (e70 x0 x1 x2 x3 x4 x5 x6 x7) = (e69 x0 x1 x2 x3 x4 x5 x6) := by kernel_rfl
theorem hb110_1 (x0 x1 x2 x3 x4 x5 x6 x7) : boolOf? (ent (e70 x0 x1 x2 x3 x4 x5 x6 x7) (.t 32)) = some x7 := by kernel_rfl
def g110_15 (S88 : V0 → V0 → Option V1) (S90 : V0 → V0 → Option (Int)) (k0 : V0 → V0 → V0 → V0 → Int → Int → Int → Int → Bool → Option R) (x0 x1 x2 x3 : V0) (x4 x5 x6 : Int) : Option R :=
let v328 : Int := (IntKind.i64.wrap (Int.tdiv (IntKind.i64.wrap ((IntKind.i64.wrap (x5 + x6)) + (1 : Int))) (2 : Int)))
(S88 x1 [v328]).bind fun r329 =>
(S90 r329 x3).bind fun r330 =>
k0 x0 x1 x2 x3 x4 x5 x6 v328 (decide (r330 ≤ (0 : Int)))
theorem t110_15 (S88) (S90) (h88 : (ctr88 S88).holds cl) (h90 : (ctr90 S90).holds cl) (x0 x1 x2 x3 x4 x5 x6) : exec cl N c110_15 (e69 x0 x1 x2 x3 x4 x5 x6) K = (g110_15 S88 S90 (fun y0 y1 y2 y3 y4 y5 y6 y7 y8 => exec cl N c110_14 (e71 y0 y1 y2 y3 y4 y5 y6 y7 y8) K) x0 x1 x2 x3 x4 x5 x6) := by
 rw [← put_eq h88]
 rw [← put_eq h90]
 kernel_rfl
def g110_12 (k0 : V0 → V0 → V0 → V0 → Int → Int → Int → Option R) (x0 x1 x2 x3 : V0) (x4 x5 x6 x7 : Int) (x8 : Bool) : Option R :=
k0 x0 x1 x2 x3 x4 x7 x6
theorem t110_12 (x0 x1 x2 x3 x4 x5 x6 x7 x8) : exec cl N c110_12 (e71 x0 x1 x2 x3 x4 x5 x6 x7 x8) K = (g110_12 (fun y0 y1 y2 y3 y4 y5 y6 => K .normal (e69 y0 y1 y2 y3 y4 y5 y6)) x0 x1 x2 x3 x4 x5 x6 x7 x8) := by
 kernel_rfl
def g110_13 (k0 : V0 → V0 → V0 → V0 → Int → Int → Int → Option R) (x0 x1 x2 x3 : V0) (x4 x5 x6 x7 : Int) (x8 : Bool) : Option R :=
k0 x0 x1 x2 x3 x4 x5 (IntKind.i64.wrap (x7 - (1 : Int)))
theorem t110_13 (x0 x1 x2 x3 x4 x5 x6 x7 x8) : exec cl N c110_13 (e71 x0 x1 x2 x3 x4 x5 x6 x7 x8) K = (g110_13 (fun y0 y1 y2 y3 y4 y5 y6 => K .normal (e69 y0 y1 y2 y3 y4 y5 y6)) x0 x1 x2 x3 x4 x5 x6 x7 x8) := by
 kernel_rfl
theorem hb110_2 (x0 x1 x2 x3 x4 x5 x6 x7 x8) : boolOf? (ent (e71 x0 x1 x2 x3 x4 x5 x6 x7 x8) (.t 44)) = some x8 := by kernel_rfl
def g110_17 (S88 : V0 → V0 → Option V1) (S90 : V0 → V0 → Option (Int)) (k0 : V0 → V0 → V0 → V0 → Int → Int → Int → Option R) (k1 : V0 → V0 → V0 → V0 → Int → Int → Int → Option R) (x0 x1 x2 x3 : V0) (x4 x5 x6 : Int) : Option R :=
(g110_8 (fun y0 y1 y2 y3 y4 y5 y6 y7 => brB y7 ((g110_15 S88 S90 (fun y0 y1 y2 y3 y4 y5 y6 y7 y8 => brB y8 (g110_12 k0 y0 y1 y2 y3 y4 y5 y6 y7 y8) (g110_13 k0 y0 y1 y2 y3 y4 y5 y6 y7 y8))) y0 y1 y2 y3 y4 y5 y6) (k1 y0 y1 y2 y3 y4 y5 y6)) x0 x1 x2 x3 x4 x5 x6)
theorem t110_17 (S88) (S90) (h88 : (ctr88 S88).holds cl) (h90 : (ctr90 S90).holds cl) (x0 x1 x2 x3 x4 x5 x6) : exec cl N c110_17 (e69 x0 x1 x2 x3 x4 x5 x6) K = (g110_17 S88 S90 (fun y0 y1 y2 y3 y4 y5 y6 => K .normal (e69 y0 y1 y2 y3 y4 y5 y6)) (fun y0 y1 y2 y3 y4 y5 y6 => K (.exit 2) (e69 y0 y1 y2 y3 y4 y5 y6)) x0 x1 x2 x3 x4 x5 x6) := by
 simp only [c110_17, exec_seq, seqK_normal, seqK_exit, seqK_ret, t110_8, c110_9, exec_out, exec_cond', hb110_1, Option.bind_some, brB_true, brB_false, exec_skip, exec_exit, kp110_3, c110_16, exec_block, t110_15 S88 S90 h88 h90, c110_14, hb110_2, t110_12, t110_13, kp110_2, blockK_normal, blockK_ret, blockK_eq]
 rfl
def l110_18 {R : Type} (S88 : V0 → V0 → Option V1) (S90 : V0 → V0 → Option (Int)) (k0 : V0 → V0 → V0 → V0 → Int → Int → Int → Option R) : Nat → V0 → V0 → V0 → V0 → Int → Int → Int → Option R
 | 0, _, _, _, _, _, _, _ => none
 | m + 1, x0, x1, x2, x3, x4, x5, x6 => (g110_17 S88 S90 (l110_18 S88 S90 k0 m) k0 x0 x1 x2 x3 x4 x5 x6)
theorem lt110_18 (S88) (S90) (h88 : (ctr88 S88).holds cl) (h90 : (ctr90 S90).holds cl) : ∀ (m) (x0 x1 x2 x3 x4 x5 x6), iter [0, 1, 6, 7, 8, 9, 10] (fun env K => exec cl N c110_17 env K) K m (e69 x0 x1 x2 x3 x4 x5 x6) = l110_18 S88 S90 (fun y0 y1 y2 y3 y4 y5 y6 => K (.exit 2) (e69 y0 y1 y2 y3 y4 y5 y6)) m x0 x1 x2 x3 x4 x5 x6 := by
 intro m
 induction m with
 | zero => intros; rfl
 | succ m ih =>
   intro x0 x1 x2 x3 x4 x5 x6
   simp only [iter_succ, t110_17 S88 S90 h88 h90, loopK_normal, loopK_exit, loopK_ret, kp110_2, ih]
   rfl
theorem kp110_4 (x0 x1 x2 x3 x4 x5 x6) : keep [0, 1, 6, 7, 8, 9] (e69 x0 x1 x2 x3 x4 x5 x6) = (e72 x0 x1 x2 x3 x4 x5) := by kernel_rfl
def g110_18 (N : Nat) (S88 : V0 → V0 → Option V1) (S90 : V0 → V0 → Option (Int)) (k0 : V0 → V0 → V0 → V0 → Int → Int → Option R) (x0 x1 x2 x3 : V0) (x4 x5 x6 : Int) : Option R :=
l110_18 S88 S90 (fun y0 y1 y2 y3 y4 y5 y6 => k0 y0 y1 y2 y3 y4 y5) N x0 x1 x2 x3 x4 x5 x6
theorem t110_18 (S88) (S90) (h88 : (ctr88 S88).holds cl) (h90 : (ctr90 S90).holds cl) (x0 x1 x2 x3 x4 x5 x6) : exec cl N c110_18 (e69 x0 x1 x2 x3 x4 x5 x6) K = (g110_18 N S88 S90 (fun y0 y1 y2 y3 y4 y5 => K (.exit 2) (e72 y0 y1 y2 y3 y4 y5)) x0 x1 x2 x3 x4 x5 x6) := by
 simp only [c110_18, exec_out, exec_loop, kp110_2, lt110_18 S88 S90 h88 h90, kp110_4]
 rfl
theorem kp110_5 (x0 x1 x2 x3 x4 x5) : keep [0, 1, 6, 7, 8, 9] (e72 x0 x1 x2 x3 x4 x5) = (e72 x0 x1 x2 x3 x4 x5) := by kernel_rfl
def g110_22 (S88 : V0 → V0 → Option V1) (S91 : V0 → V0 → Option V1) (k0 : V0 → V0 → V0 → V0 → Int → Option R) (x0 x1 x2 x3 : V0) (x4 x5 : Int) : Option R :=
if 0 ≤ x4 ∧ x4 < (x2.length : Int) then
if x4.toNat < x2.length then
(S88 x1 [x5]).bind fun r333 =>
(S91 x3 r333).bind fun r334 =>
k0 x0 x1 (x2.set x4.toNat x5) r334 x4
else none
else none
theorem t110_22 (S88) (S91) (h88 : (ctr88 S88).holds cl) (h91 : (ctr91 S91).holds cl) (x0 x1 x2 x3 x4 x5) : exec cl N c110_22 (e72 x0 x1 x2 x3 x4 x5) K = (g110_22 S88 S91 (fun y0 y1 y2 y3 y4 => K .normal (e67 y0 y1 y2 y3 y4)) x0 x1 x2 x3 x4 x5) := by
 rw [← put_eq h88]
 rw [← put_eq h91]
 kernel_rfl
def g110_25 (k0 : V0 → V0 → V0 → V0 → Int → Option R) (x0 x1 x2 x3 : V0) (x4 : Int) : Option R :=
k0 x0 x1 x2 x3 (IntKind.i64.wrap (x4 - (1 : Int)))
theorem t110_25 (x0 x1 x2 x3 x4) : exec cl N c110_25 (e67 x0 x1 x2 x3 x4) K = (g110_25 (fun y0 y1 y2 y3 y4 => K .normal (e67 y0 y1 y2 y3 y4)) x0 x1 x2 x3 x4) := by
 kernel_rfl
def g110_26 (N : Nat) (S88 : V0 → V0 → Option V1) (S90 : V0 → V0 → Option (Int)) (S91 : V0 → V0 → Option V1) (S113 : V0 → Option V1) (k0 : V0 → V0 → V0 → V0 → Int → Option R) (k1 : V0 → V0 → V0 → V0 → Int → Option R) (x0 x1 x2 x3 : V0) (x4 : Int) : Option R :=
(g110_4 (fun y0 y1 y2 y3 y4 y5 => brB y5 ((g110_23 S113 (g110_18 N S88 S90 ((g110_22 S88 S91 ((g110_25 k0)))))) y0 y1 y2 y3 y4) (k1 y0 y1 y2 y3 y4)) x0 x1 x2 x3 x4)
theorem t110_26 (S88) (S90) (S91) (S113) (h88 : (ctr88 S88).holds cl) (h90 : (ctr90 S90).holds cl) (h91 : (ctr91 S91).holds cl) (h113 : (ctr113 S113).holds cl) (x0 x1 x2 x3 x4) : exec cl N c110_26 (e67 x0 x1 x2 x3 x4) K = (g110_26 N S88 S90 S91 S113 (fun y0 y1 y2 y3 y4 => K .normal (e67 y0 y1 y2 y3 y4)) (fun y0 y1 y2 y3 y4 => K (.exit 0) (e67 y0 y1 y2 y3 y4)) x0 x1 x2 x3 x4) := by
 simp only [c110_26, exec_seq, seqK_normal, seqK_exit, seqK_ret, t110_4, c110_5, exec_out, exec_cond', hb110_0, Option.bind_some, brB_true, brB_false, exec_skip, exec_exit, kp110_1, c110_24, exec_block, t110_23 S113 h113, c110_19, t110_18 S88 S90 h88 h90, blockK_normal, blockK_ret, blockK_eq, kp110_5, t110_22 S88 S91 h88 h91, kp110_0, t110_25]
 rfl
def l110_27 {R : Type} (N : Nat) (S88 : V0 → V0 → Option V1) (S90 : V0 → V0 → Option (Int)) (S91 : V0 → V0 → Option V1) (S113 : V0 → Option V1) (k0 : V0 → V0 → V0 → V0 → Int → Option R) : Nat → V0 → V0 → V0 → V0 → Int → Option R
 | 0, _, _, _, _, _ => none
 | m + 1, x0, x1, x2, x3, x4 => (g110_26 N S88 S90 S91 S113 (l110_27 N S88 S90 S91 S113 k0 m) k0 x0 x1 x2 x3 x4)
theorem lt110_27 (S88) (S90) (S91) (S113) (h88 : (ctr88 S88).holds cl) (h90 : (ctr90 S90).holds cl) (h91 : (ctr91 S91).holds cl) (h113 : (ctr113 S113).holds cl) : ∀ (m) (x0 x1 x2 x3 x4), iter [0, 1, 6, 7, 8] (fun env K => exec cl N c110_26 env K) K m (e67 x0 x1 x2 x3 x4) = l110_27 N S88 S90 S91 S113 (fun y0 y1 y2 y3 y4 => K (.exit 0) (e67 y0 y1 y2 y3 y4)) m x0 x1 x2 x3 x4 := by
 intro m
 induction m with
 | zero => intros; rfl
 | succ m ih =>
   intro x0 x1 x2 x3 x4
   simp only [iter_succ, t110_26 S88 S90 S91 S113 h88 h90 h91 h113, loopK_normal, loopK_exit, loopK_ret, kp110_0, ih]
   rfl
theorem kp110_6 (x0 x1 x2 x3 x4) : keep [6, 7] (e67 x0 x1 x2 x3 x4) = (e73 x2 x3) := by kernel_rfl
def g110_27 (N : Nat) (S88 : V0 → V0 → Option V1) (S90 : V0 → V0 → Option (Int)) (S91 : V0 → V0 → Option V1) (S113 : V0 → Option V1) (k0 : V0 → V0 → Option R) (x0 x1 x2 x3 : V0) (x4 : Int) : Option R :=
l110_27 N S88 S90 S91 S113 (fun y0 y1 y2 y3 y4 => k0 y2 y3) N x0 x1 x2 x3 x4
theorem t110_27 (S88) (S90) (S91) (S113) (h88 : (ctr88 S88).holds cl) (h90 : (ctr90 S90).holds cl) (h91 : (ctr91 S91).holds cl) (h113 : (ctr113 S113).holds cl) (x0 x1 x2 x3 x4) : exec cl N c110_27 (e67 x0 x1 x2 x3 x4) K = (g110_27 N S88 S90 S91 S113 (fun y0 y1 => K (.exit 0) (e73 y0 y1)) x0 x1 x2 x3 x4) := by
 simp only [c110_27, exec_out, exec_loop, kp110_0, lt110_27 S88 S90 S91 S113 h88 h90 h91 h113, kp110_6]
 rfl
theorem kp110_7 (x0 x1) : keep [6, 7] (e73 x0 x1) = (e73 x0 x1) := by kernel_rfl
def g110_29 (S113 : V0 → Option V1) (k0 : V0 → V0 → Option R) (x0 x1 : V0) : Option R :=
(S113 x0).bind fun r336 =>
k0 r336 x1
theorem t110_29 (S113) (h113 : (ctr113 S113).holds cl) (x0 x1) : exec cl N c110_29 (e73 x0 x1) K = (g110_29 S113 (fun y0 y1 => K .normal (e74 y0 y1)) x0 x1) := by
 rw [← put_eq h113]
 kernel_rfl
def g110_30b (N : Nat) (S88 : V0 → V0 → Option V1) (S90 : V0 → V0 → Option (Int)) (S91 : V0 → V0 → Option V1) (S113 : V0 → Option V1) (k0 : V0 → V0 → Option R) (x0 x1 : V0) : Option R :=
(g110_30 (g110_3 (g110_27 N S88 S90 S91 S113 ((g110_29 S113 k0)))) x0 x1)
theorem t110_30b (S88) (S90) (S91) (S113) (h88 : (ctr88 S88).holds cl) (h90 : (ctr90 S90).holds cl) (h91 : (ctr91 S91).holds cl) (h113 : (ctr113 S113).holds cl) (x0 x1) : exec cl N c110_30 (e20 x0 x1) K = (g110_30b N S88 S90 S91 S113 (fun y0 y1 => K .ret (e74 y0 y1)) x0 x1) := by
 simp only [exec_seq, seqK_normal, seqK_exit, seqK_ret, t110_30, t110_3, c110_28, exec_out, exec_block, t110_27 S88 S90 S91 S113 h88 h90 h91 h113, blockK_normal, blockK_ret, blockK_eq, kp110_7, t110_29 S113 h113, exec_ret]
 rfl
theorem rk110_0 (y0 y1) : retK d110 .ret (e74 y0 y1) = some [.v U2 y0, .v U2 y1] := by kernel_rfl
def g110 (N : Nat) (S88 : V0 → V0 → Option V1) (S90 : V0 → V0 → Option (Int)) (S91 : V0 → V0 → Option V1) (S113 : V0 → Option V1) (x0 x1 : V0) (k : V0 → V0 → Option R) : Option R :=
(g110_30b N S88 S90 S91 S113 k x0 x1)
theorem gen110 (S88) (S90) (S91) (S113) (h88 : (ctr88 S88).holds cl) (h90 : (ctr90 S90).holds cl) (h91 : (ctr91 S91).holds cl) (h113 : (ctr113 S113).holds cl) (x0 x1) (k : List E → Option R) : exec cl N c110 (e20 x0 x1) (fun e env => (retK d110 e env).bind k) = g110 N S88 S90 S91 S113 x0 x1 (fun r0 r1 => k [.v U2 r0, .v U2 r1]) := by
 simp only [c110, t110_30b S88 S90 S91 S113 h88 h90 h91 h113, rk110_0, Option.bind_some]
 rfl
def ctr110 (S : V0 → V0 → Option V7) : Ctr := cv2 110 U2 U2 S fun b => [.v U2 b.1, .v U2 b.2]
def S110 (N : Nat) (x0 : V0) (x1 : V0) : Option V7 := g110 N (S88 N) (S90 N) (S91 N) (S113 N) x0 x1 (fun (r0 : V0) (r1 : V0) => some (r0, r1))
def g84_0 (k0 : V4 → V4 → V4 → V4 → Option R) (x0 x1 : V4) : Option R :=
k0 x0 x1 ([], ()) ([], ())
theorem t84_0 (x0 x1) : exec cl N c84_0 (e41 x0 x1) K = (g84_0 (fun y0 y1 y2 y3 => K .normal (e75 y0 y1 y2 y3)) x0 x1) := by
 kernel_rfl
def g84_1 (S86 : V4 → Option (Bool)) (k0 : V4 → V4 → V4 → V4 → Bool → Option R) (x0 x1 x2 x3 : V4) : Option R :=
(S86 x0).bind fun r339 =>
brB (!r339) (k0 x0 x1 x2 x3 true) ((S86 x1).bind fun r340 =>
k0 x0 x1 x2 x3 (!r340))
theorem t84_1 (S86) (h86 : (ctr86 S86).holds cl) (x0 x1 x2 x3) : exec cl N c84_1 (e75 x0 x1 x2 x3) K = (g84_1 S86 (fun y0 y1 y2 y3 y4 => K .normal (e76 y0 y1 y2 y3 y4)) x0 x1 x2 x3) := by
 rw [← put_eq h86]
 kernel_rfl
def g84_2 (k0 : V4 → V4 → Int → Option R) (x0 x1 x2 x3 : V4) (x4 : Bool) : Option R :=
k0 ([], ()) ([], ()) (1 : Int)
theorem t84_2 (x0 x1 x2 x3 x4) : exec cl N c84_2 (e76 x0 x1 x2 x3 x4) K = (g84_2 (fun y0 y1 y2 => K .normal (e77 y0 y1 y2)) x0 x1 x2 x3 x4) := by
 kernel_rfl
theorem kp84_0 (x0 x1 x2) : keep [2, 3, 4, 5, 6] (e77 x0 x1 x2) = (e78 x0 x1 x2) := by kernel_rfl
theorem kp84_1 (x0 x1 x2 x3 x4) : keep [2, 3, 4, 5, 6] (e76 x0 x1 x2 x3 x4) = (e79 x0 x1 x2 x3) := by kernel_rfl
theorem hb84_0 (x0 x1 x2 x3 x4) : boolOf? (ent (e76 x0 x1 x2 x3 x4) (.t 16)) = some x4 := by kernel_rfl
def g84_4 (k0 : V4 → V4 → V4 → V4 → Bool → Option R) (x0 x1 x2 x3 : V4) : Option R :=
k0 x0 x1 x2 x3 ((x1.1.length : Int) == (0 : Int))
theorem t84_4 (x0 x1 x2 x3) : exec cl N c84_4 (e79 x0 x1 x2 x3) K = (g84_4 (fun y0 y1 y2 y3 y4 => K .normal (e80 y0 y1 y2 y3 y4)) x0 x1 x2 x3) := by
 kernel_rfl
def g84_5 (k0 : V4 → V4 → Int → Option R) (x0 x1 x2 x3 : V4) (x4 : Bool) : Option R :=
k0 ([], ()) ([], ()) (6 : Int)
theorem t84_5 (x0 x1 x2 x3 x4) : exec cl N c84_5 (e80 x0 x1 x2 x3 x4) K = (g84_5 (fun y0 y1 y2 => K .normal (e77 y0 y1 y2)) x0 x1 x2 x3 x4) := by
 kernel_rfl
theorem kp84_2 (x0 x1 x2 x3 x4) : keep [2, 3, 4, 5, 6] (e80 x0 x1 x2 x3 x4) = (e79 x0 x1 x2 x3) := by kernel_rfl
theorem hb84_1 (x0 x1 x2 x3 x4) : boolOf? (ent (e80 x0 x1 x2 x3 x4) (.t 22)) = some x4 := by kernel_rfl
def g84_9 (S110 : V0 → V0 → Option V7) (k0 : V4 → V4 → Int → Option R) (x0 x1 x2 x3 : V4) : Option R :=
(S110 x0.1 x1.1).bind fun r343 =>
k0 (r343.1, ()) (r343.2, ()) (0 : Int)
theorem t84_9 (S110) (h110 : (ctr110 S110).holds cl) (x0 x1 x2 x3) : exec cl N c84_9 (e79 x0 x1 x2 x3) K = (g84_9 S110 (fun y0 y1 y2 => exec cl N .ret (e81 y0 y1 y2) K) x0 x1 x2 x3) := by
 rw [← put_eq h110]
 kernel_rfl
def g84_10 (S86 : V4 → Option (Bool)) (S110 : V0 → V0 → Option V7) (k0 : V4 → V4 → Int → Option R) (k1 : V4 → V4 → Int → Option R) (x0 x1 : V4) : Option R :=
(g84_0 (g84_1 S86 (fun y0 y1 y2 y3 y4 => brB y4 (g84_2 k0 y0 y1 y2 y3 y4) ((g84_4 (fun y0 y1 y2 y3 y4 => brB y4 (g84_5 k0 y0 y1 y2 y3 y4) ((g84_9 S110 k1) y0 y1 y2 y3))) y0 y1 y2 y3))) x0 x1)
theorem t84_10 (S86) (S110) (h86 : (ctr86 S86).holds cl) (h110 : (ctr110 S110).holds cl) (x0 x1) : exec cl N c84_10 (e41 x0 x1) K = (g84_10 S86 S110 (fun y0 y1 y2 => K .ret (e78 y0 y1 y2)) (fun y0 y1 y2 => K .ret (e81 y0 y1 y2)) x0 x1) := by
 simp only [c84_10, exec_seq, seqK_normal, seqK_exit, seqK_ret, t84_0, t84_1 S86 h86, c84_3, exec_out, exec_cond', hb84_0, Option.bind_some, brB_true, brB_false, t84_2, exec_ret, exec_skip, kp84_0, kp84_1, t84_4, c84_6, hb84_1, t84_5, kp84_2, t84_9 S110 h110]
 rfl
theorem rk84_0 (y0 y1 y2) : retK d84 .ret (e78 y0 y1 y2) = some [.v U5 y0, .v U5 y1, .v U1 y2] := by kernel_rfl
theorem rk84_1 (y0 y1 y2) : retK d84 .ret (e81 y0 y1 y2) = some [.v U5 y0, .v U5 y1, .v U1 y2] := by kernel_rfl
def g84 (S86 : V4 → Option (Bool)) (S110 : V0 → V0 → Option V7) (x0 x1 : V4) (k : V4 → V4 → Int → Option R) : Option R :=
(g84_10 S86 S110 k k x0 x1)
theorem gen84 (S86) (S110) (h86 : (ctr86 S86).holds cl) (h110 : (ctr110 S110).holds cl) (x0 x1) (k : List E → Option R) : exec cl N c84 (e41 x0 x1) (fun e env => (retK d84 e env).bind k) = g84 S86 S110 x0 x1 (fun r0 r1 r2 => k [.v U5 r0, .v U5 r1, .v U1 r2]) := by
 simp only [c84, t84_10 S86 S110 h86 h110, rk84_0, rk84_1, Option.bind_some]
 rfl
def ctr84 (S : V4 → V4 → Option V13) : Ctr := cv2 84 U5 U5 S fun b => [.v U5 b.1, .v U5 b.2.1, .v U1 b.2.2]
def S84 (N : Nat) (x0 : V4) (x1 : V4) : Option V13 := g84 (S86 N) (S110 N) x0 x1 (fun (r0 : V4) (r1 : V4) (r2 : Int) => some (r0, r1, r2))
def g56_2 (k0 : Bool → Option R) (x0 : V4) : Option R :=
k0 ((x0.1.length : Int) == (0 : Int))
theorem t56_2 (x0) : exec cl N c56_2 [(0, .v U5 x0)] K = (g56_2 (fun y0 => exec cl N .ret [(2, .v .bool y0)] K) x0) := by
 kernel_rfl
def g56_2b (k0 : Bool → Option R) (x0 : V4) : Option R :=
(g56_2 k0 x0)
theorem t56_2b (x0) : exec cl N c56_2 [(0, .v U5 x0)] K = (g56_2b (fun y0 => K .ret [(2, .v .bool y0)]) x0) := by
 simp only [exec_seq, seqK_normal, seqK_exit, seqK_ret, t56_2, exec_ret]
 rfl
theorem rk56_0 (y0) : retK d56 .ret [(2, .v .bool y0)] = some [.v .bool y0] := by kernel_rfl
def g56 (x0 : V4) (k : Bool → Option R) : Option R :=
(g56_2b k x0)
theorem gen56 (x0) (k : List E → Option R) : exec cl N c56 [(0, .v U5 x0)] (fun e env => (retK d56 e env).bind k) = g56 x0 (fun r0 => k [.v .bool r0]) := by
 simp only [c56, t56_2b, rk56_0, Option.bind_some]
 rfl
def ctr56 (S : V4 → Option (Bool)) : Ctr := cv1 56 U5 S fun b => [.v .bool b]
def S56 (N : Nat) (x0 : V4) : Option (Bool) := g56 x0 (fun (r0 : Bool) => some (r0))
def g52_5 (S56 : V4 → Option (Bool)) (S83 : V4 → V4 → Option V8) (S84 : V4 → V4 → Option V13) (k0 : V15 → Option R) (x0 : Bool) (x1 x2 : V4) : Option R :=
(S83 x1 x2).bind fun r362 =>
(S84 x1 r362.1).bind fun r363 =>
(S84 x2 r362.1).bind fun r364 =>
brB x0 ((S56 r363.1).bind fun r365 =>
k0 ((!r365), r363.1, r364.1, ())) (k0 (false, r363.1, r364.1, ()))
theorem t52_5 (S56) (S83) (S84) (h56 : (ctr56 S56).holds cl) (h83 : (ctr83 S83).holds cl) (h84 : (ctr84 S84).holds cl) (x0 x1 x2) : exec cl N c52_5 (e82 x0 x1 x2) K = (g52_5 S56 S83 S84 (fun y0 => exec cl N .ret [(6, .loc U12 .no y0)] K) x0 x1 x2) := by
 rw [← put_eq h56]
 rw [← put_eq h83]
 rw [← put_eq h84]
 kernel_rfl
def g52_5b (S56 : V4 → Option (Bool)) (S83 : V4 → V4 → Option V8) (S84 : V4 → V4 → Option V13) (k0 : V15 → Option R) (x0 : Bool) (x1 x2 : V4) : Option R :=
(g52_5 S56 S83 S84 k0 x0 x1 x2)
theorem t52_5b (S56) (S83) (S84) (h56 : (ctr56 S56).holds cl) (h83 : (ctr83 S83).holds cl) (h84 : (ctr84 S84).holds cl) (x0 x1 x2) : exec cl N c52_5 (e82 x0 x1 x2) K = (g52_5b S56 S83 S84 (fun y0 => K .ret [(6, .loc U12 .no y0)]) x0 x1 x2) := by
 simp only [exec_seq, seqK_normal, seqK_exit, seqK_ret, t52_5 S56 S83 S84 h56 h83 h84, exec_ret]
 rfl
theorem rk52_0 (y0) : retK d52 .ret [(6, .loc U12 .no y0)] = some [.v U12 y0] := by kernel_rfl
def g52 (S56 : V4 → Option (Bool)) (S83 : V4 → V4 → Option V8) (S84 : V4 → V4 → Option V13) (x0 : Bool) (x1 x2 : V4) (k : V15 → Option R) : Option R :=
(g52_5b S56 S83 S84 k x0 x1 x2)
theorem gen52 (S56) (S83) (S84) (h56 : (ctr56 S56).holds cl) (h83 : (ctr83 S83).holds cl) (h84 : (ctr84 S84).holds cl) (x0 x1 x2) (k : List E → Option R) : exec cl N c52 (e82 x0 x1 x2) (fun e env => (retK d52 e env).bind k) = g52 S56 S83 S84 x0 x1 x2 (fun r0 => k [.v U12 r0]) := by
 simp only [c52, t52_5b S56 S83 S84 h56 h83 h84, rk52_0, Option.bind_some]
 rfl
def ctr52 (S : Bool → V4 → V4 → Option V16) : Ctr := cv3 52 .bool U5 U5 S fun b => [.v U12 b]
def S52 (N : Nat) (x0 : Bool) (x1 : V4) (x2 : V4) : Option V16 := g52 (S56 N) (S83 N) (S84 N) x0 x1 x2 (fun (r0 : V15) => some (r0))
def g23_0 (k0 : Int → Int → V15 → Option R) (x0 x1 : Int) : Option R :=
k0 x0 x1 (false, (([], ()), (([], ()), ())))
theorem t23_0 (x0 x1) : exec cl N c23_0 (e83 x0 x1) K = (g23_0 (fun y0 y1 y2 => K .normal (e84 y0 y1 y2)) x0 x1) := by
 kernel_rfl
def g23_1 (k0 : Int → Int → V15 → Bool → Option R) (x0 x1 : Int) (x2 : V15) : Option R :=
k0 x0 x1 x2 (x1 == (0 : Int))
theorem t23_1 (x0 x1 x2) : exec cl N c23_1 (e84 x0 x1 x2) K = (g23_1 (fun y0 y1 y2 y3 => K .normal (e85 y0 y1 y2 y3)) x0 x1 x2) := by
 kernel_rfl
def g23_2 (k0 : V15 → Int → Option R) (x0 x1 : Int) (x2 : V15) (x3 : Bool) : Option R :=
k0 (false, ([], ()), ([], ()), ()) (6 : Int)
theorem t23_2 (x0 x1 x2 x3) : exec cl N c23_2 (e85 x0 x1 x2 x3) K = (g23_2 (fun y0 y1 => K .normal (e86 y0 y1)) x0 x1 x2 x3) := by
 kernel_rfl
theorem kp23_0 (x0 x1) : keep [0, 1, 4, 5] (e86 x0 x1) = (e87 x0 x1) := by kernel_rfl
theorem kp23_1 (x0 x1 x2 x3) : keep [0, 1, 4, 5] (e85 x0 x1 x2 x3) = (e88 x0 x1 x2) := by kernel_rfl
theorem hb23_0 (x0 x1 x2 x3) : boolOf? (ent (e85 x0 x1 x2 x3) (.t 8)) = some x3 := by kernel_rfl
def g23_4 (k0 : Int → Int → V15 → Bool → Option R) (x0 x1 : Int) (x2 : V15) : Option R :=
brB (decide (x0 < (-1000000000000000 : Int))) (k0 x0 x1 x2 true) (brB (decide (x0 > (1000000000000000 : Int))) (k0 x0 x1 x2 true) (brB (decide (x1 < (-1000000000000000 : Int))) (k0 x0 x1 x2 true) (k0 x0 x1 x2 (decide (x1 > (1000000000000000 : Int))))))
theorem t23_4 (x0 x1 x2) : exec cl N c23_4 (e88 x0 x1 x2) K = (g23_4 (fun y0 y1 y2 y3 => K .normal (e89 y0 y1 y2 y3)) x0 x1 x2) := by
 kernel_rfl
def g23_5 (k0 : V15 → Int → Option R) (x0 x1 : Int) (x2 : V15) (x3 : Bool) : Option R :=
k0 (false, ([], ()), ([], ()), ()) (3 : Int)
theorem t23_5 (x0 x1 x2 x3) : exec cl N c23_5 (e89 x0 x1 x2 x3) K = (g23_5 (fun y0 y1 => K .normal (e86 y0 y1)) x0 x1 x2 x3) := by
 kernel_rfl
theorem kp23_2 (x0 x1 x2 x3) : keep [0, 1, 4, 5] (e89 x0 x1 x2 x3) = (e88 x0 x1 x2) := by kernel_rfl
theorem hb23_1 (x0 x1 x2 x3) : boolOf? (ent (e89 x0 x1 x2 x3) (.t 23)) = some x3 := by kernel_rfl
def g23_7 (k0 : Int → Int → V15 → Bool → Option R) (x0 x1 : Int) (x2 : V15) : Option R :=
k0 x0 x1 x2 (!((decide (x0 < (0 : Int))) == (decide (x1 < (0 : Int)))))
theorem t23_7 (x0 x1 x2) : exec cl N c23_7 (e88 x0 x1 x2) K = (g23_7 (fun y0 y1 y2 y3 => K .normal (e90 y0 y1 y2 y3)) x0 x1 x2) := by
 kernel_rfl
def g23_8 (k0 : Int → Int → V15 → Bool → Bool → Option R) (x0 x1 : Int) (x2 : V15) (x3 : Bool) : Option R :=
k0 x0 x1 x2 x3 (decide (x0 < (0 : Int)))
theorem t23_8 (x0 x1 x2 x3) : exec cl N c23_8 (e90 x0 x1 x2 x3) K = (g23_8 (fun y0 y1 y2 y3 y4 => K .normal (e91 y0 y1 y2 y3 y4)) x0 x1 x2 x3) := by
 kernel_rfl
def g23_9 (k0 : Int → Int → V15 → Bool → Option R) (x0 x1 : Int) (x2 : V15) (x3 x4 : Bool) : Option R :=
k0 (IntKind.i64.wrap ((0 : Int) - x0)) x1 x2 x3
theorem t23_9 (x0 x1 x2 x3 x4) : exec cl N c23_9 (e91 x0 x1 x2 x3 x4) K = (g23_9 (fun y0 y1 y2 y3 => K .normal (e90 y0 y1 y2 y3)) x0 x1 x2 x3 x4) := by
 kernel_rfl
theorem kp23_3 (x0 x1 x2 x3) : keep [0, 1, 4, 6] (e90 x0 x1 x2 x3) = (e90 x0 x1 x2 x3) := by kernel_rfl
theorem kp23_4 (x0 x1 x2 x3 x4) : keep [0, 1, 4, 6] (e91 x0 x1 x2 x3 x4) = (e90 x0 x1 x2 x3) := by kernel_rfl
theorem hb23_2 (x0 x1 x2 x3 x4) : boolOf? (ent (e91 x0 x1 x2 x3 x4) (.t 31)) = some x4 := by kernel_rfl
def g23_11 (k0 : Int → Int → V15 → Bool → Option R) (x0 x1 : Int) (x2 : V15) (x3 : Bool) : Option R :=
(g23_8 (fun y0 y1 y2 y3 y4 => brB y4 (g23_9 k0 y0 y1 y2 y3 y4) (k0 y0 y1 y2 y3)) x0 x1 x2 x3)
theorem t23_11 (x0 x1 x2 x3) : exec cl N c23_11 (e90 x0 x1 x2 x3) K = (g23_11 (fun y0 y1 y2 y3 => K .normal (e90 y0 y1 y2 y3)) x0 x1 x2 x3) := by
 simp only [c23_11, exec_seq, seqK_normal, seqK_exit, seqK_ret, t23_8, c23_10, exec_out, exec_cond', hb23_2, Option.bind_some, brB_true, brB_false, t23_9, exec_skip, kp23_3, kp23_4]
 rfl
def g23_12 (k0 : Int → Int → V15 → Bool → Bool → Option R) (x0 x1 : Int) (x2 : V15) (x3 : Bool) : Option R :=
k0 x0 x1 x2 x3 (decide (x1 < (0 : Int)))
theorem t23_12 (x0 x1 x2 x3) : exec cl N c23_12 (e90 x0 x1 x2 x3) K = (g23_12 (fun y0 y1 y2 y3 y4 => K .normal (e92 y0 y1 y2 y3 y4)) x0 x1 x2 x3) := by
 kernel_rfl
def g23_13 (k0 : Int → Int → V15 → Bool → Option R) (x0 x1 : Int) (x2 : V15) (x3 x4 : Bool) : Option R :=
k0 x0 (IntKind.i64.wrap ((0 : Int) - x1)) x2 x3
theorem t23_13 (x0 x1 x2 x3 x4) : exec cl N c23_13 (e92 x0 x1 x2 x3 x4) K = (g23_13 (fun y0 y1 y2 y3 => K .normal (e90 y0 y1 y2 y3)) x0 x1 x2 x3 x4) := by
 kernel_rfl
theorem kp23_5 (x0 x1 x2 x3 x4) : keep [0, 1, 4, 6] (e92 x0 x1 x2 x3 x4) = (e90 x0 x1 x2 x3) := by kernel_rfl
theorem hb23_3 (x0 x1 x2 x3 x4) : boolOf? (ent (e92 x0 x1 x2 x3 x4) (.t 35)) = some x4 := by kernel_rfl
def g23_15 (k0 : Int → Int → V15 → Bool → Option R) (x0 x1 : Int) (x2 : V15) (x3 : Bool) : Option R :=
(g23_12 (fun y0 y1 y2 y3 y4 => brB y4 (g23_13 k0 y0 y1 y2 y3 y4) (k0 y0 y1 y2 y3)) x0 x1 x2 x3)
theorem t23_15 (x0 x1 x2 x3) : exec cl N c23_15 (e90 x0 x1 x2 x3) K = (g23_15 (fun y0 y1 y2 y3 => K .normal (e90 y0 y1 y2 y3)) x0 x1 x2 x3) := by
 simp only [c23_15, exec_seq, seqK_normal, seqK_exit, seqK_ret, t23_12, c23_14, exec_out, exec_cond', hb23_3, Option.bind_some, brB_true, brB_false, t23_13, exec_skip, kp23_3, kp23_5]
 rfl
def g23_16 (S52 : Bool → V4 → V4 → Option V16) (S53 : Int → Option V6) (k0 : V15 → Int → Option R) (x0 x1 : Int) (x2 : V15) (x3 : Bool) : Option R :=
(S53 x0).bind fun r383 =>
(S53 x1).bind fun r384 =>
(S52 x3 r383 r384).bind fun r385 =>
k0 r385 (0 : Int)
theorem t23_16 (S52) (S53) (h52 : (ctr52 S52).holds cl) (h53 : (ctr53 S53).holds cl) (x0 x1 x2 x3) : exec cl N c23_16 (e90 x0 x1 x2 x3) K = (g23_16 S52 S53 (fun y0 y1 => K .normal (e86 y0 y1)) x0 x1 x2 x3) := by
 rw [← put_eq h52]
 rw [← put_eq h53]
 kernel_rfl
def g23_17 (S52 : Bool → V4 → V4 → Option V16) (S53 : Int → Option V6) (k0 : V15 → Int → Option R) (k1 : V15 → Int → Option R) (x0 x1 : Int) : Option R :=
(g23_0 (g23_1 (fun y0 y1 y2 y3 => brB y3 (g23_2 k0 y0 y1 y2 y3) ((g23_4 (fun y0 y1 y2 y3 => brB y3 (g23_5 k0 y0 y1 y2 y3) ((g23_7 (g23_11 (g23_15 (g23_16 S52 S53 k1)))) y0 y1 y2))) y0 y1 y2))) x0 x1)
theorem t23_17 (S52) (S53) (h52 : (ctr52 S52).holds cl) (h53 : (ctr53 S53).holds cl) (x0 x1) : exec cl N c23_17 (e83 x0 x1) K = (g23_17 S52 S53 (fun y0 y1 => K .ret (e87 y0 y1)) (fun y0 y1 => K .ret (e86 y0 y1)) x0 x1) := by
 simp only [c23_17, exec_seq, seqK_normal, seqK_exit, seqK_ret, t23_0, t23_1, c23_3, exec_out, exec_cond', hb23_0, Option.bind_some, brB_true, brB_false, t23_2, exec_ret, exec_skip, kp23_0, kp23_1, t23_4, c23_6, hb23_1, t23_5, kp23_2, t23_7, t23_11, t23_15, t23_16 S52 S53 h52 h53]
 rfl
theorem rk23_0 (y0 y1) : retK d23 .ret (e87 y0 y1) = some [.v U12 y0, .v U1 y1] := by kernel_rfl
theorem rk23_1 (y0 y1) : retK d23 .ret (e86 y0 y1) = some [.v U12 y0, .v U1 y1] := by kernel_rfl
def g23 (S52 : Bool → V4 → V4 → Option V16) (S53 : Int → Option V6) (x0 x1 : Int) (k : V15 → Int → Option R) : Option R :=
(g23_17 S52 S53 k k x0 x1)
theorem gen23 (S52) (S53) (h52 : (ctr52 S52).holds cl) (h53 : (ctr53 S53).holds cl) (x0 x1) (k : List E → Option R) : exec cl N c23 (e83 x0 x1) (fun e env => (retK d23 e env).bind k) = g23 S52 S53 x0 x1 (fun r0 r1 => k [.v U12 r0, .v U1 r1]) := by
 simp only [c23, t23_17 S52 S53 h52 h53, rk23_0, rk23_1, Option.bind_some]
 rfl
def ctr23 (S : Int → Int → Option V17) : Ctr := cv2 23 U1 U1 S fun b => [.v U12 b.1, .v U1 b.2]
def S23 (N : Nat) (x0 : Int) (x1 : Int) : Option V17 := g23 (S52 N) (S53 N) x0 x1 (fun (r0 : V15) (r1 : Int) => some (r0, r1))
def g22_4 (S23 : Int → Int → Option V17) (k0 : V15 → Option R) (x0 x1 : Int) : Option R :=
let v406 : Int := (IntKind.i64.wrap ((1 : Int) + (IntKind.i64.wrap (Int.tmod x1 (20 : Int)))))
let v408 : Int := (IntKind.i64.wrap (v406 + (1 : Int)))
if v408 = 0 then none else
(S23 (Int.tmod (IntKind.i64.wrap x0) v408) v406).bind fun r410 =>
k0 r410.1
theorem t22_4 (S23) (h23 : (ctr23 S23).holds cl) (x0 x1) : exec cl N c22_4 [(0, .v U0 x0), (1, .v U0 x1)] K = (g22_4 S23 (fun y0 => exec cl N .ret [(4, .loc U12 .no y0)] K) x0 x1) := by
 rw [← put_eq h23]
 kernel_rfl
def g22_4b (S23 : Int → Int → Option V17) (k0 : V15 → Option R) (x0 x1 : Int) : Option R :=
(g22_4 S23 k0 x0 x1)
theorem t22_4b (S23) (h23 : (ctr23 S23).holds cl) (x0 x1) : exec cl N c22_4 [(0, .v U0 x0), (1, .v U0 x1)] K = (g22_4b S23 (fun y0 => K .ret [(4, .loc U12 .no y0)]) x0 x1) := by
 simp only [exec_seq, seqK_normal, seqK_exit, seqK_ret, t22_4 S23 h23, exec_ret]
 rfl
theorem rk22_0 (y0) : retK d22 .ret [(4, .loc U12 .no y0)] = some [.v U12 y0] := by kernel_rfl
def g22 (S23 : Int → Int → Option V17) (x0 x1 : Int) (k : V15 → Option R) : Option R :=
(g22_4b S23 k x0 x1)
theorem gen22 (S23) (h23 : (ctr23 S23).holds cl) (x0 x1) (k : List E → Option R) : exec cl N c22 [(0, .v U0 x0), (1, .v U0 x1)] (fun e env => (retK d22 e env).bind k) = g22 S23 x0 x1 (fun r0 => k [.v U12 r0]) := by
 simp only [c22, t22_4b S23 h23, rk22_0, Option.bind_some]
 rfl
def ctr22 (S : Int → Int → Option V16) : Ctr := cv2 22 U0 U0 S fun b => [.v U12 b]
def S22 (N : Nat) (x0 : Int) (x1 : Int) : Option V16 := g22 (S23 N) x0 x1 (fun (r0 : V15) => some (r0))
def g60_2 (S90 : V0 → V0 → Option (Int)) (k0 : Int → Option R) (x0 x1 : V4) : Option R :=
(S90 x0.1 x1.1).bind fun r437 =>
k0 r437
theorem t60_2 (S90) (h90 : (ctr90 S90).holds cl) (x0 x1) : exec cl N c60_2 (e41 x0 x1) K = (g60_2 S90 (fun y0 => exec cl N .ret [(4, .v U1 y0)] K) x0 x1) := by
 rw [← put_eq h90]
 kernel_rfl
def g60_2b (S90 : V0 → V0 → Option (Int)) (k0 : Int → Option R) (x0 x1 : V4) : Option R :=
(g60_2 S90 k0 x0 x1)
theorem t60_2b (S90) (h90 : (ctr90 S90).holds cl) (x0 x1) : exec cl N c60_2 (e41 x0 x1) K = (g60_2b S90 (fun y0 => K .ret [(4, .v U1 y0)]) x0 x1) := by
 simp only [exec_seq, seqK_normal, seqK_exit, seqK_ret, t60_2 S90 h90, exec_ret]
 rfl
theorem rk60_0 (y0) : retK d60 .ret [(4, .v U1 y0)] = some [.v U1 y0] := by kernel_rfl
def g60 (S90 : V0 → V0 → Option (Int)) (x0 x1 : V4) (k : Int → Option R) : Option R :=
(g60_2b S90 k x0 x1)
theorem gen60 (S90) (h90 : (ctr90 S90).holds cl) (x0 x1) (k : List E → Option R) : exec cl N c60 (e41 x0 x1) (fun e env => (retK d60 e env).bind k) = g60 S90 x0 x1 (fun r0 => k [.v U1 r0]) := by
 simp only [c60, t60_2b S90 h90, rk60_0, Option.bind_some]
 rfl
def ctr60 (S : V4 → V4 → Option (Int)) : Ctr := cv2 60 U5 U5 S fun b => [.v U1 b]
def S60 (N : Nat) (x0 : V4) (x1 : V4) : Option (Int) := g60 (S90 N) x0 x1 (fun (r0 : Int) => some (r0))
def g51_2 (S60 : V4 → V4 → Option (Int)) (k0 : Bool → Option R) (x0 x1 : V4) : Option R :=
(S60 x0 x1).bind fun r440 =>
k0 (r440 == (0 : Int))
theorem t51_2 (S60) (h60 : (ctr60 S60).holds cl) (x0 x1) : exec cl N c51_2 (e41 x0 x1) K = (g51_2 S60 (fun y0 => exec cl N .ret [(4, .v .bool y0)] K) x0 x1) := by
 rw [← put_eq h60]
 kernel_rfl
def g51_2b (S60 : V4 → V4 → Option (Int)) (k0 : Bool → Option R) (x0 x1 : V4) : Option R :=
(g51_2 S60 k0 x0 x1)
theorem t51_2b (S60) (h60 : (ctr60 S60).holds cl) (x0 x1) : exec cl N c51_2 (e41 x0 x1) K = (g51_2b S60 (fun y0 => K .ret [(4, .v .bool y0)]) x0 x1) := by
 simp only [exec_seq, seqK_normal, seqK_exit, seqK_ret, t51_2 S60 h60, exec_ret]
 rfl
theorem rk51_0 (y0) : retK d51 .ret [(4, .v .bool y0)] = some [.v .bool y0] := by kernel_rfl
def g51 (S60 : V4 → V4 → Option (Int)) (x0 x1 : V4) (k : Bool → Option R) : Option R :=
(g51_2b S60 k x0 x1)
theorem gen51 (S60) (h60 : (ctr60 S60).holds cl) (x0 x1) (k : List E → Option R) : exec cl N c51 (e41 x0 x1) (fun e env => (retK d51 e env).bind k) = g51 S60 x0 x1 (fun r0 => k [.v .bool r0]) := by
 simp only [c51, t51_2b S60 h60, rk51_0, Option.bind_some]
 rfl
def ctr51 (S : V4 → V4 → Option (Bool)) : Ctr := cv2 51 U5 U5 S fun b => [.v .bool b]
def S51 (N : Nat) (x0 : V4) (x1 : V4) : Option (Bool) := g51 (S60 N) x0 x1 (fun (r0 : Bool) => some (r0))
def g54_0 (k0 : V15 → Option R) (x0 : V15) : Option R :=
k0 x0
theorem t54_0 (x0) : exec cl N c54_0 [(0, .v U12 x0)] K = (g54_0 (fun y0 => K .normal [(1, .loc U12 .no y0)]) x0) := by
 kernel_rfl
def g54_1 (S56 : V4 → Option (Bool)) (S86 : V4 → Option (Bool)) (k0 : V15 → Bool → Option R) (x0 : V15) : Option R :=
(S86 x0.2.1).bind fun r443 =>
brB (!r443) (k0 x0 true) ((S86 x0.2.2.1).bind fun r444 =>
brB (!r444) (k0 x0 true) ((S56 x0.2.2.1).bind fun r445 =>
brB r445 (k0 x0 true) ((S56 x0.2.1).bind fun r446 =>
brB r446 (k0 x0 x0.1) (k0 x0 false))))
theorem t54_1 (S56) (S86) (h56 : (ctr56 S56).holds cl) (h86 : (ctr86 S86).holds cl) (x0) : exec cl N c54_1 [(1, .loc U12 .no x0)] K = (g54_1 S56 S86 (fun y0 y1 => K .normal (e93 y0 y1)) x0) := by
 rw [← put_eq h56]
 rw [← put_eq h86]
 kernel_rfl
def g54_2 (k0 : Bool → Option R) (x0 : V15) (x1 : Bool) : Option R :=
k0 false
theorem t54_2 (x0 x1) : exec cl N c54_2 (e93 x0 x1) K = (g54_2 (fun y0 => K .normal [(2, .v .bool y0)]) x0 x1) := by
 kernel_rfl
theorem kp54_0 (x0) : keep [1, 2] [(2, .v .bool x0)] = (e94 x0) := by kernel_rfl
theorem kp54_1 (x0 x1) : keep [1, 2] (e93 x0 x1) = (e95 x0) := by kernel_rfl
theorem hb54_0 (x0 x1) : boolOf? (ent (e93 x0 x1) (.t 28)) = some x1 := by kernel_rfl
def g54_6 (S51 : V4 → V4 → Option (Bool)) (S53 : Int → Option V6) (S83 : V4 → V4 → Option V8) (k0 : Bool → Option R) (x0 : V15) : Option R :=
(S83 x0.2.1 x0.2.2.1).bind fun r448 =>
(S53 (1 : Int)).bind fun r449 =>
(S51 r448.1 r449).bind fun r450 =>
k0 r450
theorem t54_6 (S51) (S53) (S83) (h51 : (ctr51 S51).holds cl) (h53 : (ctr53 S53).holds cl) (h83 : (ctr83 S83).holds cl) (x0) : exec cl N c54_6 (e95 x0) K = (g54_6 S51 S53 S83 (fun y0 => exec cl N .ret [(2, .v .bool y0)] K) x0) := by
 rw [← put_eq h51]
 rw [← put_eq h53]
 rw [← put_eq h83]
 kernel_rfl
def g54_7 (S51 : V4 → V4 → Option (Bool)) (S53 : Int → Option V6) (S56 : V4 → Option (Bool)) (S83 : V4 → V4 → Option V8) (S86 : V4 → Option (Bool)) (k0 : Bool → Option R) (k1 : Bool → Option R) (x0 : V15) : Option R :=
(g54_0 (g54_1 S56 S86 (fun y0 y1 => brB y1 (g54_2 k0 y0 y1) ((g54_6 S51 S53 S83 k1) y0))) x0)
theorem t54_7 (S51) (S53) (S56) (S83) (S86) (h51 : (ctr51 S51).holds cl) (h53 : (ctr53 S53).holds cl) (h56 : (ctr56 S56).holds cl) (h83 : (ctr83 S83).holds cl) (h86 : (ctr86 S86).holds cl) (x0) : exec cl N c54_7 [(0, .v U12 x0)] K = (g54_7 S51 S53 S56 S83 S86 (fun y0 => K .ret (e94 y0)) (fun y0 => K .ret [(2, .v .bool y0)]) x0) := by
 simp only [c54_7, exec_seq, seqK_normal, seqK_exit, seqK_ret, t54_0, t54_1 S56 S86 h56 h86, c54_3, exec_out, exec_cond', hb54_0, Option.bind_some, brB_true, brB_false, t54_2, exec_ret, exec_skip, kp54_0, kp54_1, t54_6 S51 S53 S83 h51 h53 h83]
 rfl
theorem rk54_0 (y0) : retK d54 .ret (e94 y0) = some [.v .bool y0] := by kernel_rfl
theorem rk54_1 (y0) : retK d54 .ret [(2, .v .bool y0)] = some [.v .bool y0] := by kernel_rfl
def g54 (S51 : V4 → V4 → Option (Bool)) (S53 : Int → Option V6) (S56 : V4 → Option (Bool)) (S83 : V4 → V4 → Option V8) (S86 : V4 → Option (Bool)) (x0 : V15) (k : Bool → Option R) : Option R :=
(g54_7 S51 S53 S56 S83 S86 k k x0)
theorem gen54 (S51) (S53) (S56) (S83) (S86) (h51 : (ctr51 S51).holds cl) (h53 : (ctr53 S53).holds cl) (h56 : (ctr56 S56).holds cl) (h83 : (ctr83 S83).holds cl) (h86 : (ctr86 S86).holds cl) (x0) (k : List E → Option R) : exec cl N c54 [(0, .v U12 x0)] (fun e env => (retK d54 e env).bind k) = g54 S51 S53 S56 S83 S86 x0 (fun r0 => k [.v .bool r0]) := by
 simp only [c54, t54_7 S51 S53 S56 S83 S86 h51 h53 h56 h83 h86, rk54_0, rk54_1, Option.bind_some]
 rfl
def ctr54 (S : V15 → Option (Bool)) : Ctr := cv1 54 U12 S fun b => [.v .bool b]
def S54 (N : Nat) (x0 : V15) : Option (Bool) := g54 (S51 N) (S53 N) (S56 N) (S83 N) (S86 N) x0 (fun (r0 : Bool) => some (r0))
def g55_3 (S56 : V4 → Option (Bool)) (k0 : V15 → V15 → Option R) (x0 : V15) : Option R :=
brB (!x0.1) ((S56 x0.2.1).bind fun r455 =>
k0 ((!r455), x0.2) (false, (([], ()), (([], ()), ())))) (k0 (false, x0.2) (false, (([], ()), (([], ()), ()))))
theorem t55_3 (S56) (h56 : (ctr56 S56).holds cl) (x0) : exec cl N c55_3 [(0, .v U12 x0)] K = (g55_3 S56 (fun y0 y1 => exec cl N (.seq c55_2 .ret) (e96 y0 y1) K) x0) := by
 rw [← put_eq h56]
 kernel_rfl
def g55_2 (k0 : V15 → Option R) (x0 x1 : V15) : Option R :=
k0 x0
theorem t55_2 (x0 x1) : exec cl N c55_2 (e96 x0 x1) K = (g55_2 (fun y0 => K .normal [(2, .loc U12 .no y0)]) x0 x1) := by
 kernel_rfl
def g55_3b (S56 : V4 → Option (Bool)) (k0 : V15 → Option R) (x0 : V15) : Option R :=
(g55_3 S56 (g55_2 k0) x0)
theorem t55_3b (S56) (h56 : (ctr56 S56).holds cl) (x0) : exec cl N c55_3 [(0, .v U12 x0)] K = (g55_3b S56 (fun y0 => K .ret [(2, .loc U12 .no y0)]) x0) := by
 simp only [exec_seq, seqK_normal, seqK_exit, seqK_ret, t55_3 S56 h56, t55_2, exec_ret]
 rfl
theorem rk55_0 (y0) : retK d55 .ret [(2, .loc U12 .no y0)] = some [.v U12 y0] := by kernel_rfl
def g55 (S56 : V4 → Option (Bool)) (x0 : V15) (k : V15 → Option R) : Option R :=
(g55_3b S56 k x0)
theorem gen55 (S56) (h56 : (ctr56 S56).holds cl) (x0) (k : List E → Option R) : exec cl N c55 [(0, .v U12 x0)] (fun e env => (retK d55 e env).bind k) = g55 S56 x0 (fun r0 => k [.v U12 r0]) := by
 simp only [c55, t55_3b S56 h56, rk55_0, Option.bind_some]
 rfl
def ctr55 (S : V15 → Option V16) : Ctr := cv1 55 U12 S fun b => [.v U12 b]
def S55 (N : Nat) (x0 : V15) : Option V16 := g55 (S56 N) x0 (fun (r0 : V15) => some (r0))
def g87_0 (k0 : V0 → V4 → Option R) (x0 : V0) : Option R :=
k0 x0 ([], ())
theorem t87_0 (x0) : exec cl N c87_0 [(0, .v U2 x0)] K = (g87_0 (fun y0 y1 => K .normal (e97 y0 y1)) x0) := by
 kernel_rfl
def g87_1 (k0 : V0 → V4 → Bool → Option R) (x0 : V0) (x1 : V4) : Option R :=
k0 x0 x1 (decide ((x0.length : Int) > (200 : Int)))
theorem t87_1 (x0 x1) : exec cl N c87_1 (e97 x0 x1) K = (g87_1 (fun y0 y1 y2 => K .normal (e98 y0 y1 y2)) x0 x1) := by
 kernel_rfl
def g87_2 (k0 : V4 → Int → Option R) (x0 : V0) (x1 : V4) (x2 : Bool) : Option R :=
k0 ([], ()) (3 : Int)
theorem t87_2 (x0 x1 x2) : exec cl N c87_2 (e98 x0 x1 x2) K = (g87_2 (fun y0 y1 => K .normal (e2 y0 y1)) x0 x1 x2) := by
 kernel_rfl
theorem kp87_0 (x0 x1) : keep [0, 2, 3] (e2 x0 x1) = (e3 x0 x1) := by kernel_rfl
theorem kp87_1 (x0 x1 x2) : keep [0, 2, 3] (e98 x0 x1 x2) = (e99 x0 x1) := by kernel_rfl
theorem hb87_0 (x0 x1 x2) : boolOf? (ent (e98 x0 x1 x2) (.t 6)) = some x2 := by kernel_rfl
def g87_4 (k0 : V4 → Int → Option R) (x0 : V0) (x1 : V4) : Option R :=
k0 (x0, ()) (0 : Int)
theorem t87_4 (x0 x1) : exec cl N c87_4 (e99 x0 x1) K = (g87_4 (fun y0 y1 => K .normal (e8 y0 y1)) x0 x1) := by
 kernel_rfl
def g87_5 (k0 : V4 → Int → Option R) (k1 : V4 → Int → Option R) (x0 : V0) : Option R :=
(g87_0 (g87_1 (fun y0 y1 y2 => brB y2 (g87_2 k0 y0 y1 y2) ((g87_4 k1) y0 y1))) x0)
theorem t87_5 (x0) : exec cl N c87_5 [(0, .v U2 x0)] K = (g87_5 (fun y0 y1 => K .ret (e3 y0 y1)) (fun y0 y1 => K .ret (e8 y0 y1)) x0) := by
 simp only [c87_5, exec_seq, seqK_normal, seqK_exit, seqK_ret, t87_0, t87_1, c87_3, exec_out, exec_cond', hb87_0, Option.bind_some, brB_true, brB_false, t87_2, exec_ret, exec_skip, kp87_0, kp87_1, t87_4]
 rfl
theorem rk87_0 (y0 y1) : retK d87 .ret (e3 y0 y1) = some [.v U5 y0, .v U1 y1] := by kernel_rfl
theorem rk87_1 (y0 y1) : retK d87 .ret (e8 y0 y1) = some [.v U5 y0, .v U1 y1] := by kernel_rfl
def g87 (x0 : V0) (k : V4 → Int → Option R) : Option R :=
(g87_5 k k x0)
theorem gen87 (x0) (k : List E → Option R) : exec cl N c87 [(0, .v U2 x0)] (fun e env => (retK d87 e env).bind k) = g87 x0 (fun r0 r1 => k [.v U5 r0, .v U1 r1]) := by
 simp only [c87, t87_5, rk87_0, rk87_1, Option.bind_some]
 rfl
def ctr87 (S : V0 → Option V8) : Ctr := cv1 87 U2 S fun b => [.v U5 b.1, .v U1 b.2]
def S87 (N : Nat) (x0 : V0) : Option V8 := g87 x0 (fun (r0 : V4) (r1 : Int) => some (r0, r1))
def g58_0 (k0 : V4 → V4 → V4 → Option R) (x0 x1 : V4) : Option R :=
k0 x0 x1 ([], ())
theorem t58_0 (x0 x1) : exec cl N c58_0 (e41 x0 x1) K = (g58_0 (fun y0 y1 y2 => K .normal (e42 y0 y1 y2)) x0 x1) := by
 kernel_rfl
def g58_1 (S86 : V4 → Option (Bool)) (k0 : V4 → V4 → V4 → Bool → Option R) (x0 x1 x2 : V4) : Option R :=
(S86 x0).bind fun r467 =>
brB (!r467) (k0 x0 x1 x2 true) ((S86 x1).bind fun r468 =>
k0 x0 x1 x2 (!r468))
theorem t58_1 (S86) (h86 : (ctr86 S86).holds cl) (x0 x1 x2) : exec cl N c58_1 (e42 x0 x1 x2) K = (g58_1 S86 (fun y0 y1 y2 y3 => K .normal (e100 y0 y1 y2 y3)) x0 x1 x2) := by
 rw [← put_eq h86]
 kernel_rfl
def g58_2 (k0 : V4 → Int → Option R) (x0 x1 x2 : V4) (x3 : Bool) : Option R :=
k0 ([], ()) (1 : Int)
theorem t58_2 (x0 x1 x2 x3) : exec cl N c58_2 (e100 x0 x1 x2 x3) K = (g58_2 (fun y0 y1 => K .normal (e44 y0 y1)) x0 x1 x2 x3) := by
 kernel_rfl
theorem kp58_0 (x0 x1) : keep [2, 3, 4, 5] (e44 x0 x1) = (e45 x0 x1) := by kernel_rfl
theorem kp58_1 (x0 x1 x2 x3) : keep [2, 3, 4, 5] (e100 x0 x1 x2 x3) = (e46 x0 x1 x2) := by kernel_rfl
theorem hb58_0 (x0 x1 x2 x3) : boolOf? (ent (e100 x0 x1 x2 x3) (.t 13)) = some x3 := by kernel_rfl
def g58_4 (S87 : V0 → Option V8) (S88 : V0 → V0 → Option V1) (k0 : V4 → Int → Option R) (x0 x1 x2 : V4) : Option R :=
(S88 x0.1 x1.1).bind fun r469 =>
(S87 r469).bind fun r470 =>
k0 r470.1 r470.2
theorem t58_4 (S87) (S88) (h87 : (ctr87 S87).holds cl) (h88 : (ctr88 S88).holds cl) (x0 x1 x2) : exec cl N c58_4 (e46 x0 x1 x2) K = (g58_4 S87 S88 (fun y0 y1 => K .normal (e49 y0 y1)) x0 x1 x2) := by
 rw [← put_eq h87]
 rw [← put_eq h88]
 kernel_rfl
def g58_5 (S86 : V4 → Option (Bool)) (S87 : V0 → Option V8) (S88 : V0 → V0 → Option V1) (k0 : V4 → Int → Option R) (k1 : V4 → Int → Option R) (x0 x1 : V4) : Option R :=
(g58_0 (g58_1 S86 (fun y0 y1 y2 y3 => brB y3 (g58_2 k0 y0 y1 y2 y3) ((g58_4 S87 S88 k1) y0 y1 y2))) x0 x1)
theorem t58_5 (S86) (S87) (S88) (h86 : (ctr86 S86).holds cl) (h87 : (ctr87 S87).holds cl) (h88 : (ctr88 S88).holds cl) (x0 x1) : exec cl N c58_5 (e41 x0 x1) K = (g58_5 S86 S87 S88 (fun y0 y1 => K .ret (e45 y0 y1)) (fun y0 y1 => K .ret (e49 y0 y1)) x0 x1) := by
 simp only [c58_5, exec_seq, seqK_normal, seqK_exit, seqK_ret, t58_0, t58_1 S86 h86, c58_3, exec_out, exec_cond', hb58_0, Option.bind_some, brB_true, brB_false, t58_2, exec_ret, exec_skip, kp58_0, kp58_1, t58_4 S87 S88 h87 h88]
 rfl
theorem rk58_0 (y0 y1) : retK d58 .ret (e45 y0 y1) = some [.v U5 y0, .v U1 y1] := by kernel_rfl
theorem rk58_1 (y0 y1) : retK d58 .ret (e49 y0 y1) = some [.v U5 y0, .v U1 y1] := by kernel_rfl
def g58 (S86 : V4 → Option (Bool)) (S87 : V0 → Option V8) (S88 : V0 → V0 → Option V1) (x0 x1 : V4) (k : V4 → Int → Option R) : Option R :=
(g58_5 S86 S87 S88 k k x0 x1)
theorem gen58 (S86) (S87) (S88) (h86 : (ctr86 S86).holds cl) (h87 : (ctr87 S87).holds cl) (h88 : (ctr88 S88).holds cl) (x0 x1) (k : List E → Option R) : exec cl N c58 (e41 x0 x1) (fun e env => (retK d58 e env).bind k) = g58 S86 S87 S88 x0 x1 (fun r0 r1 => k [.v U5 r0, .v U1 r1]) := by
 simp only [c58, t58_5 S86 S87 S88 h86 h87 h88, rk58_0, rk58_1, Option.bind_some]
 rfl
def ctr58 (S : V4 → V4 → Option V8) : Ctr := cv2 58 U5 U5 S fun b => [.v U5 b.1, .v U1 b.2]
def S58 (N : Nat) (x0 : V4) (x1 : V4) : Option V8 := g58 (S86 N) (S87 N) (S88 N) x0 x1 (fun (r0 : V4) (r1 : Int) => some (r0, r1))
def g57_8 (S58 : V4 → V4 → Option V8) (k0 : V4 → V4 → V4 → V4 → V4 → Int → Option R) (x0 x1 x2 x3 : V4) : Option R :=
(S58 x0 x1).bind fun r475 =>
k0 x2 x3 ([], ()) ([], ()) r475.1 r475.2
theorem t57_8 (S58) (h58 : (ctr58 S58).holds cl) (x0 x1 x2 x3) : exec cl N c57_8 (e101 x0 x1 x2 x3) K = (g57_8 S58 (fun y0 y1 y2 y3 y4 y5 => exec cl N (.seq (.seq c57_2 c57_4) c57_7) (e102 y0 y1 y2 y3 y4 y5) K) x0 x1 x2 x3) := by
 rw [← put_eq h58]
 kernel_rfl
def g57_2 (k0 : V4 → V4 → V4 → V4 → V4 → Int → Bool → Option R) (x0 x1 x2 x3 x4 : V4) (x5 : Int) : Option R :=
k0 x0 x1 x2 x3 x4 x5 (x5 != (0 : Int))
theorem t57_2 (x0 x1 x2 x3 x4 x5) : exec cl N c57_2 (e102 x0 x1 x2 x3 x4 x5) K = (g57_2 (fun y0 y1 y2 y3 y4 y5 y6 => K .normal (e103 y0 y1 y2 y3 y4 y5 y6)) x0 x1 x2 x3 x4 x5) := by
 kernel_rfl
def g57_3 (k0 : V4 → V4 → Int → Option R) (x0 x1 x2 x3 x4 : V4) (x5 : Int) (x6 : Bool) : Option R :=
k0 x4 x4 x5
theorem t57_3 (x0 x1 x2 x3 x4 x5 x6) : exec cl N c57_3 (e103 x0 x1 x2 x3 x4 x5 x6) K = (g57_3 (fun y0 y1 y2 => K .normal (e104 y0 y1 y2)) x0 x1 x2 x3 x4 x5 x6) := by
 kernel_rfl
theorem kp57_0 (x0 x1 x2) : keep [6, 7, 8, 9, 10, 11] (e104 x0 x1 x2) = (e105 x0 x1 x2) := by kernel_rfl
theorem kp57_1 (x0 x1 x2 x3 x4 x5 x6) : keep [6, 7, 8, 9, 10, 11] (e103 x0 x1 x2 x3 x4 x5 x6) = (e106 x0 x1 x2 x3 x4) := by kernel_rfl
theorem hb57_0 (x0 x1 x2 x3 x4 x5 x6) : boolOf? (ent (e103 x0 x1 x2 x3 x4 x5 x6) (.t 21)) = some x6 := by kernel_rfl
def g57_7 (S58 : V4 → V4 → Option V8) (k0 : V4 → V4 → Int → Option R) (x0 x1 x2 x3 x4 : V4) : Option R :=
(S58 x0 x1).bind fun r478 =>
k0 x4 r478.1 r478.2
theorem t57_7 (S58) (h58 : (ctr58 S58).holds cl) (x0 x1 x2 x3 x4) : exec cl N c57_7 (e106 x0 x1 x2 x3 x4) K = (g57_7 S58 (fun y0 y1 y2 => exec cl N .ret (e104 y0 y1 y2) K) x0 x1 x2 x3 x4) := by
 rw [← put_eq h58]
 kernel_rfl
def g57_8b (S58 : V4 → V4 → Option V8) (k0 : V4 → V4 → Int → Option R) (k1 : V4 → V4 → Int → Option R) (x0 x1 x2 x3 : V4) : Option R :=
(g57_8 S58 (g57_2 (fun y0 y1 y2 y3 y4 y5 y6 => brB y6 (g57_3 k0 y0 y1 y2 y3 y4 y5 y6) ((g57_7 S58 k1) y0 y1 y2 y3 y4))) x0 x1 x2 x3)
theorem t57_8b (S58) (h58 : (ctr58 S58).holds cl) (x0 x1 x2 x3) : exec cl N c57_8 (e101 x0 x1 x2 x3) K = (g57_8b S58 (fun y0 y1 y2 => K .ret (e105 y0 y1 y2)) (fun y0 y1 y2 => K .ret (e104 y0 y1 y2)) x0 x1 x2 x3) := by
 simp only [exec_seq, seqK_normal, seqK_exit, seqK_ret, t57_8 S58 h58, t57_2, c57_4, exec_out, exec_cond', hb57_0, Option.bind_some, brB_true, brB_false, t57_3, exec_ret, exec_skip, kp57_0, kp57_1, t57_7 S58 h58]
 rfl
theorem rk57_0 (y0 y1 y2) : retK d57 .ret (e105 y0 y1 y2) = some [.v U5 y0, .v U5 y1, .v U1 y2] := by kernel_rfl
theorem rk57_1 (y0 y1 y2) : retK d57 .ret (e104 y0 y1 y2) = some [.v U5 y0, .v U5 y1, .v U1 y2] := by kernel_rfl
def g57 (S58 : V4 → V4 → Option V8) (x0 x1 x2 x3 : V4) (k : V4 → V4 → Int → Option R) : Option R :=
(g57_8b S58 k k x0 x1 x2 x3)
theorem gen57 (S58) (h58 : (ctr58 S58).holds cl) (x0 x1 x2 x3) (k : List E → Option R) : exec cl N c57 (e101 x0 x1 x2 x3) (fun e env => (retK d57 e env).bind k) = g57 S58 x0 x1 x2 x3 (fun r0 r1 r2 => k [.v U5 r0, .v U5 r1, .v U1 r2]) := by
 simp only [c57, t57_8b S58 h58, rk57_0, rk57_1, Option.bind_some]
 rfl
def ctr57 (S : V4 → V4 → V4 → V4 → Option V13) : Ctr := cv4 57 U5 U5 U5 U5 S fun b => [.v U5 b.1, .v U5 b.2.1, .v U1 b.2.2]
def S57 (N : Nat) (x0 : V4) (x1 : V4) (x2 : V4) (x3 : V4) : Option V13 := g57 (S58 N) x0 x1 x2 x3 (fun (r0 : V4) (r1 : V4) (r2 : Int) => some (r0, r1, r2))
def g59_0 (k0 : V4 → V4 → V4 → Option R) (x0 x1 : V4) : Option R :=
k0 x0 x1 ([], ())
theorem t59_0 (x0 x1) : exec cl N c59_0 (e41 x0 x1) K = (g59_0 (fun y0 y1 y2 => K .normal (e42 y0 y1 y2)) x0 x1) := by
 kernel_rfl
def g59_1 (S86 : V4 → Option (Bool)) (k0 : V4 → V4 → V4 → Bool → Option R) (x0 x1 x2 : V4) : Option R :=
(S86 x0).bind fun r490 =>
brB (!r490) (k0 x0 x1 x2 true) ((S86 x1).bind fun r491 =>
k0 x0 x1 x2 (!r491))
theorem t59_1 (S86) (h86 : (ctr86 S86).holds cl) (x0 x1 x2) : exec cl N c59_1 (e42 x0 x1 x2) K = (g59_1 S86 (fun y0 y1 y2 y3 => K .normal (e100 y0 y1 y2 y3)) x0 x1 x2) := by
 rw [← put_eq h86]
 kernel_rfl
def g59_2 (k0 : V4 → Int → Option R) (x0 x1 x2 : V4) (x3 : Bool) : Option R :=
k0 ([], ()) (1 : Int)
theorem t59_2 (x0 x1 x2 x3) : exec cl N c59_2 (e100 x0 x1 x2 x3) K = (g59_2 (fun y0 y1 => K .normal (e44 y0 y1)) x0 x1 x2 x3) := by
 kernel_rfl
theorem kp59_0 (x0 x1) : keep [2, 3, 4, 5] (e44 x0 x1) = (e45 x0 x1) := by kernel_rfl
theorem kp59_1 (x0 x1 x2 x3) : keep [2, 3, 4, 5] (e100 x0 x1 x2 x3) = (e46 x0 x1 x2) := by kernel_rfl
theorem hb59_0 (x0 x1 x2 x3) : boolOf? (ent (e100 x0 x1 x2 x3) (.t 13)) = some x3 := by kernel_rfl
def g59_4 (S87 : V0 → Option V8) (S89 : V0 → V0 → Option V1) (k0 : V4 → Int → Option R) (x0 x1 x2 : V4) : Option R :=
(S89 x0.1 x1.1).bind fun r492 =>
(S87 r492).bind fun r493 =>
k0 r493.1 r493.2
theorem t59_4 (S87) (S89) (h87 : (ctr87 S87).holds cl) (h89 : (ctr89 S89).holds cl) (x0 x1 x2) : exec cl N c59_4 (e46 x0 x1 x2) K = (g59_4 S87 S89 (fun y0 y1 => K .normal (e49 y0 y1)) x0 x1 x2) := by
 rw [← put_eq h87]
 rw [← put_eq h89]
 kernel_rfl
def g59_5 (S86 : V4 → Option (Bool)) (S87 : V0 → Option V8) (S89 : V0 → V0 → Option V1) (k0 : V4 → Int → Option R) (k1 : V4 → Int → Option R) (x0 x1 : V4) : Option R :=
(g59_0 (g59_1 S86 (fun y0 y1 y2 y3 => brB y3 (g59_2 k0 y0 y1 y2 y3) ((g59_4 S87 S89 k1) y0 y1 y2))) x0 x1)
theorem t59_5 (S86) (S87) (S89) (h86 : (ctr86 S86).holds cl) (h87 : (ctr87 S87).holds cl) (h89 : (ctr89 S89).holds cl) (x0 x1) : exec cl N c59_5 (e41 x0 x1) K = (g59_5 S86 S87 S89 (fun y0 y1 => K .ret (e45 y0 y1)) (fun y0 y1 => K .ret (e49 y0 y1)) x0 x1) := by
 simp only [c59_5, exec_seq, seqK_normal, seqK_exit, seqK_ret, t59_0, t59_1 S86 h86, c59_3, exec_out, exec_cond', hb59_0, Option.bind_some, brB_true, brB_false, t59_2, exec_ret, exec_skip, kp59_0, kp59_1, t59_4 S87 S89 h87 h89]
 rfl
theorem rk59_0 (y0 y1) : retK d59 .ret (e45 y0 y1) = some [.v U5 y0, .v U1 y1] := by kernel_rfl
theorem rk59_1 (y0 y1) : retK d59 .ret (e49 y0 y1) = some [.v U5 y0, .v U1 y1] := by kernel_rfl
def g59 (S86 : V4 → Option (Bool)) (S87 : V0 → Option V8) (S89 : V0 → V0 → Option V1) (x0 x1 : V4) (k : V4 → Int → Option R) : Option R :=
(g59_5 S86 S87 S89 k k x0 x1)
theorem gen59 (S86) (S87) (S89) (h86 : (ctr86 S86).holds cl) (h87 : (ctr87 S87).holds cl) (h89 : (ctr89 S89).holds cl) (x0 x1) (k : List E → Option R) : exec cl N c59 (e41 x0 x1) (fun e env => (retK d59 e env).bind k) = g59 S86 S87 S89 x0 x1 (fun r0 r1 => k [.v U5 r0, .v U1 r1]) := by
 simp only [c59, t59_5 S86 S87 S89 h86 h87 h89, rk59_0, rk59_1, Option.bind_some]
 rfl
def ctr59 (S : V4 → V4 → Option V8) : Ctr := cv2 59 U5 U5 S fun b => [.v U5 b.1, .v U1 b.2]
def S59 (N : Nat) (x0 : V4) (x1 : V4) : Option V8 := g59 (S86 N) (S87 N) (S89 N) x0 x1 (fun (r0 : V4) (r1 : Int) => some (r0, r1))
def g61_0 (k0 : V4 → V4 → V4 → Option R) (x0 x1 : V4) : Option R :=
k0 x0 x1 ([], ())
theorem t61_0 (x0 x1) : exec cl N c61_0 (e41 x0 x1) K = (g61_0 (fun y0 y1 y2 => K .normal (e42 y0 y1 y2)) x0 x1) := by
 kernel_rfl
def g61_1 (S86 : V4 → Option (Bool)) (k0 : V4 → V4 → V4 → Bool → Option R) (x0 x1 x2 : V4) : Option R :=
(S86 x0).bind fun r505 =>
brB (!r505) (k0 x0 x1 x2 true) ((S86 x1).bind fun r506 =>
k0 x0 x1 x2 (!r506))
theorem t61_1 (S86) (h86 : (ctr86 S86).holds cl) (x0 x1 x2) : exec cl N c61_1 (e42 x0 x1 x2) K = (g61_1 S86 (fun y0 y1 y2 y3 => K .normal (e100 y0 y1 y2 y3)) x0 x1 x2) := by
 rw [← put_eq h86]
 kernel_rfl
def g61_2 (k0 : V4 → Int → Option R) (x0 x1 x2 : V4) (x3 : Bool) : Option R :=
k0 ([], ()) (1 : Int)
theorem t61_2 (x0 x1 x2 x3) : exec cl N c61_2 (e100 x0 x1 x2 x3) K = (g61_2 (fun y0 y1 => K .normal (e44 y0 y1)) x0 x1 x2 x3) := by
 kernel_rfl
theorem kp61_0 (x0 x1) : keep [2, 3, 4, 5] (e44 x0 x1) = (e45 x0 x1) := by kernel_rfl
theorem kp61_1 (x0 x1 x2 x3) : keep [2, 3, 4, 5] (e100 x0 x1 x2 x3) = (e46 x0 x1 x2) := by kernel_rfl
theorem hb61_0 (x0 x1 x2 x3) : boolOf? (ent (e100 x0 x1 x2 x3) (.t 13)) = some x3 := by kernel_rfl
def g61_4 (S60 : V4 → V4 → Option (Int)) (k0 : V4 → V4 → V4 → Bool → Option R) (x0 x1 x2 : V4) : Option R :=
(S60 x0 x1).bind fun r507 =>
k0 x0 x1 x2 (decide (r507 < (0 : Int)))
theorem t61_4 (S60) (h60 : (ctr60 S60).holds cl) (x0 x1 x2) : exec cl N c61_4 (e46 x0 x1 x2) K = (g61_4 S60 (fun y0 y1 y2 y3 => K .normal (e43 y0 y1 y2 y3)) x0 x1 x2) := by
 rw [← put_eq h60]
 kernel_rfl
def g61_5 (k0 : V4 → Int → Option R) (x0 x1 x2 : V4) (x3 : Bool) : Option R :=
k0 ([], ()) (6 : Int)
theorem t61_5 (x0 x1 x2 x3) : exec cl N c61_5 (e43 x0 x1 x2 x3) K = (g61_5 (fun y0 y1 => K .normal (e44 y0 y1)) x0 x1 x2 x3) := by
 kernel_rfl
theorem kp61_2 (x0 x1 x2 x3) : keep [2, 3, 4, 5] (e43 x0 x1 x2 x3) = (e46 x0 x1 x2) := by kernel_rfl
theorem hb61_1 (x0 x1 x2 x3) : boolOf? (ent (e43 x0 x1 x2 x3) (.t 18)) = some x3 := by kernel_rfl
def g61_7 (S91 : V0 → V0 → Option V1) (k0 : V4 → Int → Option R) (x0 x1 x2 : V4) : Option R :=
(S91 x0.1 x1.1).bind fun r509 =>
k0 (r509, ()) (0 : Int)
theorem t61_7 (S91) (h91 : (ctr91 S91).holds cl) (x0 x1 x2) : exec cl N c61_7 (e46 x0 x1 x2) K = (g61_7 S91 (fun y0 y1 => K .normal (e49 y0 y1)) x0 x1 x2) := by
 rw [← put_eq h91]
 kernel_rfl
def g61_8 (S60 : V4 → V4 → Option (Int)) (S86 : V4 → Option (Bool)) (S91 : V0 → V0 → Option V1) (k0 : V4 → Int → Option R) (k1 : V4 → Int → Option R) (x0 x1 : V4) : Option R :=
(g61_0 (g61_1 S86 (fun y0 y1 y2 y3 => brB y3 (g61_2 k0 y0 y1 y2 y3) ((g61_4 S60 (fun y0 y1 y2 y3 => brB y3 (g61_5 k0 y0 y1 y2 y3) ((g61_7 S91 k1) y0 y1 y2))) y0 y1 y2))) x0 x1)
theorem t61_8 (S60) (S86) (S91) (h60 : (ctr60 S60).holds cl) (h86 : (ctr86 S86).holds cl) (h91 : (ctr91 S91).holds cl) (x0 x1) : exec cl N c61_8 (e41 x0 x1) K = (g61_8 S60 S86 S91 (fun y0 y1 => K .ret (e45 y0 y1)) (fun y0 y1 => K .ret (e49 y0 y1)) x0 x1) := by
 simp only [c61_8, exec_seq, seqK_normal, seqK_exit, seqK_ret, t61_0, t61_1 S86 h86, c61_3, exec_out, exec_cond', hb61_0, Option.bind_some, brB_true, brB_false, t61_2, exec_ret, exec_skip, kp61_0, kp61_1, t61_4 S60 h60, c61_6, hb61_1, t61_5, kp61_2, t61_7 S91 h91]
 rfl
theorem rk61_0 (y0 y1) : retK d61 .ret (e45 y0 y1) = some [.v U5 y0, .v U1 y1] := by kernel_rfl
theorem rk61_1 (y0 y1) : retK d61 .ret (e49 y0 y1) = some [.v U5 y0, .v U1 y1] := by kernel_rfl
def g61 (S60 : V4 → V4 → Option (Int)) (S86 : V4 → Option (Bool)) (S91 : V0 → V0 → Option V1) (x0 x1 : V4) (k : V4 → Int → Option R) : Option R :=
(g61_8 S60 S86 S91 k k x0 x1)
theorem gen61 (S60) (S86) (S91) (h60 : (ctr60 S60).holds cl) (h86 : (ctr86 S86).holds cl) (h91 : (ctr91 S91).holds cl) (x0 x1) (k : List E → Option R) : exec cl N c61 (e41 x0 x1) (fun e env => (retK d61 e env).bind k) = g61 S60 S86 S91 x0 x1 (fun r0 r1 => k [.v U5 r0, .v U1 r1]) := by
 simp only [c61, t61_8 S60 S86 S91 h60 h86 h91, rk61_0, rk61_1, Option.bind_some]
 rfl
def ctr61 (S : V4 → V4 → Option V8) : Ctr := cv2 61 U5 U5 S fun b => [.v U5 b.1, .v U1 b.2]
def S61 (N : Nat) (x0 : V4) (x1 : V4) : Option V8 := g61 (S60 N) (S86 N) (S91 N) x0 x1 (fun (r0 : V4) (r1 : Int) => some (r0, r1))
def g26_0 (k0 : V15 → V15 → V15 → Option R) (x0 x1 : V15) : Option R :=
k0 x0 x1 (false, (([], ()), (([], ()), ())))
theorem t26_0 (x0 x1) : exec cl N c26_0 (e107 x0 x1) K = (g26_0 (fun y0 y1 y2 => K .normal (e108 y0 y1 y2)) x0 x1) := by
 kernel_rfl
def g26_1 (S54 : V15 → Option (Bool)) (k0 : V15 → V15 → V15 → Bool → Option R) (x0 x1 x2 : V15) : Option R :=
(S54 x0).bind fun r516 =>
brB (!r516) (k0 x0 x1 x2 true) ((S54 x1).bind fun r517 =>
k0 x0 x1 x2 (!r517))
theorem t26_1 (S54) (h54 : (ctr54 S54).holds cl) (x0 x1 x2) : exec cl N c26_1 (e108 x0 x1 x2) K = (g26_1 S54 (fun y0 y1 y2 y3 => K .normal (e109 y0 y1 y2 y3)) x0 x1 x2) := by
 rw [← put_eq h54]
 kernel_rfl
def g26_2 (k0 : V15 → Int → Option R) (x0 x1 x2 : V15) (x3 : Bool) : Option R :=
k0 (false, ([], ()), ([], ()), ()) (1 : Int)
theorem t26_2 (x0 x1 x2 x3) : exec cl N c26_2 (e109 x0 x1 x2 x3) K = (g26_2 (fun y0 y1 => K .normal (e86 y0 y1)) x0 x1 x2 x3) := by
 kernel_rfl
theorem kp26_0 (x0 x1) : keep [2, 3, 4, 5] (e86 x0 x1) = (e110 x0 x1) := by kernel_rfl
theorem kp26_1 (x0 x1 x2 x3) : keep [2, 3, 4, 5] (e109 x0 x1 x2 x3) = (e111 x0 x1 x2) := by kernel_rfl
theorem hb26_0 (x0 x1 x2 x3) : boolOf? (ent (e109 x0 x1 x2 x3) (.t 23)) = some x3 := by kernel_rfl
def g26_4 (S57 : V4 → V4 → V4 → V4 → Option V13) (k0 : V15 → V15 → V15 → V4 → V4 → Int → Option R) (x0 x1 x2 : V15) : Option R :=
(S57 x0.2.1 x1.2.2.1 x1.2.1 x0.2.2.1).bind fun r519 =>
k0 x0 x1 x2 r519.1 r519.2.1 r519.2.2
theorem t26_4 (S57) (h57 : (ctr57 S57).holds cl) (x0 x1 x2) : exec cl N c26_4 (e111 x0 x1 x2) K = (g26_4 S57 (fun y0 y1 y2 y3 y4 y5 => K .normal (e112 y0 y1 y2 y3 y4 y5)) x0 x1 x2) := by
 rw [← put_eq h57]
 kernel_rfl
def g26_5 (k0 : V15 → V15 → V15 → V4 → V4 → Int → Bool → Option R) (x0 x1 x2 : V15) (x3 x4 : V4) (x5 : Int) : Option R :=
k0 x0 x1 x2 x3 x4 x5 (x5 != (0 : Int))
theorem t26_5 (x0 x1 x2 x3 x4 x5) : exec cl N c26_5 (e112 x0 x1 x2 x3 x4 x5) K = (g26_5 (fun y0 y1 y2 y3 y4 y5 y6 => K .normal (e113 y0 y1 y2 y3 y4 y5 y6)) x0 x1 x2 x3 x4 x5) := by
 kernel_rfl
def g26_6 (k0 : V15 → Int → Option R) (x0 x1 x2 : V15) (x3 x4 : V4) (x5 : Int) (x6 : Bool) : Option R :=
k0 (false, ([], ()), ([], ()), ()) x5
theorem t26_6 (x0 x1 x2 x3 x4 x5 x6) : exec cl N c26_6 (e113 x0 x1 x2 x3 x4 x5 x6) K = (g26_6 (fun y0 y1 => K .normal (e86 y0 y1)) x0 x1 x2 x3 x4 x5 x6) := by
 kernel_rfl
theorem kp26_2 (x0 x1) : keep [2, 3, 4, 5, 6, 7] (e86 x0 x1) = (e114 x0 x1) := by kernel_rfl
theorem kp26_3 (x0 x1 x2 x3 x4 x5 x6) : keep [2, 3, 4, 5, 6, 7] (e113 x0 x1 x2 x3 x4 x5 x6) = (e115 x0 x1 x2 x3 x4) := by kernel_rfl
theorem hb26_1 (x0 x1 x2 x3 x4 x5 x6) : boolOf? (ent (e113 x0 x1 x2 x3 x4 x5 x6) (.t 39)) = some x6 := by kernel_rfl
def g26_8 (S58 : V4 → V4 → Option V8) (k0 : V15 → V15 → V15 → V4 → V4 → Int → V4 → Option R) (x0 x1 x2 : V15) (x3 x4 : V4) : Option R :=
(S58 x0.2.2.1 x1.2.2.1).bind fun r522 =>
k0 x0 x1 x2 x3 x4 r522.2 r522.1
theorem t26_8 (S58) (h58 : (ctr58 S58).holds cl) (x0 x1 x2 x3 x4) : exec cl N c26_8 (e115 x0 x1 x2 x3 x4) K = (g26_8 S58 (fun y0 y1 y2 y3 y4 y5 y6 => K .normal (e116 y0 y1 y2 y3 y4 y5 y6)) x0 x1 x2 x3 x4) := by
 rw [← put_eq h58]
 kernel_rfl
def g26_9 (k0 : V15 → V15 → V15 → V4 → V4 → Int → V4 → Bool → Option R) (x0 x1 x2 : V15) (x3 x4 : V4) (x5 : Int) (x6 : V4) : Option R :=
k0 x0 x1 x2 x3 x4 x5 x6 (x5 != (0 : Int))
theorem t26_9 (x0 x1 x2 x3 x4 x5 x6) : exec cl N c26_9 (e116 x0 x1 x2 x3 x4 x5 x6) K = (g26_9 (fun y0 y1 y2 y3 y4 y5 y6 y7 => K .normal (e117 y0 y1 y2 y3 y4 y5 y6 y7)) x0 x1 x2 x3 x4 x5 x6) := by
 kernel_rfl
def g26_10 (k0 : V15 → Int → Option R) (x0 x1 x2 : V15) (x3 x4 : V4) (x5 : Int) (x6 : V4) (x7 : Bool) : Option R :=
k0 (false, ([], ()), ([], ()), ()) x5
theorem t26_10 (x0 x1 x2 x3 x4 x5 x6 x7) : exec cl N c26_10 (e117 x0 x1 x2 x3 x4 x5 x6 x7) K = (g26_10 (fun y0 y1 => K .normal (e86 y0 y1)) x0 x1 x2 x3 x4 x5 x6 x7) := by
 kernel_rfl
theorem kp26_4 (x0 x1) : keep [2, 3, 4, 5, 6, 7, 9] (e86 x0 x1) = (e118 x0 x1) := by kernel_rfl
theorem kp26_5 (x0 x1 x2 x3 x4 x5 x6 x7) : keep [2, 3, 4, 5, 6, 7, 9] (e117 x0 x1 x2 x3 x4 x5 x6 x7) = (e119 x0 x1 x2 x3 x4 x6) := by kernel_rfl
theorem hb26_2 (x0 x1 x2 x3 x4 x5 x6 x7) : boolOf? (ent (e117 x0 x1 x2 x3 x4 x5 x6 x7) (.t 51)) = some x7 := by kernel_rfl
def g26_12 (k0 : V15 → V15 → V15 → V4 → V4 → V4 → Bool → Option R) (x0 x1 x2 : V15) (x3 x4 x5 : V4) : Option R :=
k0 x0 x1 x2 x3 x4 x5 (x0.1 == x1.1)
theorem t26_12 (x0 x1 x2 x3 x4 x5) : exec cl N c26_12 (e119 x0 x1 x2 x3 x4 x5) K = (g26_12 (fun y0 y1 y2 y3 y4 y5 y6 => K .normal (e120 y0 y1 y2 y3 y4 y5 y6)) x0 x1 x2 x3 x4 x5) := by
 kernel_rfl
def g26_13 (S59 : V4 → V4 → Option V8) (k0 : V15 → V15 → V4 → V4 → Int → Option R) (x0 x1 x2 : V15) (x3 x4 x5 : V4) (x6 : Bool) : Option R :=
(S59 x3 x4).bind fun r526 =>
k0 x0 x2 x5 r526.1 r526.2
theorem t26_13 (S59) (h59 : (ctr59 S59).holds cl) (x0 x1 x2 x3 x4 x5 x6) : exec cl N c26_13 (e120 x0 x1 x2 x3 x4 x5 x6) K = (g26_13 S59 (fun y0 y1 y2 y3 y4 => K .normal (e121 y0 y1 y2 y3 y4)) x0 x1 x2 x3 x4 x5 x6) := by
 rw [← put_eq h59]
 kernel_rfl
def g26_14 (k0 : V15 → V15 → V4 → V4 → Int → Bool → Option R) (x0 x1 : V15) (x2 x3 : V4) (x4 : Int) : Option R :=
k0 x0 x1 x2 x3 x4 (x4 != (0 : Int))
theorem t26_14 (x0 x1 x2 x3 x4) : exec cl N c26_14 (e121 x0 x1 x2 x3 x4) K = (g26_14 (fun y0 y1 y2 y3 y4 y5 => K .normal (e122 y0 y1 y2 y3 y4 y5)) x0 x1 x2 x3 x4) := by
 kernel_rfl
def g26_15 (k0 : V15 → Int → Option R) (x0 x1 : V15) (x2 x3 : V4) (x4 : Int) (x5 : Bool) : Option R :=
k0 (false, ([], ()), ([], ()), ()) x4
theorem t26_15 (x0 x1 x2 x3 x4 x5) : exec cl N c26_15 (e122 x0 x1 x2 x3 x4 x5) K = (g26_15 (fun y0 y1 => K .normal (e86 y0 y1)) x0 x1 x2 x3 x4 x5) := by
 kernel_rfl
theorem kp26_6 (x0 x1) : keep [2, 4, 5, 9, 10] (e86 x0 x1) = (e123 x0 x1) := by kernel_rfl
theorem kp26_7 (x0 x1 x2 x3 x4 x5) : keep [2, 4, 5, 9, 10] (e122 x0 x1 x2 x3 x4 x5) = (e124 x0 x1 x2 x3) := by kernel_rfl
theorem hb26_3 (x0 x1 x2 x3 x4 x5) : boolOf? (ent (e122 x0 x1 x2 x3 x4 x5) (.t 66)) = some x5 := by kernel_rfl
def g26_17 (S52 : Bool → V4 → V4 → Option V16) (k0 : V15 → Int → Option R) (x0 x1 : V15) (x2 x3 : V4) : Option R :=
(S52 x0.1 x3 x2).bind fun r529 =>
k0 r529 (0 : Int)
theorem t26_17 (S52) (h52 : (ctr52 S52).holds cl) (x0 x1 x2 x3) : exec cl N c26_17 (e124 x0 x1 x2 x3) K = (g26_17 S52 (fun y0 y1 => K .normal (e86 y0 y1)) x0 x1 x2 x3) := by
 rw [← put_eq h52]
 kernel_rfl
theorem kp26_8 (x0 x1) : keep [2, 3, 4, 5, 6, 7, 9] (e123 x0 x1) = (e118 x0 x1) := by kernel_rfl
theorem kp26_9 (x0 x1 x2 x3 x4 x5 x6) : keep [2, 3, 4, 5, 6, 7, 9] (e120 x0 x1 x2 x3 x4 x5 x6) = (e119 x0 x1 x2 x3 x4 x5) := by kernel_rfl
theorem hb26_4 (x0 x1 x2 x3 x4 x5 x6) : boolOf? (ent (e120 x0 x1 x2 x3 x4 x5 x6) (.t 58)) = some x6 := by kernel_rfl
def g26_19 (S60 : V4 → V4 → Option (Int)) (k0 : V15 → V15 → V15 → V4 → V4 → V4 → Bool → Option R) (x0 x1 x2 : V15) (x3 x4 x5 : V4) : Option R :=
(S60 x3 x4).bind fun r530 =>
k0 x0 x1 x2 x3 x4 x5 (decide (r530 ≥ (0 : Int)))
theorem t26_19 (S60) (h60 : (ctr60 S60).holds cl) (x0 x1 x2 x3 x4 x5) : exec cl N c26_19 (e119 x0 x1 x2 x3 x4 x5) K = (g26_19 S60 (fun y0 y1 y2 y3 y4 y5 y6 => K .normal (e125 y0 y1 y2 y3 y4 y5 y6)) x0 x1 x2 x3 x4 x5) := by
 rw [← put_eq h60]
 kernel_rfl
def g26_22 (S52 : Bool → V4 → V4 → Option V16) (S61 : V4 → V4 → Option V8) (k0 : V15 → Int → Option R) (x0 x1 x2 : V15) (x3 x4 x5 : V4) (x6 : Bool) : Option R :=
(S61 x3 x4).bind fun r533 =>
(S52 x0.1 r533.1 x5).bind fun r534 =>
k0 r534 (0 : Int)
theorem t26_22 (S52) (S61) (h52 : (ctr52 S52).holds cl) (h61 : (ctr61 S61).holds cl) (x0 x1 x2 x3 x4 x5 x6) : exec cl N c26_22 (e125 x0 x1 x2 x3 x4 x5 x6) K = (g26_22 S52 S61 (fun y0 y1 => exec cl N .ret (e86 y0 y1) K) x0 x1 x2 x3 x4 x5 x6) := by
 rw [← put_eq h52]
 rw [← put_eq h61]
 kernel_rfl
theorem kp26_10 (x0 x1) : keep [3, 4, 5, 6, 7, 9] (e86 x0 x1) = (e126 x0 x1) := by kernel_rfl
theorem kp26_11 (x0 x1 x2 x3 x4 x5 x6) : keep [3, 4, 5, 6, 7, 9] (e125 x0 x1 x2 x3 x4 x5 x6) = (e127 x1 x2 x3 x4 x5) := by kernel_rfl
theorem hb26_5 (x0 x1 x2 x3 x4 x5 x6) : boolOf? (ent (e125 x0 x1 x2 x3 x4 x5 x6) (.t 77)) = some x6 := by kernel_rfl
def g26_26 (S52 : Bool → V4 → V4 → Option V16) (S61 : V4 → V4 → Option V8) (k0 : V15 → Int → Option R) (x0 x1 : V15) (x2 x3 x4 : V4) : Option R :=
(S61 x3 x2).bind fun r536 =>
(S52 x0.1 r536.1 x4).bind fun r537 =>
k0 r537 (0 : Int)
theorem t26_26 (S52) (S61) (h52 : (ctr52 S52).holds cl) (h61 : (ctr61 S61).holds cl) (x0 x1 x2 x3 x4) : exec cl N c26_26 (e127 x0 x1 x2 x3 x4) K = (g26_26 S52 S61 (fun y0 y1 => exec cl N .ret (e86 y0 y1) K) x0 x1 x2 x3 x4) := by
 rw [← put_eq h52]
 rw [← put_eq h61]
 kernel_rfl
def g26_27 (S52 : Bool → V4 → V4 → Option V16) (S54 : V15 → Option (Bool)) (S57 : V4 → V4 → V4 → V4 → Option V13) (S58 : V4 → V4 → Option V8) (S59 : V4 → V4 → Option V8) (S60 : V4 → V4 → Option (Int)) (S61 : V4 → V4 → Option V8) (k0 : V15 → Int → Option R) (k1 : V15 → Int → Option R) (k2 : V15 → Int → Option R) (k3 : V15 → Int → Option R) (k4 : V15 → Int → Option R) (x0 x1 : V15) : Option R :=
(g26_0 (g26_1 S54 (fun y0 y1 y2 y3 => brB y3 (g26_2 k0 y0 y1 y2 y3) ((g26_4 S57 (g26_5 (fun y0 y1 y2 y3 y4 y5 y6 => brB y6 (g26_6 k1 y0 y1 y2 y3 y4 y5 y6) ((g26_8 S58 (g26_9 (fun y0 y1 y2 y3 y4 y5 y6 y7 => brB y7 (g26_10 k2 y0 y1 y2 y3 y4 y5 y6 y7) ((g26_12 (fun y0 y1 y2 y3 y4 y5 y6 => brB y6 (g26_13 S59 (g26_14 (fun y0 y1 y2 y3 y4 y5 => brB y5 (g26_15 k2 y0 y1 y2 y3 y4 y5) ((g26_17 S52 k2) y0 y1 y2 y3))) y0 y1 y2 y3 y4 y5 y6) ((g26_19 S60 (fun y0 y1 y2 y3 y4 y5 y6 => brB y6 (g26_22 S52 S61 k3 y0 y1 y2 y3 y4 y5 y6) ((g26_26 S52 S61 k4) y1 y2 y3 y4 y5))) y0 y1 y2 y3 y4 y5))) y0 y1 y2 y3 y4 y6)))) y0 y1 y2 y3 y4)))) y0 y1 y2))) x0 x1)
theorem t26_27 (S52) (S54) (S57) (S58) (S59) (S60) (S61) (h52 : (ctr52 S52).holds cl) (h54 : (ctr54 S54).holds cl) (h57 : (ctr57 S57).holds cl) (h58 : (ctr58 S58).holds cl) (h59 : (ctr59 S59).holds cl) (h60 : (ctr60 S60).holds cl) (h61 : (ctr61 S61).holds cl) (x0 x1) : exec cl N c26_27 (e107 x0 x1) K = (g26_27 S52 S54 S57 S58 S59 S60 S61 (fun y0 y1 => K .ret (e110 y0 y1)) (fun y0 y1 => K .ret (e114 y0 y1)) (fun y0 y1 => K .ret (e118 y0 y1)) (fun y0 y1 => K .ret (e126 y0 y1)) (fun y0 y1 => K .ret (e86 y0 y1)) x0 x1) := by
 simp only [c26_27, exec_seq, seqK_normal, seqK_exit, seqK_ret, t26_0, t26_1 S54 h54, c26_3, exec_out, exec_cond', hb26_0, Option.bind_some, brB_true, brB_false, t26_2, exec_ret, exec_skip, kp26_0, kp26_1, t26_4 S57 h57, t26_5, c26_7, hb26_1, t26_6, kp26_2, kp26_3, t26_8 S58 h58, t26_9, c26_11, hb26_2, t26_10, kp26_4, kp26_5, t26_12, c26_18, hb26_4, t26_13 S59 h59, t26_14, c26_16, hb26_3, t26_15, kp26_6, kp26_7, t26_17 S52 h52, kp26_8, kp26_9, t26_19 S60 h60, c26_23, hb26_5, t26_22 S52 S61 h52 h61, kp26_10, kp26_11, t26_26 S52 S61 h52 h61]
 rfl
theorem rk26_0 (y0 y1) : retK d26 .ret (e110 y0 y1) = some [.v U12 y0, .v U1 y1] := by kernel_rfl
theorem rk26_1 (y0 y1) : retK d26 .ret (e114 y0 y1) = some [.v U12 y0, .v U1 y1] := by kernel_rfl
theorem rk26_2 (y0 y1) : retK d26 .ret (e118 y0 y1) = some [.v U12 y0, .v U1 y1] := by kernel_rfl
theorem rk26_3 (y0 y1) : retK d26 .ret (e126 y0 y1) = some [.v U12 y0, .v U1 y1] := by kernel_rfl
theorem rk26_4 (y0 y1) : retK d26 .ret (e86 y0 y1) = some [.v U12 y0, .v U1 y1] := by kernel_rfl
def g26 (S52 : Bool → V4 → V4 → Option V16) (S54 : V15 → Option (Bool)) (S57 : V4 → V4 → V4 → V4 → Option V13) (S58 : V4 → V4 → Option V8) (S59 : V4 → V4 → Option V8) (S60 : V4 → V4 → Option (Int)) (S61 : V4 → V4 → Option V8) (x0 x1 : V15) (k : V15 → Int → Option R) : Option R :=
(g26_27 S52 S54 S57 S58 S59 S60 S61 k k k k k x0 x1)
theorem gen26 (S52) (S54) (S57) (S58) (S59) (S60) (S61) (h52 : (ctr52 S52).holds cl) (h54 : (ctr54 S54).holds cl) (h57 : (ctr57 S57).holds cl) (h58 : (ctr58 S58).holds cl) (h59 : (ctr59 S59).holds cl) (h60 : (ctr60 S60).holds cl) (h61 : (ctr61 S61).holds cl) (x0 x1) (k : List E → Option R) : exec cl N c26 (e107 x0 x1) (fun e env => (retK d26 e env).bind k) = g26 S52 S54 S57 S58 S59 S60 S61 x0 x1 (fun r0 r1 => k [.v U12 r0, .v U1 r1]) := by
 simp only [c26, t26_27 S52 S54 S57 S58 S59 S60 S61 h52 h54 h57 h58 h59 h60 h61, rk26_0, rk26_1, rk26_2, rk26_3, rk26_4, Option.bind_some]
 rfl
def ctr26 (S : V15 → V15 → Option V17) : Ctr := cv2 26 U12 U12 S fun b => [.v U12 b.1, .v U1 b.2]
def S26 (N : Nat) (x0 : V15) (x1 : V15) : Option V17 := g26 (S52 N) (S54 N) (S57 N) (S58 N) (S59 N) (S60 N) (S61 N) x0 x1 (fun (r0 : V15) (r1 : Int) => some (r0, r1))
end Go.Fw.L51
