/- Printed by an own program for this claim: the machine's code of functions, or their typed forms with their equations; no conditions. -/
import Derived.Test.YtnobiophckdjfaaFwYq51
import Derived.Test.YtnobiophckdjfaaFwB4
set_option linter.unusedVariables false
set_option linter.unusedSimpArgs false
namespace Go.Fw.L51
open Go Go.Fw
set_option maxRecDepth 100000
set_option linter.unusedVariables false
set_option linter.unusedSimpArgs false
abbrev cv1 (f : FuncId) (T0 : Ty) {B : Type} (S : den T0 → Option B) (ent : B → List E) : Ctr := { A := den T0 × Unit, B := B, f := f, enc := fun a => [.v T0 a.1], dec := (decC (decV T0) dec0), S := fun a => S a.1, ent := ent, ok := (decV_cons (T := T0) (fun es b h => dec0_some h)) }
abbrev cv2 (f : FuncId) (T0 T1 : Ty) {B : Type} (S : den T0 → den T1 → Option B) (ent : B → List E) : Ctr := { A := den T0 × den T1 × Unit, B := B, f := f, enc := fun a => [.v T0 a.1, .v T1 a.2.1], dec := (decC (decV T0) (decC (decV T1) dec0)), S := fun a => S a.1 a.2.1, ent := ent, ok := (decV_cons (T := T0) (decV_cons (T := T1) (fun es b h => dec0_some h))) }
abbrev cv3 (f : FuncId) (T0 T1 T2 : Ty) {B : Type} (S : den T0 → den T1 → den T2 → Option B) (ent : B → List E) : Ctr := { A := den T0 × den T1 × den T2 × Unit, B := B, f := f, enc := fun a => [.v T0 a.1, .v T1 a.2.1, .v T2 a.2.2.1], dec := (decC (decV T0) (decC (decV T1) (decC (decV T2) dec0))), S := fun a => S a.1 a.2.1 a.2.2.1, ent := ent, ok := (decV_cons (T := T0) (decV_cons (T := T1) (decV_cons (T := T2) (fun es b h => dec0_some h)))) }
abbrev cv4 (f : FuncId) (T0 T1 T2 T3 : Ty) {B : Type} (S : den T0 → den T1 → den T2 → den T3 → Option B) (ent : B → List E) : Ctr := { A := den T0 × den T1 × den T2 × den T3 × Unit, B := B, f := f, enc := fun a => [.v T0 a.1, .v T1 a.2.1, .v T2 a.2.2.1, .v T3 a.2.2.2.1], dec := (decC (decV T0) (decC (decV T1) (decC (decV T2) (decC (decV T3) dec0)))), S := fun a => S a.1 a.2.1 a.2.2.1 a.2.2.2.1, ent := ent, ok := (decV_cons (T := T0) (decV_cons (T := T1) (decV_cons (T := T2) (decV_cons (T := T3) (fun es b h => dec0_some h))))) }
abbrev cv5 (f : FuncId) (T0 T1 T2 T3 T4 : Ty) {B : Type} (S : den T0 → den T1 → den T2 → den T3 → den T4 → Option B) (ent : B → List E) : Ctr := { A := den T0 × den T1 × den T2 × den T3 × den T4 × Unit, B := B, f := f, enc := fun a => [.v T0 a.1, .v T1 a.2.1, .v T2 a.2.2.1, .v T3 a.2.2.2.1, .v T4 a.2.2.2.2.1], dec := (decC (decV T0) (decC (decV T1) (decC (decV T2) (decC (decV T3) (decC (decV T4) dec0))))), S := fun a => S a.1 a.2.1 a.2.2.1 a.2.2.2.1 a.2.2.2.2.1, ent := ent, ok := (decV_cons (T := T0) (decV_cons (T := T1) (decV_cons (T := T2) (decV_cons (T := T3) (decV_cons (T := T4) (fun es b h => dec0_some h)))))) }
abbrev e0 := fun x0 x1 x2 x3 => ([(0, .v U5 x0), (1, .v U1 x1), (5, .v U1 x2), (6, .v U1 x3)] : Env)
abbrev e1 := fun x0 x1 x2 x3 x4 => ([(0, .v U5 x0), (1, .v U1 x1), (5, .v U1 x2), (6, .v U1 x3), (10, .v .bool x4)] : Env)
abbrev e2 := fun x0 x1 => ([(1, .v U1 x0), (5, .v U1 x1)] : Env)
abbrev e3 := fun x0 x1 => ([(0, .v U11 x0), (1, .v U1 x1)] : Env)
abbrev e4 := fun x0 x1 x2 => ([(0, .v U11 x0), (1, .v U1 x1), (5, .v U1 x2)] : Env)
abbrev e5 := fun x0 x1 x2 x3 => ([(0, .v U11 x0), (1, .v U1 x1), (5, .v U1 x2), (9, .v .bool x3)] : Env)
abbrev e6 := fun x0 x1 x2 x3 => ([(0, .v U11 x0), (1, .v U1 x1), (5, .v U1 x2), (25, .v .bool x3)] : Env)
abbrev e7 := fun x0 => ([(0, .dead), (1, .dead), (4, .v .bool x0), (5, .dead)] : Env)
abbrev e8 := fun x0 x1 x2 => ([(0, .v U11 x0), (1, .v U1 x1), (4, .dead), (5, .v U1 x2)] : Env)
abbrev e9 := fun x0 x1 => ([(0, .v U2 x0), (1, .v U6 x1)] : Env)
abbrev e10 := fun x0 x1 x2 x3 => ([(0, .v U2 x0), (1, .v U6 x1), (7, .v U1 x2), (8, .v U1 x3)] : Env)
abbrev e11 := fun x0 x1 x2 x3 x4 => ([(0, .v U2 x0), (1, .v U6 x1), (7, .v U1 x2), (8, .v U1 x3), (9, .v .bool x4)] : Env)
abbrev e12 := fun x0 x1 x2 x3 x4 x5 => ([(0, .v U2 x0), (1, .v U6 x1), (5, .v U1 x2), (7, .v U1 x3), (8, .v U1 x4), (16, .v .bool x5)] : Env)
abbrev e13 := fun x0 => ([(0, .dead), (1, .dead), (4, .v U1 x0), (7, .dead), (8, .dead)] : Env)
abbrev e14 := fun x0 x1 x2 x3 => ([(0, .v U2 x0), (1, .v U6 x1), (4, .dead), (7, .v U1 x2), (8, .v U1 x3)] : Env)
abbrev e15 := fun x0 x1 => ([(3, .v U2 x0), (22, .v .bool x1)] : Env)
abbrev e16 := fun x0 x1 => ([(0, .v U2 x0), (14, .v .bool x1)] : Env)
abbrev e17 := fun x0 x1 => ([(0, .v U2 x0), (1, .v U2 x1)] : Env)
abbrev e18 := fun x0 x1 x2 => ([(0, .v U2 x0), (1, .v U2 x1), (5, .own true 3 U1 .no x2)] : Env)
abbrev e19 := fun x0 x1 x2 x3 x4 => ([(1, .v U2 x0), (5, .own true 3 U1 .no x1), (17, .v U2 x2), (18, .v U1 x3), (19, .v U1 x4)] : Env)
abbrev e20 := fun x0 x1 x2 x3 x4 x5 => ([(1, .v U2 x0), (5, .own true 3 U1 .no x1), (17, .v U2 x2), (18, .v U1 x3), (19, .v U1 x4), (20, .v .bool x5)] : Env)
abbrev e21 := fun x0 x1 x2 x3 x4 x5 x6 x7 => ([(1, .v U2 x0), (5, .own true 3 U1 .no x1), (6, .v U1 x2), (7, .v U1 x3), (8, .v U1 x4), (17, .v U2 x5), (18, .v U1 x6), (19, .v U1 x7)] : Env)
abbrev e22 := fun x0 x1 x2 x3 x4 x5 x6 x7 x8 x9 x10 => ([(1, .v U2 x0), (5, .own true 3 U1 .no x1), (6, .v U1 x2), (7, .v U1 x3), (8, .v U1 x4), (17, .v U2 x5), (18, .v U1 x6), (19, .v U1 x7), (24, .v U2 x8), (25, .v U1 x9), (26, .v U1 x10)] : Env)
abbrev e23 := fun x0 x1 x2 x3 x4 x5 x6 x7 x8 x9 x10 x11 => ([(1, .v U2 x0), (5, .own true 3 U1 .no x1), (6, .v U1 x2), (7, .v U1 x3), (8, .v U1 x4), (17, .v U2 x5), (18, .v U1 x6), (19, .v U1 x7), (24, .v U2 x8), (25, .v U1 x9), (26, .v U1 x10), (27, .v .bool x11)] : Env)
abbrev e24 := fun x0 x1 x2 x3 x4 x5 x6 => ([(1, .v U2 x0), (5, .own true 3 U1 .no x1), (6, .v U1 x2), (8, .v U1 x3), (17, .v U2 x4), (18, .v U1 x5), (19, .v U1 x6)] : Env)
abbrev e25 := fun x0 => ([(5, .own true 3 U1 .no x0)] : Env)
abbrev e26 := fun x0 x1 x2 => ([(0, .v U2 x0), (1, .v U2 x1), (10, .v .bool x2)] : Env)
abbrev e27 := fun x0 => ([(0, .dead), (1, .dead), (4, .v U1 x0)] : Env)
abbrev e28 := fun x0 x1 => ([(0, .v U2 x0), (1, .v U2 x1), (4, .dead)] : Env)
abbrev e29 := fun x0 x1 x2 => ([(0, .v U2 x0), (1, .v U2 x1), (5, .v U1 x2)] : Env)
abbrev e30 := fun x0 x1 x2 x3 => ([(0, .v U2 x0), (1, .v U2 x1), (5, .v U1 x2), (20, .v .bool x3)] : Env)
abbrev e31 := fun x0 x1 x2 x3 => ([(0, .v U2 x0), (1, .v U2 x1), (5, .v U1 x2), (31, .v .bool x3)] : Env)
abbrev e32 := fun x0 => ([(0, .dead), (1, .dead), (4, .v U1 x0), (5, .dead)] : Env)
abbrev e33 := fun x0 x1 x2 => ([(0, .v U2 x0), (1, .v U2 x1), (4, .dead), (5, .v U1 x2)] : Env)
abbrev e34 := fun x0 x1 x2 x3 x4 => ([(1, .v U2 x0), (5, .own true 3 U1 .no x1), (6, .v U1 x2), (11, .v U1 x3), (12, .v U1 x4)] : Env)
abbrev e35 := fun x0 x1 x2 x3 x4 x5 => ([(1, .v U2 x0), (5, .own true 3 U1 .no x1), (6, .v U1 x2), (11, .v U1 x3), (12, .v U1 x4), (13, .v .bool x5)] : Env)
abbrev e36 := fun x0 x1 x2 x3 x4 => ([(1, .v U2 x0), (5, .own true 3 U1 .no x1), (7, .v U1 x2), (11, .v U1 x3), (12, .v U1 x4)] : Env)
abbrev e37 := fun x0 x1 x2 x3 x4 x5 => ([(1, .v U2 x0), (5, .own true 3 U1 .no x1), (7, .v U1 x2), (11, .v U1 x3), (12, .v U1 x4), (25, .v .bool x5)] : Env)
abbrev e38 := fun x0 x1 x2 x3 x4 x5 x6 => ([(1, .v U2 x0), (5, .own true 3 U1 .no x1), (6, .v U1 x2), (7, .v U1 x3), (11, .v U1 x4), (12, .v U1 x5), (40, .v .bool x6)] : Env)
abbrev e39 := fun x0 x1 x2 x3 => ([(0, .v U2 x0), (1, .v U2 x1), (6, .own true 3 U1 .no x2), (7, .v U2 x3)] : Env)
abbrev e40 := fun x0 x1 x2 x3 x4 => ([(0, .v U2 x0), (1, .v U2 x1), (6, .own true 3 U1 .no x2), (7, .v U2 x3), (8, .v U1 x4)] : Env)
abbrev e41 := fun x0 x1 x2 x3 x4 x5 => ([(0, .v U2 x0), (1, .v U2 x1), (6, .own true 3 U1 .no x2), (7, .v U2 x3), (8, .v U1 x4), (16, .v .bool x5)] : Env)
abbrev e42 := fun x0 x1 x2 x3 x4 x5 x6 => ([(0, .v U2 x0), (1, .v U2 x1), (6, .own true 3 U1 .no x2), (7, .v U2 x3), (8, .v U1 x4), (9, .v U1 x5), (10, .v U1 x6)] : Env)
abbrev e43 := fun x0 x1 x2 x3 x4 x5 x6 x7 => ([(0, .v U2 x0), (1, .v U2 x1), (6, .own true 3 U1 .no x2), (7, .v U2 x3), (8, .v U1 x4), (9, .v U1 x5), (10, .v U1 x6), (29, .v .bool x7)] : Env)
abbrev e44 := fun x0 x1 x2 x3 x4 x5 x6 x7 x8 => ([(0, .v U2 x0), (1, .v U2 x1), (6, .own true 3 U1 .no x2), (7, .v U2 x3), (8, .v U1 x4), (9, .v U1 x5), (10, .v U1 x6), (11, .v U1 x7), (41, .v .bool x8)] : Env)
abbrev e45 := fun x0 x1 x2 x3 x4 x5 => ([(0, .v U2 x0), (1, .v U2 x1), (6, .own true 3 U1 .no x2), (7, .v U2 x3), (8, .v U1 x4), (9, .v U1 x5)] : Env)
abbrev e46 := fun x0 x1 x2 x3 x4 x5 x6 => ([(0, .v U2 x0), (1, .v U2 x1), (6, .own true 3 U1 .no x2), (7, .v U2 x3), (8, .v U1 x4), (9, .v U1 x5), (46, .v .bool x6)] : Env)
abbrev e47 := fun x0 x1 => ([(6, .own true 3 U1 .no x0), (7, .v U2 x1)] : Env)
abbrev e48 := fun x0 x1 => ([(4, .v U2 x0), (5, .v U2 x1)] : Env)
abbrev e49 := fun x0 x1 => ([(0, .v U2 x0), (2, .loc U4 (.pair (.own true 3 .no) .no) x1)] : Env)
abbrev e50 := fun x0 x1 x2 => ([(0, .v U2 x0), (2, .loc U4 (.pair (.own true 3 .no) .no) x1), (7, .v .bool x2)] : Env)
abbrev e51 := fun x0 => ([(0, .dead), (2, .loc U4 (.pair (.own true 3 .no) .no) x0)] : Env)
abbrev e52 := fun x0 x1 => ([(0, .v U4 x0), (1, .v U4 x1)] : Env)
abbrev e53 := fun x0 x1 x2 => ([(2, .loc U4 .no x0), (3, .loc U4 .no x1), (4, .loc U4 (.pair (.own true 3 .no) .no) x2)] : Env)
abbrev e54 := fun x0 x1 x2 x3 => ([(2, .loc U4 .no x0), (3, .loc U4 .no x1), (4, .loc U4 (.pair (.own true 3 .no) .no) x2), (17, .v .bool x3)] : Env)
abbrev e55 := fun x0 x1 => ([(4, .loc U4 (.pair (.own true 3 .no) .no) x0), (5, .v U1 x1)] : Env)
abbrev e56 := fun x0 x1 => ([(2, .dead), (3, .dead), (4, .loc U4 (.pair (.own true 3 .no) .no) x0), (5, .v U1 x1)] : Env)
abbrev e57 := fun x0 x1 x2 => ([(2, .loc U4 .no x0), (3, .loc U4 .no x1), (4, .loc U4 (.pair (.own true 3 .no) .no) x2), (5, .dead)] : Env)
abbrev e58 := fun x0 x1 x2 => ([(4, .loc U4 (.pair (.own true 3 .no) .no) x0), (6, .v U2 x1), (7, .v U2 x2)] : Env)
abbrev e59 := fun x0 x1 x2 x3 => ([(4, .loc U4 (.pair (.own true 3 .no) .no) x0), (6, .v U2 x1), (7, .v U2 x2), (27, .v .bool x3)] : Env)
abbrev e60 := fun x0 x1 => ([(4, .loc U4 (.pair (.own true 3 .no) .no) x0), (6, .v U2 x1)] : Env)
abbrev e61 := fun x0 x1 => ([(4, .loc U4 .no x0), (5, .v U1 x1)] : Env)
abbrev e62 := fun x0 x1 => ([(0, .v U1 x0), (2, .loc U4 (.pair (.own true 3 .no) .no) x1)] : Env)
abbrev e63 := fun x0 x1 x2 => ([(0, .v U1 x0), (2, .loc U4 (.pair (.own true 3 .no) .no) x1), (6, .v .bool x2)] : Env)
abbrev e64 := fun x0 x1 => ([(2, .loc U4 (.pair (.own true 3 .no) .no) x0), (3, .v U1 x1)] : Env)
abbrev e65 := fun x0 x1 => ([(0, .dead), (2, .loc U4 (.pair (.own true 3 .no) .no) x0), (3, .v U1 x1)] : Env)
abbrev e66 := fun x0 x1 => ([(0, .v U1 x0), (2, .loc U4 (.pair (.own true 3 .no) .no) x1), (3, .dead)] : Env)
abbrev e67 := fun x0 x1 x2 => ([(0, .v U1 x0), (2, .loc U4 (.pair (.own true 3 .no) .no) x1), (4, .own true 3 U1 .no x2)] : Env)
abbrev e68 := fun x0 x1 x2 x3 => ([(0, .v U1 x0), (2, .loc U4 (.pair (.own true 3 .no) .no) x1), (4, .own true 3 U1 .no x2), (9, .v .bool x3)] : Env)
abbrev e69 := fun x0 x1 => ([(2, .loc U4 (.pair (.own true 3 .no) .no) x0), (4, .own true 3 U1 .no x1)] : Env)
abbrev e70 := fun x0 x1 => ([(2, .loc U4 .no x0), (3, .v U1 x1)] : Env)
abbrev e71 := fun x0 x1 => ([(1, .loc U10 .no x0), (28, .v .bool x1)] : Env)
abbrev e72 := fun x0 => ([(1, .dead), (2, .v .bool x0)] : Env)
abbrev e73 := fun x0 => ([(1, .loc U10 .no x0), (2, .dead)] : Env)
abbrev e74 := fun x0 x1 => ([(1, .loc U4 .no x0), (6, .v .bool x1)] : Env)
abbrev e75 := fun x0 => ([(1, .dead), (2, .v U1 x0)] : Env)
abbrev e76 := fun x0 x1 => ([(1, .loc U10 .no x0), (7, .v .bool x1)] : Env)
abbrev e77 := fun x0 x1 x2 => ([(2, .v U1 x0), (3, .v U1 x1), (4, .v U1 x2)] : Env)
abbrev e78 := fun x0 x1 x2 => ([(1, .dead), (2, .v U1 x0), (3, .v U1 x1), (4, .v U1 x2)] : Env)
abbrev e79 := fun x0 => ([(1, .loc U10 .no x0), (2, .dead), (3, .dead), (4, .dead)] : Env)
abbrev e80 := fun x0 x1 => ([(1, .loc U10 .no x0), (24, .v .bool x1)] : Env)
abbrev e81 := fun x0 x1 x2 x3 x4 => ([(0, .v U1 x0), (1, .v U1 x1), (2, .v U1 x2), (3, .v U1 x3), (4, .v U10 x4)] : Env)
abbrev e82 := fun x0 x1 x2 x3 x4 x5 x6 => ([(0, .v U1 x0), (1, .v U1 x1), (2, .v U1 x2), (3, .v U1 x3), (13, .v U1 x4), (14, .v U1 x5), (15, .v U1 x6)] : Env)
abbrev e83 := fun x0 x1 x2 x3 x4 x5 x6 x7 => ([(0, .v U1 x0), (1, .v U1 x1), (2, .v U1 x2), (3, .v U1 x3), (13, .v U1 x4), (14, .v U1 x5), (15, .v U1 x6), (23, .v .bool x7)] : Env)
abbrev e84 := fun x0 x1 x2 => ([(10, .v U1 x0), (11, .v U1 x1), (12, .v U1 x2)] : Env)
abbrev e85 := fun x0 x1 x2 => ([(0, .dead), (1, .dead), (2, .dead), (3, .dead), (10, .v U1 x0), (11, .v U1 x1), (12, .v U1 x2), (13, .dead), (14, .dead)] : Env)
abbrev e86 := fun x0 x1 x2 x3 x4 x5 => ([(0, .v U1 x0), (1, .v U1 x1), (2, .v U1 x2), (3, .v U1 x3), (10, .dead), (11, .dead), (12, .dead), (13, .v U1 x4), (14, .v U1 x5)] : Env)
abbrev e87 := fun x0 x1 x2 => ([(13, .v U1 x0), (14, .v U1 x1), (40, .v .bool x2)] : Env)
abbrev e88 := fun x0 x1 x2 => ([(10, .v U1 x0), (11, .v U1 x1), (12, .v U1 x2), (13, .dead), (14, .dead)] : Env)
abbrev e89 := fun x0 x1 => ([(10, .dead), (11, .dead), (12, .dead), (13, .v U1 x0), (14, .v U1 x1)] : Env)
abbrev e90 := fun x0 x1 x2 x3 => ([(2, .loc U4 .no x0), (3, .loc U4 .no x1), (4, .loc U4 (.pair (.own true 3 .no) .no) x2), (5, .loc U4 (.pair (.own true 3 .no) .no) x3)] : Env)
abbrev e91 := fun x0 x1 x2 x3 x4 => ([(2, .loc U4 .no x0), (3, .loc U4 .no x1), (4, .loc U4 (.pair (.own true 3 .no) .no) x2), (5, .loc U4 (.pair (.own true 3 .no) .no) x3), (9, .v .bool x4)] : Env)
abbrev e92 := fun x0 x1 x2 => ([(4, .loc U4 (.pair (.own true 3 .no) .no) x0), (5, .loc U4 (.pair (.own true 3 .no) .no) x1), (6, .v U1 x2)] : Env)
abbrev e93 := fun x0 x1 x2 => ([(2, .dead), (3, .dead), (4, .loc U4 (.pair (.own true 3 .no) .no) x0), (5, .loc U4 (.pair (.own true 3 .no) .no) x1), (6, .v U1 x2)] : Env)
abbrev e94 := fun x0 x1 x2 x3 x4 => ([(2, .loc U4 .no x0), (3, .loc U4 .no x1), (4, .loc U4 (.pair (.own true 3 .no) .no) x2), (5, .loc U4 (.pair (.own true 3 .no) .no) x3), (20, .v .bool x4)] : Env)
abbrev e95 := fun x0 x1 x2 x3 => ([(2, .loc U4 .no x0), (3, .loc U4 .no x1), (4, .loc U4 (.pair (.own true 3 .no) .no) x2), (5, .loc U4 (.pair (.own true 3 .no) .no) x3), (6, .dead)] : Env)
abbrev e96 := fun x0 x1 x2 => ([(4, .loc U4 .no x0), (5, .loc U4 .no x1), (6, .v U1 x2)] : Env)
abbrev e97 := fun x0 x1 x2 => ([(0, .v .bool x0), (1, .v U4 x1), (2, .v U4 x2)] : Env)
abbrev e98 := fun x0 x1 => ([(0, .v U1 x0), (1, .v U1 x1)] : Env)
abbrev e99 := fun x0 x1 x2 => ([(0, .v U1 x0), (1, .v U1 x1), (4, .loc U10 (.pair .no (.pair (.pair (.own true 3 .no) .no) (.pair (.pair (.own true 3 .no) .no) .no))) x2)] : Env)
abbrev e100 := fun x0 x1 x2 x3 => ([(0, .v U1 x0), (1, .v U1 x1), (4, .loc U10 (.pair .no (.pair (.pair (.own true 3 .no) .no) (.pair (.pair (.own true 3 .no) .no) .no))) x2), (7, .v .bool x3)] : Env)
abbrev e101 := fun x0 x1 => ([(4, .loc U10 .no x0), (5, .v U1 x1)] : Env)
abbrev e102 := fun x0 x1 => ([(0, .dead), (1, .dead), (4, .loc U10 .no x0), (5, .v U1 x1)] : Env)
abbrev e103 := fun x0 x1 x2 => ([(0, .v U1 x0), (1, .v U1 x1), (4, .loc U10 (.pair .no (.pair (.pair (.own true 3 .no) .no) (.pair (.pair (.own true 3 .no) .no) .no))) x2), (5, .dead)] : Env)
abbrev e104 := fun x0 x1 x2 x3 => ([(0, .v U1 x0), (1, .v U1 x1), (4, .loc U10 (.pair .no (.pair (.pair (.own true 3 .no) .no) (.pair (.pair (.own true 3 .no) .no) .no))) x2), (18, .v .bool x3)] : Env)
abbrev e105 := fun x0 x1 x2 => ([(0, .v U1 x0), (1, .v U1 x1), (2, .v U10 x2)] : Env)
abbrev e106 := fun x0 x1 x2 x3 x4 x5 => ([(0, .v U1 x0), (1, .v U1 x1), (6, .loc U10 (.pair .no (.pair (.pair (.own true 3 .no) .no) (.pair (.pair (.own true 3 .no) .no) .no))) x2), (8, .v U1 x3), (9, .v U1 x4), (10, .v U1 x5)] : Env)
abbrev e107 := fun x0 x1 x2 x3 x4 x5 x6 => ([(0, .v U1 x0), (1, .v U1 x1), (6, .loc U10 (.pair .no (.pair (.pair (.own true 3 .no) .no) (.pair (.pair (.own true 3 .no) .no) .no))) x2), (8, .v U1 x3), (9, .v U1 x4), (10, .v U1 x5), (22, .v .bool x6)] : Env)
abbrev e108 := fun x0 x1 => ([(6, .loc U10 .no x0), (7, .v U1 x1)] : Env)
abbrev e109 := fun x0 x1 => ([(0, .dead), (1, .dead), (6, .loc U10 .no x0), (7, .v U1 x1), (8, .dead), (9, .dead)] : Env)
abbrev e110 := fun x0 x1 x2 x3 x4 => ([(0, .v U1 x0), (1, .v U1 x1), (6, .loc U10 (.pair .no (.pair (.pair (.own true 3 .no) .no) (.pair (.pair (.own true 3 .no) .no) .no))) x2), (7, .dead), (8, .v U1 x3), (9, .v U1 x4)] : Env)
abbrev e111 := fun x0 x1 x2 x3 x4 x5 => ([(0, .v U1 x0), (1, .v U1 x1), (6, .loc U10 (.pair .no (.pair (.pair (.own true 3 .no) .no) (.pair (.pair (.own true 3 .no) .no) .no))) x2), (8, .v U1 x3), (9, .v U1 x4), (35, .v .bool x5)] : Env)
abbrev e112 := fun x0 x1 x2 => ([(1, .loc U4 .no x0), (3, .v U1 x1), (22, .v .bool x2)] : Env)
abbrev e113 := fun x0 => ([(1, .dead), (2, .v .bool x0), (3, .dead)] : Env)
abbrev e114 := fun x0 x1 x2 => ([(1, .loc U4 .no x0), (3, .v U1 x1), (4, .v U1 x2)] : Env)
abbrev e115 := fun x0 x1 x2 x3 => ([(1, .loc U4 .no x0), (3, .v U1 x1), (4, .v U1 x2), (25, .v .bool x3)] : Env)
abbrev e116 := fun x0 x1 x2 x3 => ([(1, .loc U4 .no x0), (3, .v U1 x1), (4, .v U1 x2), (41, .v .bool x3)] : Env)
abbrev e117 := fun x0 => ([(1, .dead), (2, .v .bool x0), (3, .dead), (4, .dead)] : Env)
abbrev e118 := fun x0 x1 x2 => ([(1, .loc U4 .no x0), (2, .dead), (3, .v U1 x1), (4, .v U1 x2)] : Env)
abbrev e119 := fun x0 x1 x2 x3 => ([(0, .v U2 x0), (3, .own true 3 U1 .no x1), (4, .v U1 x2), (5, .v U1 x3)] : Env)
abbrev e120 := fun x0 x1 x2 x3 x4 => ([(0, .v U2 x0), (3, .own true 3 U1 .no x1), (4, .v U1 x2), (5, .v U1 x3), (14, .v .bool x4)] : Env)
abbrev e121 := fun x0 => ([(3, .own true 3 U1 .no x0)] : Env)
abbrev e122 := fun x0 x1 x2 => ([(0, .v U2 x0), (1, .v U2 x1), (15, .v .bool x2)] : Env)
abbrev e123 := fun x0 x1 x2 x3 => ([(0, .v U2 x0), (1, .v U2 x1), (5, .v U1 x2), (40, .v .bool x3)] : Env)
abbrev e124 := fun x0 x1 => ([(0, .v U2 x0), (1, .v U1 x1)] : Env)
abbrev e125 := fun x0 x1 x2 => ([(0, .v U2 x0), (1, .v U1 x1), (8, .v .bool x2)] : Env)
abbrev e126 := fun x0 x1 x2 x3 => ([(0, .v U2 x0), (1, .v U2 x1), (5, .own true 3 U1 .no x2), (6, .v U1 x3)] : Env)
abbrev e127 := fun x0 x1 x2 x3 x4 => ([(0, .v U2 x0), (1, .v U2 x1), (5, .own true 3 U1 .no x2), (6, .v U1 x3), (7, .v U1 x4)] : Env)
abbrev e128 := fun x0 x1 x2 x3 x4 x5 => ([(0, .v U2 x0), (1, .v U2 x1), (5, .own true 3 U1 .no x2), (6, .v U1 x3), (7, .v U1 x4), (12, .v .bool x5)] : Env)
abbrev e129 := fun x0 x1 x2 x3 x4 x5 => ([(0, .v U2 x0), (1, .v U2 x1), (5, .own true 3 U1 .no x2), (6, .v U1 x3), (7, .v U1 x4), (8, .v U1 x5)] : Env)
abbrev e130 := fun x0 x1 x2 x3 x4 x5 x6 => ([(0, .v U2 x0), (1, .v U2 x1), (5, .own true 3 U1 .no x2), (6, .v U1 x3), (7, .v U1 x4), (8, .v U1 x5), (26, .v .bool x6)] : Env)
abbrev e131 := fun x0 x1 x2 x3 x4 x5 => ([(0, .v U2 x0), (1, .v U2 x1), (5, .own true 3 U1 .no x2), (6, .v U1 x3), (7, .v U1 x4), (18, .v .bool x5)] : Env)
abbrev e132 := fun x0 x1 => ([(5, .own true 3 U1 .no x0), (6, .v U1 x1)] : Env)
abbrev e133 := fun x0 x1 x2 x3 => ([(2, .loc U4 .no x0), (3, .loc U4 .no x1), (4, .loc U4 (.pair (.own true 3 .no) .no) x2), (18, .v .bool x3)] : Env)
abbrev e134 := fun x0 x1 x2 x3 => ([(4, .loc U4 (.pair (.own true 3 .no) .no) x0), (6, .v U2 x1), (7, .v U2 x2), (26, .v .bool x3)] : Env)
abbrev e135 := fun x0 x1 => ([(4, .loc U4 .no x0), (5, .v U1 x1), (6, .dead), (7, .dead)] : Env)
abbrev e136 := fun x0 x1 x2 => ([(4, .loc U4 (.pair (.own true 3 .no) .no) x0), (5, .dead), (6, .v U2 x1), (7, .v U2 x2)] : Env)
abbrev e137 := fun x0 x1 x2 x3 => ([(4, .loc U4 (.pair (.own true 3 .no) .no) x0), (6, .v U2 x1), (7, .v U2 x2), (8, .v U1 x3)] : Env)
abbrev e138 := fun x0 x1 x2 x3 x4 => ([(4, .loc U4 (.pair (.own true 3 .no) .no) x0), (6, .v U2 x1), (7, .v U2 x2), (8, .v U1 x3), (33, .v .bool x4)] : Env)
abbrev e139 := fun x0 x1 x2 x3 x4 => ([(4, .loc U4 (.pair (.own true 3 .no) .no) x0), (6, .v U2 x1), (7, .v U2 x2), (8, .v U1 x3), (37, .v .bool x4)] : Env)
abbrev e140 := fun x0 x1 x2 x3 x4 => ([(4, .loc U4 (.pair (.own true 3 .no) .no) x0), (6, .v U2 x1), (7, .v U2 x2), (8, .v U1 x3), (50, .v .bool x4)] : Env)
abbrev e141 := fun x0 x1 x2 x3 x4 => ([(4, .loc U4 (.pair (.own true 3 .no) .no) x0), (6, .v U2 x1), (7, .v U2 x2), (8, .v U1 x3), (55, .v .bool x4)] : Env)
abbrev e142 := fun x0 x1 x2 x3 x4 => ([(4, .loc U4 (.pair (.own true 3 .no) .no) x0), (6, .v U2 x1), (7, .v U2 x2), (8, .v U1 x3), (60, .v .bool x4)] : Env)
abbrev e143 := fun x0 x1 x2 => ([(4, .loc U4 (.pair (.own true 3 .no) .no) x0), (6, .v U2 x1), (8, .v U1 x2)] : Env)
abbrev e144 := fun x0 x1 x2 => ([(4, .loc U4 (.pair (.own true 3 .no) .no) x0), (8, .v U1 x1), (9, .v U2 x2)] : Env)
abbrev e145 := fun x0 x1 x2 x3 => ([(4, .loc U4 (.pair (.own true 3 .no) .no) x0), (8, .v U1 x1), (9, .v U2 x2), (10, .v U1 x3)] : Env)
abbrev e146 := fun x0 x1 x2 x3 x4 => ([(4, .loc U4 (.pair (.own true 3 .no) .no) x0), (8, .v U1 x1), (9, .v U2 x2), (10, .v U1 x3), (74, .v .bool x4)] : Env)
abbrev e147 := fun x0 x1 => ([(4, .loc U4 (.pair (.own true 3 .no) .no) x0), (9, .v U2 x1)] : Env)
abbrev e148 := fun x0 x1 x2 x3 x4 => ([(0, .v U2 x0), (1, .v U2 x1), (5, .own true 3 U1 .no x2), (6, .v U1 x3), (20, .v .bool x4)] : Env)
abbrev e149 := fun x0 x1 x2 x3 x4 x5 x6 => ([(0, .v U2 x0), (1, .v U2 x1), (5, .own true 3 U1 .no x2), (6, .v U1 x3), (7, .v U1 x4), (8, .v U1 x5), (30, .v .bool x6)] : Env)
abbrev e150 := fun x0 x1 x2 x3 x4 x5 => ([(0, .v U2 x0), (1, .v U2 x1), (6, .own true 3 U1 .no x2), (7, .v U2 x3), (8, .v U1 x4), (19, .v .bool x5)] : Env)
abbrev e151 := fun x0 x1 x2 x3 x4 x5 x6 x7 => ([(0, .v U2 x0), (1, .v U2 x1), (6, .own true 3 U1 .no x2), (7, .v U2 x3), (8, .v U1 x4), (9, .v U1 x5), (10, .v U1 x6), (32, .v .bool x7)] : Env)
abbrev e152 := fun x0 x1 x2 x3 x4 x5 x6 x7 x8 => ([(0, .v U2 x0), (1, .v U2 x1), (6, .own true 3 U1 .no x2), (7, .v U2 x3), (8, .v U1 x4), (9, .v U1 x5), (10, .v U1 x6), (11, .v U1 x7), (44, .v .bool x8)] : Env)
abbrev e153 := fun x0 x1 x2 x3 x4 => ([(2, .loc U4 .no x0), (3, .loc U4 .no x1), (4, .loc U4 (.pair (.own true 3 .no) .no) x2), (5, .loc U4 (.pair (.own true 3 .no) .no) x3), (16, .v .bool x4)] : Env)
abbrev e154 := fun x0 x1 x2 x3 x4 => ([(2, .loc U4 .no x0), (3, .loc U4 .no x1), (4, .loc U4 (.pair (.own true 3 .no) .no) x2), (5, .loc U4 (.pair (.own true 3 .no) .no) x3), (22, .v .bool x4)] : Env)
abbrev e155 := fun x0 x1 x2 x3 => ([(0, .v U1 x0), (1, .v U1 x1), (4, .loc U10 (.pair .no (.pair (.pair (.own true 3 .no) .no) (.pair (.pair (.own true 3 .no) .no) .no))) x2), (8, .v .bool x3)] : Env)
abbrev e156 := fun x0 x1 x2 x3 => ([(0, .v U1 x0), (1, .v U1 x1), (4, .loc U10 (.pair .no (.pair (.pair (.own true 3 .no) .no) (.pair (.pair (.own true 3 .no) .no) .no))) x2), (23, .v .bool x3)] : Env)
abbrev e157 := fun x0 x1 x2 x3 => ([(0, .v U1 x0), (1, .v U1 x1), (4, .loc U10 (.pair .no (.pair (.pair (.own true 3 .no) .no) (.pair (.pair (.own true 3 .no) .no) .no))) x2), (6, .v .bool x3)] : Env)
abbrev e158 := fun x0 x1 x2 x3 x4 => ([(0, .v U1 x0), (1, .v U1 x1), (4, .loc U10 (.pair .no (.pair (.pair (.own true 3 .no) .no) (.pair (.pair (.own true 3 .no) .no) .no))) x2), (6, .v .bool x3), (31, .v .bool x4)] : Env)
abbrev e159 := fun x0 x1 x2 x3 x4 => ([(0, .v U1 x0), (1, .v U1 x1), (4, .loc U10 (.pair .no (.pair (.pair (.own true 3 .no) .no) (.pair (.pair (.own true 3 .no) .no) .no))) x2), (6, .v .bool x3), (35, .v .bool x4)] : Env)
abbrev e160 := fun x0 x1 x2 x3 => ([(0, .v U4 x0), (1, .v U4 x1), (2, .v U4 x2), (3, .v U4 x3)] : Env)
abbrev e161 := fun x0 x1 x2 x3 x4 x5 => ([(5, .loc U4 .no x0), (7, .loc U4 .no x1), (9, .loc U4 .no x2), (10, .loc U4 .no x3), (12, .loc U4 .no x4), (13, .loc U4 .no x5)] : Env)
abbrev e162 := fun x0 x1 x2 x3 x4 x5 => ([(5, .loc U4 .no x0), (7, .loc U4 .no x1), (10, .loc U4 .no x2), (13, .loc U4 .no x3), (15, .v U1 x4), (34, .v .bool x5)] : Env)
abbrev e163 := fun x0 => ([(5, .dead), (7, .dead), (8, .v U1 x0), (10, .dead), (13, .dead)] : Env)
abbrev e164 := fun x0 x1 x2 x3 => ([(5, .loc U4 .no x0), (7, .loc U4 .no x1), (8, .dead), (10, .loc U4 .no x2), (13, .loc U4 .no x3)] : Env)
abbrev e165 := fun x0 x1 x2 x3 x4 => ([(5, .loc U4 .no x0), (7, .loc U4 .no x1), (10, .loc U4 .no x2), (13, .loc U4 .no x3), (41, .v .bool x4)] : Env)
abbrev e166 := fun x0 x1 => ([(0, .v U10 x0), (1, .v U10 x1)] : Env)
abbrev e167 := fun x0 x1 x2 => ([(2, .loc U10 .no x0), (3, .loc U10 .no x1), (12, .v .bool x2)] : Env)
abbrev e168 := fun x0 => ([(2, .dead), (3, .dead), (4, .v U1 x0)] : Env)
abbrev e169 := fun x0 x1 => ([(2, .loc U10 .no x0), (3, .loc U10 .no x1), (4, .dead)] : Env)
abbrev e170 := fun x0 x1 x2 => ([(2, .loc U10 .no x0), (3, .loc U10 .no x1), (17, .v .bool x2)] : Env)
abbrev e171 := fun x0 x1 x2 => ([(2, .loc U10 .no x0), (3, .loc U10 .no x1), (21, .v .bool x2)] : Env)
abbrev e172 := fun x0 x1 => ([(1, .loc U10 .no x0), (5, .v .bool x1)] : Env)
abbrev e173 := fun x0 x1 x2 x3 x4 => ([(0, .v U10 x0), (1, .v U1 x1), (2, .v U1 x2), (3, .v U1 x3), (4, .v U1 x4)] : Env)
abbrev e174 := fun x0 x1 x2 x3 x4 x5 => ([(1, .v U1 x0), (2, .v U1 x1), (3, .v U1 x2), (4, .v U1 x3), (11, .v U1 x4), (15, .v .bool x5)] : Env)
abbrev e175 := fun x0 => ([(1, .dead), (2, .dead), (3, .dead), (4, .dead), (10, .v U1 x0)] : Env)
abbrev e176 := fun x0 x1 x2 x3 => ([(2, .loc U4 .no x0), (3, .loc U4 .no x1), (4, .loc U4 (.pair (.own true 3 .no) .no) x2), (13, .v .bool x3)] : Env)
abbrev e177 := fun x0 x1 x2 => ([(0, .v U1 x0), (1, .v U1 x1), (4, .loc U4 (.pair (.own true 3 .no) .no) x2)] : Env)
abbrev e178 := fun x0 x1 x2 x3 => ([(0, .v U1 x0), (1, .v U1 x1), (4, .loc U4 (.pair (.own true 3 .no) .no) x2), (22, .v .bool x3)] : Env)
abbrev e179 := fun x0 x1 => ([(0, .dead), (1, .dead), (4, .loc U4 (.pair (.own true 3 .no) .no) x0), (5, .v U1 x1)] : Env)
abbrev e180 := fun x0 x1 x2 => ([(0, .v U1 x0), (1, .v U1 x1), (4, .loc U4 (.pair (.own true 3 .no) .no) x2), (5, .dead)] : Env)
abbrev e181 := fun x0 x1 x2 x3 => ([(0, .v U1 x0), (1, .v U1 x1), (4, .loc U4 (.pair (.own true 3 .no) .no) x2), (6, .v U2 x3)] : Env)
abbrev e182 := fun x0 x1 x2 x3 x4 => ([(0, .v U1 x0), (1, .v U1 x1), (4, .loc U4 (.pair (.own true 3 .no) .no) x2), (6, .v U2 x3), (7, .v U1 x4)] : Env)
abbrev e183 := fun x0 x1 x2 x3 x4 x5 => ([(0, .v U1 x0), (1, .v U1 x1), (4, .loc U4 (.pair (.own true 3 .no) .no) x2), (6, .v U2 x3), (7, .v U1 x4), (27, .v .bool x5)] : Env)
abbrev e184 := fun x0 x1 x2 => ([(0, .v U2 x0), (2, .loc U4 (.pair (.own true 3 .no) .no) x1), (6, .v .bool x2)] : Env)
abbrev e185 := fun x0 x1 => ([(0, .v U2 x0), (2, .loc U4 (.pair (.own true 3 .no) .no) x1), (3, .dead)] : Env)
abbrev e186 := fun x0 x1 x2 x3 => ([(1, .v U1 x0), (2, .loc U4 .no x1), (4, .loc U4 (.pair (.own true 3 .no) .no) x2), (5, .loc U4 .no x3)] : Env)
abbrev e187 := fun x0 x1 x2 x3 x4 => ([(1, .v U1 x0), (2, .loc U4 .no x1), (4, .loc U4 (.pair (.own true 3 .no) .no) x2), (5, .loc U4 .no x3), (6, .v U1 x4)] : Env)
abbrev e188 := fun x0 x1 x2 x3 x4 x5 => ([(1, .v U1 x0), (2, .loc U4 .no x1), (4, .loc U4 (.pair (.own true 3 .no) .no) x2), (5, .loc U4 .no x3), (6, .v U1 x4), (10, .v .bool x5)] : Env)
abbrev e189 := fun x0 x1 => ([(4, .loc U4 (.pair (.own true 3 .no) .no) x0), (5, .loc U4 .no x1)] : Env)
abbrev e190 := fun x0 x1 x2 => ([(2, .loc U4 .no x0), (3, .loc U4 .no x1), (4, .loc U10 (.pair .no (.pair (.pair (.own true 3 .no) .no) (.pair (.pair (.own true 3 .no) .no) .no))) x2)] : Env)
abbrev e191 := fun x0 x1 x2 x3 => ([(2, .loc U4 .no x0), (3, .loc U4 .no x1), (4, .loc U10 (.pair .no (.pair (.pair (.own true 3 .no) .no) (.pair (.pair (.own true 3 .no) .no) .no))) x2), (13, .v .bool x3)] : Env)
abbrev e192 := fun x0 x1 => ([(2, .dead), (3, .dead), (4, .loc U10 .no x0), (5, .v U1 x1)] : Env)
abbrev e193 := fun x0 x1 x2 => ([(2, .loc U4 .no x0), (3, .loc U4 .no x1), (4, .loc U10 (.pair .no (.pair (.pair (.own true 3 .no) .no) (.pair (.pair (.own true 3 .no) .no) .no))) x2), (5, .dead)] : Env)
abbrev e194 := fun x0 x1 x2 x3 => ([(2, .loc U4 .no x0), (3, .loc U4 .no x1), (4, .loc U10 (.pair .no (.pair (.pair (.own true 3 .no) .no) (.pair (.pair (.own true 3 .no) .no) .no))) x2), (16, .v .bool x3)] : Env)
abbrev e195 := fun x0 x1 x2 x3 => ([(0, .v U1 x0), (1, .v U1 x1), (5, .loc U10 .no x2), (6, .loc U10 (.pair .no (.pair (.pair (.own true 3 .no) .no) (.pair (.pair (.own true 3 .no) .no) .no))) x3)] : Env)
abbrev e196 := fun x0 x1 x2 x3 x4 x5 => ([(0, .v U1 x0), (1, .v U1 x1), (5, .loc U10 .no x2), (6, .loc U10 (.pair .no (.pair (.pair (.own true 3 .no) .no) (.pair (.pair (.own true 3 .no) .no) .no))) x3), (8, .v U1 x4), (17, .v .bool x5)] : Env)
abbrev e197 := fun x0 x1 => ([(0, .dead), (1, .dead), (5, .dead), (6, .loc U10 .no x0), (7, .v U1 x1)] : Env)
abbrev e198 := fun x0 x1 x2 x3 => ([(0, .v U1 x0), (1, .v U1 x1), (5, .loc U10 .no x2), (6, .loc U10 (.pair .no (.pair (.pair (.own true 3 .no) .no) (.pair (.pair (.own true 3 .no) .no) .no))) x3), (7, .dead)] : Env)
abbrev e199 := fun x0 x1 x2 x3 x4 => ([(0, .v U1 x0), (1, .v U1 x1), (5, .loc U10 .no x2), (6, .loc U10 (.pair .no (.pair (.pair (.own true 3 .no) .no) (.pair (.pair (.own true 3 .no) .no) .no))) x3), (9, .loc U4 .no x4)] : Env)
abbrev e200 := fun x0 x1 x2 x3 x4 x5 => ([(0, .v U1 x0), (1, .v U1 x1), (5, .loc U10 .no x2), (6, .loc U10 (.pair .no (.pair (.pair (.own true 3 .no) .no) (.pair (.pair (.own true 3 .no) .no) .no))) x3), (9, .loc U4 .no x4), (27, .v .bool x5)] : Env)
abbrev e201 := fun x0 x1 => ([(0, .dead), (1, .dead), (5, .dead), (6, .loc U10 .no x0), (7, .v U1 x1), (9, .dead)] : Env)
abbrev e202 := fun x0 x1 x2 x3 x4 => ([(0, .v U1 x0), (1, .v U1 x1), (5, .loc U10 .no x2), (6, .loc U10 (.pair .no (.pair (.pair (.own true 3 .no) .no) (.pair (.pair (.own true 3 .no) .no) .no))) x3), (7, .dead), (9, .loc U4 .no x4)] : Env)
abbrev e203 := fun x0 x1 => ([(0, .v U1 x0), (1, .v U10 x1)] : Env)
abbrev e204 := fun x0 x1 x2 x3 x4 => ([(0, .v U1 x0), (4, .loc U10 (.pair .no (.pair (.pair (.own true 3 .no) .no) (.pair (.pair (.own true 3 .no) .no) .no))) x1), (6, .v U1 x2), (7, .v U1 x3), (8, .v U1 x4)] : Env)
abbrev e205 := fun x0 x1 x2 x3 x4 x5 => ([(0, .v U1 x0), (4, .loc U10 (.pair .no (.pair (.pair (.own true 3 .no) .no) (.pair (.pair (.own true 3 .no) .no) .no))) x1), (6, .v U1 x2), (7, .v U1 x3), (8, .v U1 x4), (17, .v .bool x5)] : Env)
abbrev e206 := fun x0 x1 => ([(0, .dead), (4, .loc U10 .no x0), (5, .v U1 x1), (6, .dead), (7, .dead)] : Env)
abbrev e207 := fun x0 x1 x2 x3 => ([(0, .v U1 x0), (4, .loc U10 (.pair .no (.pair (.pair (.own true 3 .no) .no) (.pair (.pair (.own true 3 .no) .no) .no))) x1), (5, .dead), (6, .v U1 x2), (7, .v U1 x3)] : Env)
abbrev e208 := fun x0 x1 x2 x3 x4 x5 => ([(6, .loc U4 .no x0), (7, .loc U4 .no x1), (8, .loc U4 .no x2), (9, .loc U4 .no x3), (11, .loc U4 .no x4), (12, .v U1 x5)] : Env)
abbrev e209 := fun x0 x1 x2 x3 x4 x5 x6 => ([(6, .loc U4 .no x0), (7, .loc U4 .no x1), (8, .loc U4 .no x2), (9, .loc U4 .no x3), (11, .loc U4 .no x4), (12, .v U1 x5), (21, .v .bool x6)] : Env)
abbrev e210 := fun x0 x1 x2 => ([(8, .loc U4 .no x0), (9, .loc U4 .no x1), (10, .v U1 x2)] : Env)
abbrev e211 := fun x0 x1 x2 => ([(6, .dead), (7, .dead), (8, .loc U4 .no x0), (9, .loc U4 .no x1), (10, .v U1 x2), (11, .dead)] : Env)
abbrev e212 := fun x0 x1 x2 x3 x4 => ([(6, .loc U4 .no x0), (7, .loc U4 .no x1), (8, .loc U4 .no x2), (9, .loc U4 .no x3), (10, .dead), (11, .loc U4 .no x4)] : Env)
abbrev e213 := fun x0 x1 x2 => ([(2, .loc U10 .no x0), (3, .loc U10 .no x1), (4, .loc U10 (.pair .no (.pair (.pair (.own true 3 .no) .no) (.pair (.pair (.own true 3 .no) .no) .no))) x2)] : Env)
abbrev e214 := fun x0 x1 x2 x3 => ([(2, .loc U10 .no x0), (3, .loc U10 .no x1), (4, .loc U10 (.pair .no (.pair (.pair (.own true 3 .no) .no) (.pair (.pair (.own true 3 .no) .no) .no))) x2), (16, .v .bool x3)] : Env)
abbrev e215 := fun x0 x1 x2 => ([(2, .loc U10 .no x0), (3, .loc U10 .no x1), (4, .loc U10 (.pair .no (.pair (.pair (.own true 3 .no) .no) (.pair (.pair (.own true 3 .no) .no) .no))) x2), (5, .dead)] : Env)
abbrev e216 := fun x0 x1 x2 x3 x4 x5 => ([(2, .loc U10 .no x0), (3, .loc U10 .no x1), (4, .loc U10 (.pair .no (.pair (.pair (.own true 3 .no) .no) (.pair (.pair (.own true 3 .no) .no) .no))) x2), (6, .loc U4 .no x3), (7, .loc U4 .no x4), (8, .v U1 x5)] : Env)
abbrev e217 := fun x0 x1 x2 x3 x4 x5 x6 => ([(2, .loc U10 .no x0), (3, .loc U10 .no x1), (4, .loc U10 (.pair .no (.pair (.pair (.own true 3 .no) .no) (.pair (.pair (.own true 3 .no) .no) .no))) x2), (6, .loc U4 .no x3), (7, .loc U4 .no x4), (8, .v U1 x5), (32, .v .bool x6)] : Env)
abbrev e218 := fun x0 x1 => ([(2, .dead), (3, .dead), (4, .loc U10 .no x0), (5, .v U1 x1), (6, .dead), (7, .dead)] : Env)
abbrev e219 := fun x0 x1 x2 x3 x4 => ([(2, .loc U10 .no x0), (3, .loc U10 .no x1), (4, .loc U10 (.pair .no (.pair (.pair (.own true 3 .no) .no) (.pair (.pair (.own true 3 .no) .no) .no))) x2), (5, .dead), (6, .loc U4 .no x3), (7, .loc U4 .no x4)] : Env)
abbrev e220 := fun x0 x1 x2 => ([(0, .v U1 x0), (3, .loc U10 .no x1), (4, .loc U10 (.pair .no (.pair (.pair (.own true 3 .no) .no) (.pair (.pair (.own true 3 .no) .no) .no))) x2)] : Env)
abbrev e221 := fun x0 x1 x2 x3 x4 => ([(0, .v U1 x0), (3, .loc U10 .no x1), (4, .loc U10 (.pair .no (.pair (.pair (.own true 3 .no) .no) (.pair (.pair (.own true 3 .no) .no) .no))) x2), (6, .v U1 x3), (13, .v .bool x4)] : Env)
abbrev e222 := fun x0 x1 => ([(0, .dead), (3, .dead), (4, .loc U10 .no x0), (5, .v U1 x1)] : Env)
abbrev e223 := fun x0 x1 x2 => ([(0, .v U1 x0), (3, .loc U10 .no x1), (4, .loc U10 (.pair .no (.pair (.pair (.own true 3 .no) .no) (.pair (.pair (.own true 3 .no) .no) .no))) x2), (5, .dead)] : Env)
abbrev e224 := fun x0 x1 x2 x3 x4 x5 => ([(0, .v U1 x0), (1, .v U1 x1), (4, .loc U4 (.pair (.own true 3 .no) .no) x2), (6, .v U2 x3), (7, .v U1 x4), (31, .v .bool x5)] : Env)
abbrev e225 := fun x0 x1 x2 x3 => ([(0, .v U1 x0), (1, .v U1 x1), (4, .loc U4 (.pair (.own true 3 .no) .no) x2), (13, .v .bool x3)] : Env)
abbrev e226 := fun x0 => ([(0, .dead), (1, .dead), (4, .loc U4 .no x0)] : Env)
abbrev e227 := fun x0 x1 x2 x3 => ([(1, .v U1 x0), (4, .loc U4 (.pair (.own true 3 .no) .no) x1), (5, .loc U4 .no x2), (6, .loc U4 .no x3)] : Env)
abbrev e228 := fun x0 x1 x2 x3 x4 => ([(4, .loc U4 (.pair (.own true 3 .no) .no) x0), (5, .loc U4 .no x1), (6, .loc U4 .no x2), (10, .v U1 x3), (11, .v U1 x4)] : Env)
abbrev e229 := fun x0 x1 x2 x3 x4 x5 => ([(4, .loc U4 (.pair (.own true 3 .no) .no) x0), (5, .loc U4 .no x1), (6, .loc U4 .no x2), (10, .v U1 x3), (11, .v U1 x4), (12, .v .bool x5)] : Env)
abbrev e230 := fun x0 x1 x2 x3 => ([(0, .v U1 x0), (1, .v U1 x1), (2, .v U1 x2), (3, .v U1 x3)] : Env)
abbrev e231 := fun x0 x1 x2 x3 x4 => ([(0, .v U1 x0), (6, .v U1 x1), (7, .v U1 x2), (8, .v U1 x3), (21, .v .bool x4)] : Env)
abbrev e232 := fun x0 x1 => ([(4, .v U1 x0), (5, .v U1 x1)] : Env)
abbrev e233 := fun x0 x1 => ([(0, .dead), (4, .v U1 x0), (5, .v U1 x1), (6, .dead), (7, .dead)] : Env)
abbrev e234 := fun x0 x1 x2 x3 x4 x5 => ([(0, .v U1 x0), (6, .v U1 x1), (7, .v U1 x2), (9, .v U1 x3), (10, .loc U4 .no x4), (11, .v U1 x5)] : Env)
abbrev e235 := fun x0 x1 x2 x3 x4 x5 x6 => ([(0, .v U1 x0), (6, .v U1 x1), (7, .v U1 x2), (9, .v U1 x3), (10, .loc U4 .no x4), (11, .v U1 x5), (29, .v .bool x6)] : Env)
abbrev e236 := fun x0 x1 x2 x3 x4 x5 x6 x7 => ([(0, .v U1 x0), (6, .v U1 x1), (7, .v U1 x2), (9, .v U1 x3), (10, .loc U4 .no x4), (11, .v U1 x5), (12, .loc U4 .no x6), (40, .v .bool x7)] : Env)
abbrev e237 := fun x0 x1 x2 x3 => ([(0, .v U1 x0), (3, .loc U10 .no x1), (6, .v U1 x2), (15, .v .bool x3)] : Env)
abbrev e238 := fun x0 x1 => ([(0, .dead), (3, .dead), (4, .v U1 x0), (5, .v U1 x1)] : Env)
abbrev e239 := fun x0 x1 => ([(0, .v U1 x0), (3, .loc U10 .no x1), (4, .dead), (5, .dead)] : Env)
abbrev e240 := fun x0 x1 x2 x3 x4 => ([(0, .v U1 x0), (3, .loc U10 .no x1), (7, .v U1 x2), (8, .loc U4 .no x3), (9, .v U1 x4)] : Env)
abbrev e241 := fun x0 x1 x2 x3 x4 x5 => ([(0, .v U1 x0), (3, .loc U10 .no x1), (7, .v U1 x2), (8, .loc U4 .no x3), (9, .v U1 x4), (22, .v .bool x5)] : Env)
abbrev e242 := fun x0 x1 x2 x3 x4 x5 x6 => ([(0, .v U1 x0), (3, .loc U10 .no x1), (7, .v U1 x2), (8, .loc U4 .no x3), (9, .v U1 x4), (10, .loc U4 .no x5), (32, .v .bool x6)] : Env)
abbrev e243 := fun x0 x1 x2 => ([(2, .loc U8 .no x0), (3, .loc U10 .no x1), (30, .v .bool x2)] : Env)
abbrev e244 := fun x0 => ([(2, .dead), (3, .dead), (4, .v .bool x0)] : Env)
variable {N : Nat} {cl : Cal} {R : Type} {K : KE R}
def g16_2 (k0 : Bool → Option R) (x0 : Int) : Option R :=
brB (decide (x0 ≤ (40 : Int))) (k0 true) (k0 (decide (x0 > (200 : Int))))
theorem t16_2 (x0) : exec cl N c16_2 [(0, .v U1 x0)] K = (g16_2 (fun y0 => exec cl N .ret [(2, .v .bool y0)] K) x0) := by
 kernel_rfl
def g16_2b (k0 : Bool → Option R) (x0 : Int) : Option R :=
(g16_2 k0 x0)
theorem t16_2b (x0) : exec cl N c16_2 [(0, .v U1 x0)] K = (g16_2b (fun y0 => K .ret [(2, .v .bool y0)]) x0) := by
 simp only [exec_seq, seqK_normal, seqK_exit, seqK_ret, t16_2, exec_ret]
 rfl
theorem rk16_0 (y0) : retK d16 .ret [(2, .v .bool y0)] = some [.v .bool y0] := by kernel_rfl
def g16 (x0 : Int) (k : Bool → Option R) : Option R :=
(g16_2b k x0)
theorem gen16 (x0) (k : List E → Option R) : exec cl N c16 [(0, .v U1 x0)] (fun e env => (retK d16 e env).bind k) = g16 x0 (fun r0 => k [.v .bool r0]) := by
 simp only [c16, t16_2b, rk16_0, Option.bind_some]
 rfl
def ctr16 (S : Int → Option (Bool)) : Ctr := cv1 16 U1 S fun b => [.v .bool b]
def S16 (N : Nat) (x0 : Int) : Option (Bool) := g16 x0 (fun (r0 : Bool) => some (r0))
def g42_12 (k0 : V9 → Int → Int → Option R) (x0 : V9) (x1 : Int) : Option R :=
k0 x0 x1 (0 : Int)
theorem t42_12 (x0 x1) : exec cl N c42_12 [(0, .v U5 x0), (1, .v U1 x1)] K = (g42_12 (fun y0 y1 y2 => exec cl N (.seq (.seq c42_2 c42_10) (.seq c42_11 .ret)) [(0, .v U5 y0), (1, .v U1 y1), (5, .v U1 y2)] K) x0 x1) := by
 kernel_rfl
def g42_2 (k0 : V9 → Int → Int → Int → Option R) (x0 : V9) (x1 x2 : Int) : Option R :=
k0 x0 x1 x2 (0 : Int)
theorem t42_2 (x0 x1 x2) : exec cl N c42_2 [(0, .v U5 x0), (1, .v U1 x1), (5, .v U1 x2)] K = (g42_2 (fun y0 y1 y2 y3 => K .normal (e0 y0 y1 y2 y3)) x0 x1 x2) := by
 kernel_rfl
theorem kp42_0 (x0 x1 x2 x3) : keep [0, 1, 5, 6] (e0 x0 x1 x2 x3) = (e0 x0 x1 x2 x3) := by kernel_rfl
def g42_3 (k0 : V9 → Int → Int → Int → Bool → Option R) (x0 : V9) (x1 x2 x3 : Int) : Option R :=
k0 x0 x1 x2 x3 (decide (x3 < (x0.length : Int)))
theorem t42_3 (x0 x1 x2 x3) : exec cl N c42_3 (e0 x0 x1 x2 x3) K = (g42_3 (fun y0 y1 y2 y3 y4 => K .normal (e1 y0 y1 y2 y3 y4)) x0 x1 x2 x3) := by
 kernel_rfl
theorem kp42_1 (x0 x1 x2 x3 x4) : keep [0, 1, 5, 6] (e1 x0 x1 x2 x3 x4) = (e0 x0 x1 x2 x3) := by kernel_rfl
theorem hb42_0 (x0 x1 x2 x3 x4) : boolOf? (ent (e1 x0 x1 x2 x3 x4) (.t 10)) = some x4 := by kernel_rfl
def g42_5 (k0 : V9 → Int → Int → Int → Option R) (x0 : V9) (x1 x2 x3 : Int) : Option R :=
if 0 ≤ x3 ∧ x3 < (x0.length : Int) then
k0 x0 x1 (IntKind.i64.wrap (x2 + (((x0.getD x3.toNat ([], ())).1).length : Int))) x3
else none
theorem t42_5 (x0 x1 x2 x3) : exec cl N c42_5 (e0 x0 x1 x2 x3) K = (g42_5 (fun y0 y1 y2 y3 => K .normal (e0 y0 y1 y2 y3)) x0 x1 x2 x3) := by
 kernel_rfl
def g42_7 (k0 : V9 → Int → Int → Int → Option R) (x0 : V9) (x1 x2 x3 : Int) : Option R :=
k0 x0 x1 x2 (IntKind.i64.wrap (x3 + (1 : Int)))
theorem t42_7 (x0 x1 x2 x3) : exec cl N c42_7 (e0 x0 x1 x2 x3) K = (g42_7 (fun y0 y1 y2 y3 => K .normal (e0 y0 y1 y2 y3)) x0 x1 x2 x3) := by
 kernel_rfl
def g42_8 (k0 : V9 → Int → Int → Int → Option R) (k1 : V9 → Int → Int → Int → Option R) (x0 : V9) (x1 x2 x3 : Int) : Option R :=
(g42_3 (fun y0 y1 y2 y3 y4 => brB y4 ((g42_5 ((g42_7 k0))) y0 y1 y2 y3) (k1 y0 y1 y2 y3)) x0 x1 x2 x3)
theorem t42_8 (x0 x1 x2 x3) : exec cl N c42_8 (e0 x0 x1 x2 x3) K = (g42_8 (fun y0 y1 y2 y3 => K .normal (e0 y0 y1 y2 y3)) (fun y0 y1 y2 y3 => K (.exit 0) (e0 y0 y1 y2 y3)) x0 x1 x2 x3) := by
 simp only [c42_8, exec_seq, seqK_normal, seqK_exit, seqK_ret, t42_3, c42_4, exec_out, exec_cond', hb42_0, Option.bind_some, brB_true, brB_false, exec_skip, exec_exit, kp42_1, c42_6, exec_block, t42_5, blockK_normal, blockK_ret, blockK_eq, kp42_0, t42_7]
 rfl
def l42_9 {R : Type} (k0 : V9 → Int → Int → Int → Option R) : Nat → V9 → Int → Int → Int → Option R
 | 0, _, _, _, _ => none
 | m + 1, x0, x1, x2, x3 => (g42_8 (l42_9 k0 m) k0 x0 x1 x2 x3)
theorem lt42_9 : ∀ (m) (x0 x1 x2 x3), iter [0, 1, 5, 6] (fun env K => exec cl N c42_8 env K) K m (e0 x0 x1 x2 x3) = l42_9 (fun y0 y1 y2 y3 => K (.exit 0) (e0 y0 y1 y2 y3)) m x0 x1 x2 x3 := by
 intro m
 induction m with
 | zero => intros; rfl
 | succ m ih =>
   intro x0 x1 x2 x3
   simp only [iter_succ, t42_8, loopK_normal, loopK_exit, loopK_ret, kp42_0, ih]
   rfl
theorem kp42_2 (x0 x1 x2 x3) : keep [1, 5] (e0 x0 x1 x2 x3) = (e2 x1 x2) := by kernel_rfl
def g42_9 (N : Nat) (k0 : Int → Int → Option R) (x0 : V9) (x1 x2 x3 : Int) : Option R :=
l42_9 (fun y0 y1 y2 y3 => k0 y1 y2) N x0 x1 x2 x3
theorem t42_9 (x0 x1 x2 x3) : exec cl N c42_9 (e0 x0 x1 x2 x3) K = (g42_9 N (fun y0 y1 => K (.exit 0) (e2 y0 y1)) x0 x1 x2 x3) := by
 simp only [c42_9, exec_out, exec_loop, kp42_0, lt42_9, kp42_2]
 rfl
theorem kp42_3 (x0 x1) : keep [1, 5] (e2 x0 x1) = (e2 x0 x1) := by kernel_rfl
def g42_11 (k0 : Bool → Option R) (x0 x1 : Int) : Option R :=
k0 (decide (x1 ≤ x0))
theorem t42_11 (x0 x1) : exec cl N c42_11 (e2 x0 x1) K = (g42_11 (fun y0 => K .normal [(4, .v .bool y0)]) x0 x1) := by
 kernel_rfl
def g42_12b (N : Nat) (k0 : Bool → Option R) (x0 : V9) (x1 : Int) : Option R :=
(g42_12 (g42_2 (g42_9 N ((g42_11 k0)))) x0 x1)
theorem t42_12b (x0 x1) : exec cl N c42_12 [(0, .v U5 x0), (1, .v U1 x1)] K = (g42_12b N (fun y0 => K .ret [(4, .v .bool y0)]) x0 x1) := by
 simp only [exec_seq, seqK_normal, seqK_exit, seqK_ret, t42_12, t42_2, c42_10, exec_out, exec_block, t42_9, blockK_normal, blockK_ret, blockK_eq, kp42_3, t42_11, exec_ret]
 rfl
theorem rk42_0 (y0) : retK d42 .ret [(4, .v .bool y0)] = some [.v .bool y0] := by kernel_rfl
def g42 (N : Nat) (x0 : V9) (x1 : Int) (k : Bool → Option R) : Option R :=
(g42_12b N k x0 x1)
theorem gen42 (x0 x1) (k : List E → Option R) : exec cl N c42 [(0, .v U5 x0), (1, .v U1 x1)] (fun e env => (retK d42 e env).bind k) = g42 N x0 x1 (fun r0 => k [.v .bool r0]) := by
 simp only [c42, t42_12b, rk42_0, Option.bind_some]
 rfl
def ctr42 (S : V9 → Int → Option (Bool)) : Ctr := cv2 42 U5 U1 S fun b => [.v .bool b]
def S42 (N : Nat) (x0 : V9) (x1 : Int) : Option (Bool) := g42 N x0 x1 (fun (r0 : Bool) => some (r0))
def g12_0 (k0 : V17 → Int → Option R) (x0 : V17) (x1 : Int) : Option R :=
k0 x0 x1
theorem t12_0 (x0 x1) : exec cl N c12_0 (e3 x0 x1) K = (g12_0 (fun y0 y1 => K .normal (e3 y0 y1)) x0 x1) := by
 kernel_rfl
def g12_1 (k0 : V17 → Int → Int → Option R) (x0 : V17) (x1 : Int) : Option R :=
k0 x0 x1 (0 : Int)
theorem t12_1 (x0 x1) : exec cl N c12_1 (e3 x0 x1) K = (g12_1 (fun y0 y1 y2 => K .normal (e4 y0 y1 y2)) x0 x1) := by
 kernel_rfl
theorem kp12_0 (x0 x1 x2) : keep [0, 1, 5] (e4 x0 x1 x2) = (e4 x0 x1 x2) := by kernel_rfl
def g12_2 (k0 : V17 → Int → Int → Bool → Option R) (x0 : V17) (x1 x2 : Int) : Option R :=
k0 x0 x1 x2 (decide (x2 < (x0.length : Int)))
theorem t12_2 (x0 x1 x2) : exec cl N c12_2 (e4 x0 x1 x2) K = (g12_2 (fun y0 y1 y2 y3 => K .normal (e5 y0 y1 y2 y3)) x0 x1 x2) := by
 kernel_rfl
theorem kp12_1 (x0 x1 x2 x3) : keep [0, 1, 5] (e5 x0 x1 x2 x3) = (e4 x0 x1 x2) := by kernel_rfl
theorem hb12_0 (x0 x1 x2 x3) : boolOf? (ent (e5 x0 x1 x2 x3) (.t 9)) = some x3 := by kernel_rfl
def g12_4 (S42 : V9 → Int → Option (Bool)) (k0 : V17 → Int → Int → Bool → Option R) (x0 : V17) (x1 x2 : Int) : Option R :=
if 0 ≤ x2 ∧ x2 < (x0.length : Int) then
if 0 ≤ x2 ∧ x2 < (x0.length : Int) then
(S42 [(x0.getD x2.toNat (false, (([], ()), (([], ()), ())))).2.1, (x0.getD x2.toNat (false, (([], ()), (([], ()), ())))).2.2.1] x1).bind fun r19 =>
k0 x0 x1 x2 (!r19)
else none
else none
theorem t12_4 (S42) (h42 : (ctr42 S42).holds cl) (x0 x1 x2) : exec cl N c12_4 (e4 x0 x1 x2) K = (g12_4 S42 (fun y0 y1 y2 y3 => K .normal (e6 y0 y1 y2 y3)) x0 x1 x2) := by
 rw [← put_eq h42]
 kernel_rfl
def g12_5 (k0 : Bool → Option R) (x0 : V17) (x1 x2 : Int) (x3 : Bool) : Option R :=
k0 false
theorem t12_5 (x0 x1 x2 x3) : exec cl N c12_5 (e6 x0 x1 x2 x3) K = (g12_5 (fun y0 => K .normal [(4, .v .bool y0)]) x0 x1 x2 x3) := by
 kernel_rfl
theorem kp12_2 (x0) : keep [0, 1, 4, 5] [(4, .v .bool x0)] = (e7 x0) := by kernel_rfl
theorem kp12_3 (x0 x1 x2 x3) : keep [0, 1, 4, 5] (e6 x0 x1 x2 x3) = (e8 x0 x1 x2) := by kernel_rfl
theorem hb12_1 (x0 x1 x2 x3) : boolOf? (ent (e6 x0 x1 x2 x3) (.t 25)) = some x3 := by kernel_rfl
theorem kp12_4 (x0) : keep [0, 1, 4, 5] (e7 x0) = (e7 x0) := by kernel_rfl
theorem kp12_5 (x0 x1 x2) : keep [0, 1, 4, 5] (e8 x0 x1 x2) = (e8 x0 x1 x2) := by kernel_rfl
def g12_8 (k0 : V17 → Int → Int → Option R) (x0 : V17) (x1 x2 : Int) : Option R :=
k0 x0 x1 (IntKind.i64.wrap (x2 + (1 : Int)))
theorem t12_8 (x0 x1 x2) : exec cl N c12_8 (e8 x0 x1 x2) K = (g12_8 (fun y0 y1 y2 => K .normal (e4 y0 y1 y2)) x0 x1 x2) := by
 kernel_rfl
def g12_9 (S42 : V9 → Int → Option (Bool)) (k0 : Bool → Option R) (k1 : V17 → Int → Int → Option R) (k2 : V17 → Int → Int → Option R) (x0 : V17) (x1 x2 : Int) : Option R :=
(g12_2 (fun y0 y1 y2 y3 => brB y3 ((g12_4 S42 (fun y0 y1 y2 y3 => brB y3 (g12_5 k0 y0 y1 y2 y3) (((g12_8 k1)) y0 y1 y2))) y0 y1 y2) (k2 y0 y1 y2)) x0 x1 x2)
theorem t12_9 (S42) (h42 : (ctr42 S42).holds cl) (x0 x1 x2) : exec cl N c12_9 (e4 x0 x1 x2) K = (g12_9 S42 (fun y0 => K .ret (e7 y0)) (fun y0 y1 y2 => K .normal (e4 y0 y1 y2)) (fun y0 y1 y2 => K (.exit 0) (e4 y0 y1 y2)) x0 x1 x2) := by
 simp only [c12_9, exec_seq, seqK_normal, seqK_exit, seqK_ret, t12_2, c12_3, exec_out, exec_cond', hb12_0, Option.bind_some, brB_true, brB_false, exec_skip, exec_exit, kp12_1, c12_7, exec_block, t12_4 S42 h42, c12_6, hb12_1, t12_5, exec_ret, kp12_2, kp12_3, blockK_normal, blockK_ret, blockK_eq, kp12_4, kp12_5, t12_8]
 rfl
def l12_10 {R : Type} (S42 : V9 → Int → Option (Bool)) (k0 : Bool → Option R) (k1 : V17 → Int → Int → Option R) : Nat → V17 → Int → Int → Option R
 | 0, _, _, _ => none
 | m + 1, x0, x1, x2 => (g12_9 S42 k0 (l12_10 S42 k0 k1 m) k1 x0 x1 x2)
theorem lt12_10 (S42) (h42 : (ctr42 S42).holds cl) : ∀ (m) (x0 x1 x2), iter [0, 1, 5] (fun env K => exec cl N c12_9 env K) K m (e4 x0 x1 x2) = l12_10 S42 (fun y0 => K .ret (e7 y0)) (fun y0 y1 y2 => K (.exit 0) (e4 y0 y1 y2)) m x0 x1 x2 := by
 intro m
 induction m with
 | zero => intros; rfl
 | succ m ih =>
   intro x0 x1 x2
   simp only [iter_succ, t12_9 S42 h42, loopK_normal, loopK_exit, loopK_ret, kp12_0, ih]
   rfl
theorem kp12_6 (x0) : keep [4] (e7 x0) = [(4, .v .bool x0)] := by kernel_rfl
theorem kp12_7 (x0 x1 x2) : keep [4] (e4 x0 x1 x2) = [(4, .dead)] := by kernel_rfl
def g12_10 (N : Nat) (S42 : V9 → Int → Option (Bool)) (k0 : Bool → Option R) (k1 : Option R) (x0 : V17) (x1 x2 : Int) : Option R :=
l12_10 S42 k0 (fun y0 y1 y2 => k1) N x0 x1 x2
theorem t12_10 (S42) (h42 : (ctr42 S42).holds cl) (x0 x1 x2) : exec cl N c12_10 (e4 x0 x1 x2) K = (g12_10 N S42 (fun y0 => K .ret [(4, .v .bool y0)]) (K (.exit 0) [(4, .dead)]) x0 x1 x2) := by
 simp only [c12_10, exec_out, exec_loop, kp12_0, lt12_10 S42 h42, kp12_6, kp12_7]
 rfl
theorem kp12_8 (x0) : keep [4] [(4, .v .bool x0)] = [(4, .v .bool x0)] := by kernel_rfl
theorem kp12_9 : keep [4] [(4, .dead)] = [(4, .dead)] := by kernel_rfl
def g12_12 (k0 : Bool → Option R) : Option R :=
k0 true
theorem t12_12 : exec cl N c12_12 [(4, .dead)] K = (g12_12 (fun y0 => K .normal [(4, .v .bool y0)])) := by
 kernel_rfl
def g12_13 (N : Nat) (S42 : V9 → Int → Option (Bool)) (k0 : Bool → Option R) (x0 : V17) (x1 : Int) : Option R :=
(g12_0 (g12_1 (g12_10 N S42 k0 (g12_12 k0))) x0 x1)
theorem t12_13 (S42) (h42 : (ctr42 S42).holds cl) (x0 x1) : exec cl N c12_13 (e3 x0 x1) K = (g12_13 N S42 (fun y0 => K .ret [(4, .v .bool y0)]) x0 x1) := by
 simp only [c12_13, exec_seq, seqK_normal, seqK_exit, seqK_ret, t12_0, t12_1, c12_11, exec_out, exec_block, t12_10 S42 h42, blockK_normal, blockK_ret, blockK_eq, kp12_8, kp12_9, t12_12, exec_ret]
 rfl
theorem rk12_0 (y0) : retK d12 .ret [(4, .v .bool y0)] = some [.v .bool y0] := by kernel_rfl
def g12 (N : Nat) (S42 : V9 → Int → Option (Bool)) (x0 : V17) (x1 : Int) (k : Bool → Option R) : Option R :=
(g12_13 N S42 k x0 x1)
theorem gen12 (S42) (h42 : (ctr42 S42).holds cl) (x0 x1) (k : List E → Option R) : exec cl N c12 (e3 x0 x1) (fun e env => (retK d12 e env).bind k) = g12 N S42 x0 x1 (fun r0 => k [.v .bool r0]) := by
 simp only [c12, t12_13 S42 h42, rk12_0, Option.bind_some]
 rfl
def ctr12 (S : V17 → Int → Option (Bool)) : Ctr := cv2 12 U11 U1 S fun b => [.v .bool b]
def S12 (N : Nat) (x0 : V17) (x1 : Int) : Option (Bool) := g12 N (S42 N) x0 x1 (fun (r0 : Bool) => some (r0))
def g100_2 (k0 : Bool → Option R) (x0 : Int) : Option R :=
brB (decide (x0 < (0 : Int))) (k0 true) (k0 (decide (x0 ≥ (10000 : Int))))
theorem t100_2 (x0) : exec cl N c100_2 [(0, .v U1 x0)] K = (g100_2 (fun y0 => exec cl N .ret [(2, .v .bool y0)] K) x0) := by
 kernel_rfl
def g100_2b (k0 : Bool → Option R) (x0 : Int) : Option R :=
(g100_2 k0 x0)
theorem t100_2b (x0) : exec cl N c100_2 [(0, .v U1 x0)] K = (g100_2b (fun y0 => K .ret [(2, .v .bool y0)]) x0) := by
 simp only [exec_seq, seqK_normal, seqK_exit, seqK_ret, t100_2, exec_ret]
 rfl
theorem rk100_0 (y0) : retK d100 .ret [(2, .v .bool y0)] = some [.v .bool y0] := by kernel_rfl
def g100 (x0 : Int) (k : Bool → Option R) : Option R :=
(g100_2b k x0)
theorem gen100 (x0) (k : List E → Option R) : exec cl N c100 [(0, .v U1 x0)] (fun e env => (retK d100 e env).bind k) = g100 x0 (fun r0 => k [.v .bool r0]) := by
 simp only [c100, t100_2b, rk100_0, Option.bind_some]
 rfl
def ctr100 (S : Int → Option (Bool)) : Ctr := cv1 100 U1 S fun b => [.v .bool b]
def S100 (N : Nat) (x0 : Int) : Option (Bool) := g100 x0 (fun (r0 : Bool) => some (r0))
def g116_0 (k0 : V0 → V12 → Option R) (x0 : V0) (x1 : V12) : Option R :=
k0 x0 x1
theorem t116_0 (x0 x1) : exec cl N c116_0 (e9 x0 x1) K = (g116_0 (fun y0 y1 => K .normal (e9 y0 y1)) x0 x1) := by
 kernel_rfl
def g116_1 (k0 : V0 → V12 → Int → Int → Option R) (x0 : V0) (x1 : V12) : Option R :=
k0 x0 x1 (x0.length : Int) (0 : Int)
theorem t116_1 (x0 x1) : exec cl N c116_1 (e9 x0 x1) K = (g116_1 (fun y0 y1 y2 y3 => K .normal (e10 y0 y1 y2 y3)) x0 x1) := by
 kernel_rfl
theorem kp116_0 (x0 x1 x2 x3) : keep [0, 1, 7, 8] (e10 x0 x1 x2 x3) = (e10 x0 x1 x2 x3) := by kernel_rfl
def g116_2 (k0 : V0 → V12 → Int → Int → Bool → Option R) (x0 : V0) (x1 : V12) (x2 x3 : Int) : Option R :=
k0 x0 x1 x2 x3 (decide (x3 < x2))
theorem t116_2 (x0 x1 x2 x3) : exec cl N c116_2 (e10 x0 x1 x2 x3) K = (g116_2 (fun y0 y1 y2 y3 y4 => K .normal (e11 y0 y1 y2 y3 y4)) x0 x1 x2 x3) := by
 kernel_rfl
theorem kp116_1 (x0 x1 x2 x3 x4) : keep [0, 1, 7, 8] (e11 x0 x1 x2 x3 x4) = (e10 x0 x1 x2 x3) := by kernel_rfl
theorem hb116_0 (x0 x1 x2 x3 x4) : boolOf? (ent (e11 x0 x1 x2 x3 x4) (.t 9)) = some x4 := by kernel_rfl
def g116_8 (k0 : V0 → V12 → Int → Int → Int → Bool → Option R) (x0 : V0) (x1 : V12) (x2 x3 : Int) : Option R :=
if 0 ≤ x3 ∧ x3 < (x0.length : Int) then
(x1 ((x0.getD x3.toNat (0 : Int)), ())).bind fun r38 =>
k0 x0 x1 x3 x2 x3 r38
else none
theorem t116_8 (x0 x1 x2 x3) : exec cl N c116_8 (e10 x0 x1 x2 x3) K = (g116_8 (fun y0 y1 y2 y3 y4 y5 => exec cl N c116_7 (e12 y0 y1 y2 y3 y4 y5) K) x0 x1 x2 x3) := by
 kernel_rfl
def g116_6 (k0 : Int → Option R) (x0 : V0) (x1 : V12) (x2 x3 x4 : Int) (x5 : Bool) : Option R :=
k0 x2
theorem t116_6 (x0 x1 x2 x3 x4 x5) : exec cl N c116_6 (e12 x0 x1 x2 x3 x4 x5) K = (g116_6 (fun y0 => K .normal [(4, .v U1 y0)]) x0 x1 x2 x3 x4 x5) := by
 kernel_rfl
theorem kp116_2 (x0) : keep [0, 1, 4, 7, 8] [(4, .v U1 x0)] = (e13 x0) := by kernel_rfl
theorem kp116_3 (x0 x1 x2 x3 x4 x5) : keep [0, 1, 4, 7, 8] (e12 x0 x1 x2 x3 x4 x5) = (e14 x0 x1 x3 x4) := by kernel_rfl
theorem hb116_1 (x0 x1 x2 x3 x4 x5) : boolOf? (ent (e12 x0 x1 x2 x3 x4 x5) (.t 16)) = some x5 := by kernel_rfl
theorem kp116_4 (x0) : keep [0, 1, 4, 7, 8] (e13 x0) = (e13 x0) := by kernel_rfl
theorem kp116_5 (x0 x1 x2 x3) : keep [0, 1, 4, 7, 8] (e14 x0 x1 x2 x3) = (e14 x0 x1 x2 x3) := by kernel_rfl
def g116_10 (k0 : V0 → V12 → Int → Int → Option R) (x0 : V0) (x1 : V12) (x2 x3 : Int) : Option R :=
k0 x0 x1 x2 (IntKind.i64.wrap (x3 + (1 : Int)))
theorem t116_10 (x0 x1 x2 x3) : exec cl N c116_10 (e14 x0 x1 x2 x3) K = (g116_10 (fun y0 y1 y2 y3 => K .normal (e10 y0 y1 y2 y3)) x0 x1 x2 x3) := by
 kernel_rfl
def g116_11 (k0 : Int → Option R) (k1 : V0 → V12 → Int → Int → Option R) (k2 : V0 → V12 → Int → Int → Option R) (x0 : V0) (x1 : V12) (x2 x3 : Int) : Option R :=
(g116_2 (fun y0 y1 y2 y3 y4 => brB y4 ((g116_8 (fun y0 y1 y2 y3 y4 y5 => brB y5 (g116_6 k0 y0 y1 y2 y3 y4 y5) (((g116_10 k1)) y0 y1 y3 y4))) y0 y1 y2 y3) (k2 y0 y1 y2 y3)) x0 x1 x2 x3)
theorem t116_11 (x0 x1 x2 x3) : exec cl N c116_11 (e10 x0 x1 x2 x3) K = (g116_11 (fun y0 => K .ret (e13 y0)) (fun y0 y1 y2 y3 => K .normal (e10 y0 y1 y2 y3)) (fun y0 y1 y2 y3 => K (.exit 0) (e10 y0 y1 y2 y3)) x0 x1 x2 x3) := by
 simp only [c116_11, exec_seq, seqK_normal, seqK_exit, seqK_ret, t116_2, c116_3, exec_out, exec_cond', hb116_0, Option.bind_some, brB_true, brB_false, exec_skip, exec_exit, kp116_1, c116_9, exec_block, t116_8, c116_7, hb116_1, t116_6, exec_ret, kp116_2, kp116_3, blockK_normal, blockK_ret, blockK_eq, kp116_4, kp116_5, t116_10]
 rfl
def l116_12 {R : Type} (k0 : Int → Option R) (k1 : V0 → V12 → Int → Int → Option R) : Nat → V0 → V12 → Int → Int → Option R
 | 0, _, _, _, _ => none
 | m + 1, x0, x1, x2, x3 => (g116_11 k0 (l116_12 k0 k1 m) k1 x0 x1 x2 x3)
theorem lt116_12 : ∀ (m) (x0 x1 x2 x3), iter [0, 1, 7, 8] (fun env K => exec cl N c116_11 env K) K m (e10 x0 x1 x2 x3) = l116_12 (fun y0 => K .ret (e13 y0)) (fun y0 y1 y2 y3 => K (.exit 0) (e10 y0 y1 y2 y3)) m x0 x1 x2 x3 := by
 intro m
 induction m with
 | zero => intros; rfl
 | succ m ih =>
   intro x0 x1 x2 x3
   simp only [iter_succ, t116_11, loopK_normal, loopK_exit, loopK_ret, kp116_0, ih]
   rfl
theorem kp116_6 (x0) : keep [4] (e13 x0) = [(4, .v U1 x0)] := by kernel_rfl
theorem kp116_7 (x0 x1 x2 x3) : keep [4] (e10 x0 x1 x2 x3) = [(4, .dead)] := by kernel_rfl
def g116_12 (N : Nat) (k0 : Int → Option R) (k1 : Option R) (x0 : V0) (x1 : V12) (x2 x3 : Int) : Option R :=
l116_12 k0 (fun y0 y1 y2 y3 => k1) N x0 x1 x2 x3
theorem t116_12 (x0 x1 x2 x3) : exec cl N c116_12 (e10 x0 x1 x2 x3) K = (g116_12 N (fun y0 => K .ret [(4, .v U1 y0)]) (K (.exit 0) [(4, .dead)]) x0 x1 x2 x3) := by
 simp only [c116_12, exec_out, exec_loop, kp116_0, lt116_12, kp116_6, kp116_7]
 rfl
theorem kp116_8 (x0) : keep [4] [(4, .v U1 x0)] = [(4, .v U1 x0)] := by kernel_rfl
theorem kp116_9 : keep [4] [(4, .dead)] = [(4, .dead)] := by kernel_rfl
def g116_14 (k0 : Int → Option R) : Option R :=
k0 (-1 : Int)
theorem t116_14 : exec cl N c116_14 [(4, .dead)] K = (g116_14 (fun y0 => K .normal [(4, .v U1 y0)])) := by
 kernel_rfl
def g116_15 (N : Nat) (k0 : Int → Option R) (x0 : V0) (x1 : V12) : Option R :=
(g116_0 (g116_1 (g116_12 N k0 (g116_14 k0))) x0 x1)
theorem t116_15 (x0 x1) : exec cl N c116_15 (e9 x0 x1) K = (g116_15 N (fun y0 => K .ret [(4, .v U1 y0)]) x0 x1) := by
 simp only [c116_15, exec_seq, seqK_normal, seqK_exit, seqK_ret, t116_0, t116_1, c116_13, exec_out, exec_block, t116_12, blockK_normal, blockK_ret, blockK_eq, kp116_8, kp116_9, t116_14, exec_ret]
 rfl
theorem rk116_0 (y0) : retK d116 .ret [(4, .v U1 y0)] = some [.v U1 y0] := by kernel_rfl
def g116 (N : Nat) (x0 : V0) (x1 : V12) (k : Int → Option R) : Option R :=
(g116_15 N k x0 x1)
theorem gen116 (x0 x1) (k : List E → Option R) : exec cl N c116 (e9 x0 x1) (fun e env => (retK d116 e env).bind k) = g116 N x0 x1 (fun r0 => k [.v U1 r0]) := by
 simp only [c116, t116_15, rk116_0, Option.bind_some]
 rfl
def ctr116 (S : V0 → V12 → Option (Int)) : Ctr := cv2 116 U2 U6 S fun b => [.v U1 b]
def S116 (N : Nat) (x0 : V0) (x1 : V12) : Option (Int) := g116 N x0 x1 (fun (r0 : Int) => some (r0))
def g99_2 (S116 : V0 → V12 → Option (Int)) (k0 : Bool → Option R) (x0 : V0) (x1 : V12) : Option R :=
(S116 x0 x1).bind fun r42 =>
k0 (decide (r42 ≥ (0 : Int)))
theorem t99_2 (S116) (h116 : (ctr116 S116).holds cl) (x0 x1) : exec cl N c99_2 (e9 x0 x1) K = (g99_2 S116 (fun y0 => exec cl N .ret [(4, .v .bool y0)] K) x0 x1) := by
 rw [← put_eq h116]
 kernel_rfl
def g99_2b (S116 : V0 → V12 → Option (Int)) (k0 : Bool → Option R) (x0 : V0) (x1 : V12) : Option R :=
(g99_2 S116 k0 x0 x1)
theorem t99_2b (S116) (h116 : (ctr116 S116).holds cl) (x0 x1) : exec cl N c99_2 (e9 x0 x1) K = (g99_2b S116 (fun y0 => K .ret [(4, .v .bool y0)]) x0 x1) := by
 simp only [exec_seq, seqK_normal, seqK_exit, seqK_ret, t99_2 S116 h116, exec_ret]
 rfl
theorem rk99_0 (y0) : retK d99 .ret [(4, .v .bool y0)] = some [.v .bool y0] := by kernel_rfl
def g99 (S116 : V0 → V12 → Option (Int)) (x0 : V0) (x1 : V12) (k : Bool → Option R) : Option R :=
(g99_2b S116 k x0 x1)
theorem gen99 (S116) (h116 : (ctr116 S116).holds cl) (x0 x1) (k : List E → Option R) : exec cl N c99 (e9 x0 x1) (fun e env => (retK d99 e env).bind k) = g99 S116 x0 x1 (fun r0 => k [.v .bool r0]) := by
 simp only [c99, t99_2b S116 h116, rk99_0, Option.bind_some]
 rfl
def ctr99 (S : V0 → V12 → Option (Bool)) : Ctr := cv2 99 U2 U6 S fun b => [.v .bool b]
def S99 (N : Nat) (x0 : V0) (x1 : V12) : Option (Bool) := g99 (S116 N) x0 x1 (fun (r0 : Bool) => some (r0))
def g75_6 (k0 : V0 → Option R) (x0 : V5) : Option R :=
k0 x0.1
theorem t75_6 (x0) : exec cl N c75_6 [(0, .v U4 x0)] K = (g75_6 (fun y0 => exec cl N (.seq (.seq c75_2 c75_4) (.seq c75_5 .ret)) [(3, .v U2 y0)] K) x0) := by
 kernel_rfl
def g75_2 (k0 : V0 → Bool → Option R) (x0 : V0) : Option R :=
brB (decide ((x0.length : Int) > (200 : Int))) (k0 x0 true) (brB (decide ((x0.length : Int) > (0 : Int))) (let v47 : Int := (IntKind.i64.wrap ((x0.length : Int) - (1 : Int)))
if 0 ≤ v47 ∧ v47 < (x0.length : Int) then
k0 x0 ((x0.getD v47.toNat (0 : Int)) == (0 : Int))
else none) (k0 x0 false))
theorem t75_2 (x0) : exec cl N c75_2 [(3, .v U2 x0)] K = (g75_2 (fun y0 y1 => K .normal (e15 y0 y1)) x0) := by
 kernel_rfl
def g75_3 (k0 : Bool → Option R) (x0 : V0) (x1 : Bool) : Option R :=
k0 false
theorem t75_3 (x0 x1) : exec cl N c75_3 (e15 x0 x1) K = (g75_3 (fun y0 => K .normal [(2, .v .bool y0)]) x0 x1) := by
 kernel_rfl
theorem kp75_0 (x0) : keep [2, 3] [(2, .v .bool x0)] = [(2, .v .bool x0), (3, .dead)] := by kernel_rfl
theorem kp75_1 (x0 x1) : keep [2, 3] (e15 x0 x1) = [(2, .dead), (3, .v U2 x0)] := by kernel_rfl
theorem hb75_0 (x0 x1) : boolOf? (ent (e15 x0 x1) (.t 22)) = some x1 := by kernel_rfl
def g75_5 (S99 : V0 → V12 → Option (Bool)) (S100 : Int → Option (Bool)) (k0 : Bool → Option R) (x0 : V0) : Option R :=
(S99 x0 (fun (x49 : V3) => ((S100 x49.1).bind fun b50 => some [.v .bool b50]).bind (unE .bool))).bind fun r51 =>
k0 (!r51)
theorem t75_5 (S99) (S100) (h99 : (ctr99 S99).holds cl) (h100 : (ctr100 S100).holds cl) (x0) : exec cl N c75_5 [(2, .dead), (3, .v U2 x0)] K = (g75_5 S99 S100 (fun y0 => K .normal [(2, .v .bool y0)]) x0) := by
 rw [← put_eq h99]
 rw [← put_eq h100]
 kernel_rfl
def g75_6b (S99 : V0 → V12 → Option (Bool)) (S100 : Int → Option (Bool)) (k0 : Bool → Option R) (k1 : Bool → Option R) (x0 : V5) : Option R :=
(g75_6 (g75_2 (fun y0 y1 => brB y1 (g75_3 k0 y0 y1) ((g75_5 S99 S100 k1) y0))) x0)
theorem t75_6b (S99) (S100) (h99 : (ctr99 S99).holds cl) (h100 : (ctr100 S100).holds cl) (x0) : exec cl N c75_6 [(0, .v U4 x0)] K = (g75_6b S99 S100 (fun y0 => K .ret [(2, .v .bool y0), (3, .dead)]) (fun y0 => K .ret [(2, .v .bool y0)]) x0) := by
 simp only [exec_seq, seqK_normal, seqK_exit, seqK_ret, t75_6, t75_2, c75_4, exec_out, exec_cond', hb75_0, Option.bind_some, brB_true, brB_false, t75_3, exec_ret, exec_skip, kp75_0, kp75_1, t75_5 S99 S100 h99 h100]
 rfl
theorem rk75_0 (y0) : retK d75 .ret [(2, .v .bool y0), (3, .dead)] = some [.v .bool y0] := by kernel_rfl
theorem rk75_1 (y0) : retK d75 .ret [(2, .v .bool y0)] = some [.v .bool y0] := by kernel_rfl
def g75 (S99 : V0 → V12 → Option (Bool)) (S100 : Int → Option (Bool)) (x0 : V5) (k : Bool → Option R) : Option R :=
(g75_6b S99 S100 k k x0)
theorem gen75 (S99) (S100) (h99 : (ctr99 S99).holds cl) (h100 : (ctr100 S100).holds cl) (x0) (k : List E → Option R) : exec cl N c75 [(0, .v U4 x0)] (fun e env => (retK d75 e env).bind k) = g75 S99 S100 x0 (fun r0 => k [.v .bool r0]) := by
 simp only [c75, t75_6b S99 S100 h99 h100, rk75_0, rk75_1, Option.bind_some]
 rfl
def ctr75 (S : V5 → Option (Bool)) : Ctr := cv1 75 U4 S fun b => [.v .bool b]
def S75 (N : Nat) (x0 : V5) : Option (Bool) := g75 (S99 N) (S100 N) x0 (fun (r0 : Bool) => some (r0))
def g76_2 (k0 : Bool → Option R) (x0 : V5) : Option R :=
k0 ((x0.1.length : Int) == (0 : Int))
theorem t76_2 (x0) : exec cl N c76_2 [(0, .v U4 x0)] K = (g76_2 (fun y0 => exec cl N .ret [(2, .v .bool y0)] K) x0) := by
 kernel_rfl
def g76_2b (k0 : Bool → Option R) (x0 : V5) : Option R :=
(g76_2 k0 x0)
theorem t76_2b (x0) : exec cl N c76_2 [(0, .v U4 x0)] K = (g76_2b (fun y0 => K .ret [(2, .v .bool y0)]) x0) := by
 simp only [exec_seq, seqK_normal, seqK_exit, seqK_ret, t76_2, exec_ret]
 rfl
theorem rk76_0 (y0) : retK d76 .ret [(2, .v .bool y0)] = some [.v .bool y0] := by kernel_rfl
def g76 (x0 : V5) (k : Bool → Option R) : Option R :=
(g76_2b k x0)
theorem gen76 (x0) (k : List E → Option R) : exec cl N c76 [(0, .v U4 x0)] (fun e env => (retK d76 e env).bind k) = g76 x0 (fun r0 => k [.v .bool r0]) := by
 simp only [c76, t76_2b, rk76_0, Option.bind_some]
 rfl
def ctr76 (S : V5 → Option (Bool)) : Ctr := cv1 76 U4 S fun b => [.v .bool b]
def S76 (N : Nat) (x0 : V5) : Option (Bool) := g76 x0 (fun (r0 : Bool) => some (r0))
def g118_0 (k0 : V0 → Option R) (x0 : V0) : Option R :=
k0 x0
theorem t118_0 (x0) : exec cl N c118_0 [(0, .v U2 x0)] K = (g118_0 (fun y0 => K .normal [(0, .v U2 y0)]) x0) := by
 kernel_rfl
theorem kp118_0 (x0) : keep [0] [(0, .v U2 x0)] = [(0, .v U2 x0)] := by kernel_rfl
def g118_1 (k0 : V0 → Bool → Option R) (x0 : V0) : Option R :=
brB (decide ((x0.length : Int) > (0 : Int))) (let v71 : Int := (IntKind.i64.wrap ((x0.length : Int) - (1 : Int)))
if 0 ≤ v71 ∧ v71 < (x0.length : Int) then
k0 x0 ((x0.getD v71.toNat (0 : Int)) == (0 : Int))
else none) (k0 x0 false)
theorem t118_1 (x0) : exec cl N c118_1 [(0, .v U2 x0)] K = (g118_1 (fun y0 y1 => K .normal (e16 y0 y1)) x0) := by
 kernel_rfl
theorem kp118_1 (x0 x1) : keep [0] (e16 x0 x1) = [(0, .v U2 x0)] := by kernel_rfl
theorem hb118_0 (x0 x1) : boolOf? (ent (e16 x0 x1) (.t 14)) = some x1 := by kernel_rfl
def g118_3 (k0 : V0 → Option R) (x0 : V0) : Option R :=
let v73 : Int := (IntKind.i64.wrap ((x0.length : Int) - (1 : Int)))
if 0 ≤ (0 : Int) ∧ (0 : Int) ≤ v73 ∧ v73 ≤ (x0.length : Int) ∧ (x0.length : Int) ≤ (x0.length : Int) then
k0 ((x0.drop (0 : Int).toNat).take (v73.toNat - (0 : Int).toNat))
else none
theorem t118_3 (x0) : exec cl N c118_3 [(0, .v U2 x0)] K = (g118_3 (fun y0 => K .normal [(0, .v U2 y0)]) x0) := by
 kernel_rfl
def g118_5 (k0 : V0 → Option R) (k1 : V0 → Option R) (x0 : V0) : Option R :=
(g118_1 (fun y0 y1 => brB y1 ((g118_3 k0) y0) (k1 y0)) x0)
theorem t118_5 (x0) : exec cl N c118_5 [(0, .v U2 x0)] K = (g118_5 (fun y0 => K .normal [(0, .v U2 y0)]) (fun y0 => K (.exit 0) [(0, .v U2 y0)]) x0) := by
 simp only [c118_5, exec_seq, seqK_normal, seqK_exit, seqK_ret, t118_1, c118_2, exec_out, exec_cond', hb118_0, Option.bind_some, brB_true, brB_false, exec_skip, exec_exit, kp118_1, c118_4, exec_block, t118_3, blockK_normal, blockK_ret, blockK_eq, kp118_0]
 rfl
def l118_6 {R : Type} (k0 : V0 → Option R) : Nat → V0 → Option R
 | 0, _ => none
 | m + 1, x0 => (g118_5 (l118_6 k0 m) k0 x0)
theorem lt118_6 : ∀ (m) (x0), iter [0] (fun env K => exec cl N c118_5 env K) K m [(0, .v U2 x0)] = l118_6 (fun y0 => K (.exit 0) [(0, .v U2 y0)]) m x0 := by
 intro m
 induction m with
 | zero => intros; rfl
 | succ m ih =>
   intro x0
   simp only [iter_succ, t118_5, loopK_normal, loopK_exit, loopK_ret, kp118_0, ih]
   rfl
def g118_6 (N : Nat) (k0 : V0 → Option R) (x0 : V0) : Option R :=
l118_6 k0 N x0
theorem t118_6 (x0) : exec cl N c118_6 [(0, .v U2 x0)] K = (g118_6 N (fun y0 => K (.exit 0) [(0, .v U2 y0)]) x0) := by
 simp only [c118_6, exec_out, exec_loop, kp118_0, lt118_6, kp118_0]
 rfl
def g118_8 (k0 : V0 → Option R) (x0 : V0) : Option R :=
k0 x0
theorem t118_8 (x0) : exec cl N c118_8 [(0, .v U2 x0)] K = (g118_8 (fun y0 => K .normal [(2, .v U2 y0)]) x0) := by
 kernel_rfl
def g118_9 (N : Nat) (k0 : V0 → Option R) (x0 : V0) : Option R :=
(g118_0 (g118_6 N ((g118_8 k0))) x0)
theorem t118_9 (x0) : exec cl N c118_9 [(0, .v U2 x0)] K = (g118_9 N (fun y0 => K .ret [(2, .v U2 y0)]) x0) := by
 simp only [c118_9, exec_seq, seqK_normal, seqK_exit, seqK_ret, t118_0, c118_7, exec_out, exec_block, t118_6, blockK_normal, blockK_ret, blockK_eq, kp118_0, t118_8, exec_ret]
 rfl
theorem rk118_0 (y0) : retK d118 .ret [(2, .v U2 y0)] = some [.v U2 y0] := by kernel_rfl
def g118 (N : Nat) (x0 : V0) (k : V0 → Option R) : Option R :=
(g118_9 N k x0)
theorem gen118 (x0) (k : List E → Option R) : exec cl N c118 [(0, .v U2 x0)] (fun e env => (retK d118 e env).bind k) = g118 N x0 (fun r0 => k [.v U2 r0]) := by
 simp only [c118, t118_9, rk118_0, Option.bind_some]
 rfl
def ctr118 (S : V0 → Option V2) : Ctr := cv1 118 U2 S fun b => [.v U2 b]
def S118 (N : Nat) (x0 : V0) : Option V2 := g118 N x0 (fun (r0 : V0) => some (r0))
def g114_28 (k0 : V0 → V0 → V0 → Option R) (x0 x1 : V0) : Option R :=
let v113 : Int := (IntKind.i64.wrap ((x0.length : Int) + (x1.length : Int)))
if 0 ≤ v113 ∧ v113 ≤ v113 ∧ v113 ≤ ((17592186044416 : Nat) : Int) then
k0 x0 x1 (List.replicate v113.toNat (0 : Int))
else none
theorem t114_28 (x0 x1) : exec cl N c114_28 (e17 x0 x1) K = (g114_28 (fun y0 y1 y2 => exec cl N (.seq (.seq c114_2 c114_26) (.seq c114_27 .ret)) (e18 y0 y1 y2) K) x0 x1) := by
 kernel_rfl
def g114_2 (k0 : V0 → V0 → V0 → Int → Int → Option R) (x0 x1 x2 : V0) : Option R :=
k0 x1 x2 x0 (x0.length : Int) (0 : Int)
theorem t114_2 (x0 x1 x2) : exec cl N c114_2 (e18 x0 x1 x2) K = (g114_2 (fun y0 y1 y2 y3 y4 => K .normal (e19 y0 y1 y2 y3 y4)) x0 x1 x2) := by
 kernel_rfl
theorem kp114_0 (x0 x1 x2 x3 x4) : keep [1, 5, 17, 18, 19] (e19 x0 x1 x2 x3 x4) = (e19 x0 x1 x2 x3 x4) := by kernel_rfl
def g114_3 (k0 : V0 → V0 → V0 → Int → Int → Bool → Option R) (x0 x1 x2 : V0) (x3 x4 : Int) : Option R :=
k0 x0 x1 x2 x3 x4 (decide (x4 < x3))
theorem t114_3 (x0 x1 x2 x3 x4) : exec cl N c114_3 (e19 x0 x1 x2 x3 x4) K = (g114_3 (fun y0 y1 y2 y3 y4 y5 => K .normal (e20 y0 y1 y2 y3 y4 y5)) x0 x1 x2 x3 x4) := by
 kernel_rfl
theorem kp114_1 (x0 x1 x2 x3 x4 x5) : keep [1, 5, 17, 18, 19] (e20 x0 x1 x2 x3 x4 x5) = (e19 x0 x1 x2 x3 x4) := by kernel_rfl
theorem hb114_0 (x0 x1 x2 x3 x4 x5) : boolOf? (ent (e20 x0 x1 x2 x3 x4 x5) (.t 20)) = some x5 := by kernel_rfl
def g114_21 (k0 : V0 → V0 → Int → Int → Int → V0 → Int → Int → Option R) (x0 x1 x2 : V0) (x3 x4 : Int) : Option R :=
if 0 ≤ x4 ∧ x4 < (x2.length : Int) then
k0 x0 x1 x4 (x2.getD x4.toNat (0 : Int)) (0 : Int) x2 x3 x4
else none
theorem t114_21 (x0 x1 x2 x3 x4) : exec cl N c114_21 (e19 x0 x1 x2 x3 x4) K = (g114_21 (fun y0 y1 y2 y3 y4 y5 y6 y7 => exec cl N (.seq (.seq c114_7 c114_19) c114_20) (e21 y0 y1 y2 y3 y4 y5 y6 y7) K) x0 x1 x2 x3 x4) := by
 kernel_rfl
def g114_7 (k0 : V0 → V0 → Int → Int → Int → V0 → Int → Int → V0 → Int → Int → Option R) (x0 x1 : V0) (x2 x3 x4 : Int) (x5 : V0) (x6 x7 : Int) : Option R :=
k0 x0 x1 x2 x3 x4 x5 x6 x7 x0 (x0.length : Int) (0 : Int)
theorem t114_7 (x0 x1 x2 x3 x4 x5 x6 x7) : exec cl N c114_7 (e21 x0 x1 x2 x3 x4 x5 x6 x7) K = (g114_7 (fun y0 y1 y2 y3 y4 y5 y6 y7 y8 y9 y10 => K .normal (e22 y0 y1 y2 y3 y4 y5 y6 y7 y8 y9 y10)) x0 x1 x2 x3 x4 x5 x6 x7) := by
 kernel_rfl
theorem kp114_2 (x0 x1 x2 x3 x4 x5 x6 x7 x8 x9 x10) : keep [1, 5, 6, 7, 8, 17, 18, 19, 24, 25, 26] (e22 x0 x1 x2 x3 x4 x5 x6 x7 x8 x9 x10) = (e22 x0 x1 x2 x3 x4 x5 x6 x7 x8 x9 x10) := by kernel_rfl
def g114_8 (k0 : V0 → V0 → Int → Int → Int → V0 → Int → Int → V0 → Int → Int → Bool → Option R) (x0 x1 : V0) (x2 x3 x4 : Int) (x5 : V0) (x6 x7 : Int) (x8 : V0) (x9 x10 : Int) : Option R :=
k0 x0 x1 x2 x3 x4 x5 x6 x7 x8 x9 x10 (decide (x10 < x9))
theorem t114_8 (x0 x1 x2 x3 x4 x5 x6 x7 x8 x9 x10) : exec cl N c114_8 (e22 x0 x1 x2 x3 x4 x5 x6 x7 x8 x9 x10) K = (g114_8 (fun y0 y1 y2 y3 y4 y5 y6 y7 y8 y9 y10 y11 => K .normal (e23 y0 y1 y2 y3 y4 y5 y6 y7 y8 y9 y10 y11)) x0 x1 x2 x3 x4 x5 x6 x7 x8 x9 x10) := by
 kernel_rfl
theorem kp114_3 (x0 x1 x2 x3 x4 x5 x6 x7 x8 x9 x10 x11) : keep [1, 5, 6, 7, 8, 17, 18, 19, 24, 25, 26] (e23 x0 x1 x2 x3 x4 x5 x6 x7 x8 x9 x10 x11) = (e22 x0 x1 x2 x3 x4 x5 x6 x7 x8 x9 x10) := by kernel_rfl
theorem hb114_1 (x0 x1 x2 x3 x4 x5 x6 x7 x8 x9 x10 x11) : boolOf? (ent (e23 x0 x1 x2 x3 x4 x5 x6 x7 x8 x9 x10 x11) (.t 27)) = some x11 := by kernel_rfl
def g114_14 (k0 : V0 → V0 → Int → Int → Int → V0 → Int → Int → V0 → Int → Int → Option R) (x0 x1 : V0) (x2 x3 x4 : Int) (x5 : V0) (x6 x7 : Int) (x8 : V0) (x9 x10 : Int) : Option R :=
if 0 ≤ x10 ∧ x10 < (x8.length : Int) then
let v128 : Int := (IntKind.i64.wrap (x2 + x10))
if 0 ≤ v128 ∧ v128 < (x1.length : Int) then
if v128.toNat < x1.length then
let v132 : Int := (IntKind.i64.wrap (x4 + (IntKind.i64.wrap ((x1.getD v128.toNat (0 : Int)) + (IntKind.i64.wrap (x3 * (x8.getD x10.toNat (0 : Int))))))))
let v133 : Int := (IntKind.i64.wrap (x2 + x10))
if 0 ≤ v133 ∧ v133 < (x1.length : Int) then
if v133.toNat < x1.length then
k0 x0 (x1.set v133.toNat (Int.tmod v132 (10000 : Int))) x2 x3 (IntKind.i64.wrap (Int.tdiv v132 (10000 : Int))) x5 x6 x7 x8 x9 x10
else none
else none
else none
else none
else none
theorem t114_14 (x0 x1 x2 x3 x4 x5 x6 x7 x8 x9 x10) : exec cl N c114_14 (e22 x0 x1 x2 x3 x4 x5 x6 x7 x8 x9 x10) K = (g114_14 (fun y0 y1 y2 y3 y4 y5 y6 y7 y8 y9 y10 => K .normal (e22 y0 y1 y2 y3 y4 y5 y6 y7 y8 y9 y10)) x0 x1 x2 x3 x4 x5 x6 x7 x8 x9 x10) := by
 kernel_rfl
def g114_16 (k0 : V0 → V0 → Int → Int → Int → V0 → Int → Int → V0 → Int → Int → Option R) (x0 x1 : V0) (x2 x3 x4 : Int) (x5 : V0) (x6 x7 : Int) (x8 : V0) (x9 x10 : Int) : Option R :=
k0 x0 x1 x2 x3 x4 x5 x6 x7 x8 x9 (IntKind.i64.wrap (x10 + (1 : Int)))
theorem t114_16 (x0 x1 x2 x3 x4 x5 x6 x7 x8 x9 x10) : exec cl N c114_16 (e22 x0 x1 x2 x3 x4 x5 x6 x7 x8 x9 x10) K = (g114_16 (fun y0 y1 y2 y3 y4 y5 y6 y7 y8 y9 y10 => K .normal (e22 y0 y1 y2 y3 y4 y5 y6 y7 y8 y9 y10)) x0 x1 x2 x3 x4 x5 x6 x7 x8 x9 x10) := by
 kernel_rfl
def g114_17 (k0 : V0 → V0 → Int → Int → Int → V0 → Int → Int → V0 → Int → Int → Option R) (k1 : V0 → V0 → Int → Int → Int → V0 → Int → Int → V0 → Int → Int → Option R) (x0 x1 : V0) (x2 x3 x4 : Int) (x5 : V0) (x6 x7 : Int) (x8 : V0) (x9 x10 : Int) : Option R :=
(g114_8 (fun y0 y1 y2 y3 y4 y5 y6 y7 y8 y9 y10 y11 => brB y11 ((g114_14 ((g114_16 k0))) y0 y1 y2 y3 y4 y5 y6 y7 y8 y9 y10) (k1 y0 y1 y2 y3 y4 y5 y6 y7 y8 y9 y10)) x0 x1 x2 x3 x4 x5 x6 x7 x8 x9 x10)
theorem t114_17 (x0 x1 x2 x3 x4 x5 x6 x7 x8 x9 x10) : exec cl N c114_17 (e22 x0 x1 x2 x3 x4 x5 x6 x7 x8 x9 x10) K = (g114_17 (fun y0 y1 y2 y3 y4 y5 y6 y7 y8 y9 y10 => K .normal (e22 y0 y1 y2 y3 y4 y5 y6 y7 y8 y9 y10)) (fun y0 y1 y2 y3 y4 y5 y6 y7 y8 y9 y10 => K (.exit 2) (e22 y0 y1 y2 y3 y4 y5 y6 y7 y8 y9 y10)) x0 x1 x2 x3 x4 x5 x6 x7 x8 x9 x10) := by
 simp only [c114_17, exec_seq, seqK_normal, seqK_exit, seqK_ret, t114_8, c114_9, exec_out, exec_cond', hb114_1, Option.bind_some, brB_true, brB_false, exec_skip, exec_exit, kp114_3, c114_15, exec_block, t114_14, blockK_normal, blockK_ret, blockK_eq, kp114_2, t114_16]
 rfl
def l114_18 {R : Type} (k0 : V0 → V0 → Int → Int → Int → V0 → Int → Int → V0 → Int → Int → Option R) : Nat → V0 → V0 → Int → Int → Int → V0 → Int → Int → V0 → Int → Int → Option R
 | 0, _, _, _, _, _, _, _, _, _, _, _ => none
 | m + 1, x0, x1, x2, x3, x4, x5, x6, x7, x8, x9, x10 => (g114_17 (l114_18 k0 m) k0 x0 x1 x2 x3 x4 x5 x6 x7 x8 x9 x10)
theorem lt114_18 : ∀ (m) (x0 x1 x2 x3 x4 x5 x6 x7 x8 x9 x10), iter [1, 5, 6, 7, 8, 17, 18, 19, 24, 25, 26] (fun env K => exec cl N c114_17 env K) K m (e22 x0 x1 x2 x3 x4 x5 x6 x7 x8 x9 x10) = l114_18 (fun y0 y1 y2 y3 y4 y5 y6 y7 y8 y9 y10 => K (.exit 2) (e22 y0 y1 y2 y3 y4 y5 y6 y7 y8 y9 y10)) m x0 x1 x2 x3 x4 x5 x6 x7 x8 x9 x10 := by
 intro m
 induction m with
 | zero => intros; rfl
 | succ m ih =>
   intro x0 x1 x2 x3 x4 x5 x6 x7 x8 x9 x10
   simp only [iter_succ, t114_17, loopK_normal, loopK_exit, loopK_ret, kp114_2, ih]
   rfl
theorem kp114_4 (x0 x1 x2 x3 x4 x5 x6 x7 x8 x9 x10) : keep [1, 5, 6, 8, 17, 18, 19] (e22 x0 x1 x2 x3 x4 x5 x6 x7 x8 x9 x10) = (e24 x0 x1 x2 x4 x5 x6 x7) := by kernel_rfl
def g114_18 (N : Nat) (k0 : V0 → V0 → Int → Int → V0 → Int → Int → Option R) (x0 x1 : V0) (x2 x3 x4 : Int) (x5 : V0) (x6 x7 : Int) (x8 : V0) (x9 x10 : Int) : Option R :=
l114_18 (fun y0 y1 y2 y3 y4 y5 y6 y7 y8 y9 y10 => k0 y0 y1 y2 y4 y5 y6 y7) N x0 x1 x2 x3 x4 x5 x6 x7 x8 x9 x10
theorem t114_18 (x0 x1 x2 x3 x4 x5 x6 x7 x8 x9 x10) : exec cl N c114_18 (e22 x0 x1 x2 x3 x4 x5 x6 x7 x8 x9 x10) K = (g114_18 N (fun y0 y1 y2 y3 y4 y5 y6 => K (.exit 2) (e24 y0 y1 y2 y3 y4 y5 y6)) x0 x1 x2 x3 x4 x5 x6 x7 x8 x9 x10) := by
 simp only [c114_18, exec_out, exec_loop, kp114_2, lt114_18, kp114_4]
 rfl
theorem kp114_5 (x0 x1 x2 x3 x4 x5 x6) : keep [1, 5, 6, 8, 17, 18, 19] (e24 x0 x1 x2 x3 x4 x5 x6) = (e24 x0 x1 x2 x3 x4 x5 x6) := by kernel_rfl
def g114_20 (k0 : V0 → V0 → V0 → Int → Int → Option R) (x0 x1 : V0) (x2 x3 : Int) (x4 : V0) (x5 x6 : Int) : Option R :=
let v137 : Int := (IntKind.i64.wrap (x2 + (x0.length : Int)))
if 0 ≤ v137 ∧ v137 < (x1.length : Int) then
if v137.toNat < x1.length then
if 0 ≤ v137 ∧ v137 < (x1.length : Int) then
if v137.toNat < x1.length then
k0 x0 (x1.set v137.toNat (IntKind.i64.wrap ((x1.getD v137.toNat (0 : Int)) + x3))) x4 x5 x6
else none
else none
else none
else none
theorem t114_20 (x0 x1 x2 x3 x4 x5 x6) : exec cl N c114_20 (e24 x0 x1 x2 x3 x4 x5 x6) K = (g114_20 (fun y0 y1 y2 y3 y4 => K .normal (e19 y0 y1 y2 y3 y4)) x0 x1 x2 x3 x4 x5 x6) := by
 kernel_rfl
def g114_23 (k0 : V0 → V0 → V0 → Int → Int → Option R) (x0 x1 x2 : V0) (x3 x4 : Int) : Option R :=
k0 x0 x1 x2 x3 (IntKind.i64.wrap (x4 + (1 : Int)))
theorem t114_23 (x0 x1 x2 x3 x4) : exec cl N c114_23 (e19 x0 x1 x2 x3 x4) K = (g114_23 (fun y0 y1 y2 y3 y4 => K .normal (e19 y0 y1 y2 y3 y4)) x0 x1 x2 x3 x4) := by
 kernel_rfl
def g114_24 (N : Nat) (k0 : V0 → V0 → V0 → Int → Int → Option R) (k1 : V0 → V0 → V0 → Int → Int → Option R) (x0 x1 x2 : V0) (x3 x4 : Int) : Option R :=
(g114_3 (fun y0 y1 y2 y3 y4 y5 => brB y5 ((g114_21 (g114_7 (g114_18 N ((g114_20 ((g114_23 k0))))))) y0 y1 y2 y3 y4) (k1 y0 y1 y2 y3 y4)) x0 x1 x2 x3 x4)
theorem t114_24 (x0 x1 x2 x3 x4) : exec cl N c114_24 (e19 x0 x1 x2 x3 x4) K = (g114_24 N (fun y0 y1 y2 y3 y4 => K .normal (e19 y0 y1 y2 y3 y4)) (fun y0 y1 y2 y3 y4 => K (.exit 0) (e19 y0 y1 y2 y3 y4)) x0 x1 x2 x3 x4) := by
 simp only [c114_24, exec_seq, seqK_normal, seqK_exit, seqK_ret, t114_3, c114_4, exec_out, exec_cond', hb114_0, Option.bind_some, brB_true, brB_false, exec_skip, exec_exit, kp114_1, c114_22, exec_block, t114_21, t114_7, c114_19, t114_18, blockK_normal, blockK_ret, blockK_eq, kp114_5, t114_20, kp114_0, t114_23]
 rfl
def l114_25 {R : Type} (N : Nat) (k0 : V0 → V0 → V0 → Int → Int → Option R) : Nat → V0 → V0 → V0 → Int → Int → Option R
 | 0, _, _, _, _, _ => none
 | m + 1, x0, x1, x2, x3, x4 => (g114_24 N (l114_25 N k0 m) k0 x0 x1 x2 x3 x4)
theorem lt114_25 : ∀ (m) (x0 x1 x2 x3 x4), iter [1, 5, 17, 18, 19] (fun env K => exec cl N c114_24 env K) K m (e19 x0 x1 x2 x3 x4) = l114_25 N (fun y0 y1 y2 y3 y4 => K (.exit 0) (e19 y0 y1 y2 y3 y4)) m x0 x1 x2 x3 x4 := by
 intro m
 induction m with
 | zero => intros; rfl
 | succ m ih =>
   intro x0 x1 x2 x3 x4
   simp only [iter_succ, t114_24, loopK_normal, loopK_exit, loopK_ret, kp114_0, ih]
   rfl
theorem kp114_6 (x0 x1 x2 x3 x4) : keep [5] (e19 x0 x1 x2 x3 x4) = (e25 x1) := by kernel_rfl
def g114_25 (N : Nat) (k0 : V0 → Option R) (x0 x1 x2 : V0) (x3 x4 : Int) : Option R :=
l114_25 N (fun y0 y1 y2 y3 y4 => k0 y1) N x0 x1 x2 x3 x4
theorem t114_25 (x0 x1 x2 x3 x4) : exec cl N c114_25 (e19 x0 x1 x2 x3 x4) K = (g114_25 N (fun y0 => K (.exit 0) (e25 y0)) x0 x1 x2 x3 x4) := by
 simp only [c114_25, exec_out, exec_loop, kp114_0, lt114_25, kp114_6]
 rfl
theorem kp114_7 (x0) : keep [5] (e25 x0) = (e25 x0) := by kernel_rfl
def g114_27 (S118 : V0 → Option V2) (k0 : V0 → Option R) (x0 : V0) : Option R :=
(S118 x0).bind fun r141 =>
k0 r141
theorem t114_27 (S118) (h118 : (ctr118 S118).holds cl) (x0) : exec cl N c114_27 (e25 x0) K = (g114_27 S118 (fun y0 => K .normal [(4, .v U2 y0)]) x0) := by
 rw [← put_eq h118]
 kernel_rfl
def g114_28b (N : Nat) (S118 : V0 → Option V2) (k0 : V0 → Option R) (x0 x1 : V0) : Option R :=
(g114_28 (g114_2 (g114_25 N ((g114_27 S118 k0)))) x0 x1)
theorem t114_28b (S118) (h118 : (ctr118 S118).holds cl) (x0 x1) : exec cl N c114_28 (e17 x0 x1) K = (g114_28b N S118 (fun y0 => K .ret [(4, .v U2 y0)]) x0 x1) := by
 simp only [exec_seq, seqK_normal, seqK_exit, seqK_ret, t114_28, t114_2, c114_26, exec_out, exec_block, t114_25, blockK_normal, blockK_ret, blockK_eq, kp114_7, t114_27 S118 h118, exec_ret]
 rfl
theorem rk114_0 (y0) : retK d114 .ret [(4, .v U2 y0)] = some [.v U2 y0] := by kernel_rfl
def g114 (N : Nat) (S118 : V0 → Option V2) (x0 x1 : V0) (k : V0 → Option R) : Option R :=
(g114_28b N S118 k x0 x1)
theorem gen114 (S118) (h118 : (ctr118 S118).holds cl) (x0 x1) (k : List E → Option R) : exec cl N c114 (e17 x0 x1) (fun e env => (retK d114 e env).bind k) = g114 N S118 x0 x1 (fun r0 => k [.v U2 r0]) := by
 simp only [c114, t114_28b S118 h118, rk114_0, Option.bind_some]
 rfl
def ctr114 (S : V0 → V0 → Option V2) : Ctr := cv2 114 U2 U2 S fun b => [.v U2 b]
def S114 (N : Nat) (x0 : V0) (x1 : V0) : Option V2 := g114 N (S118 N) x0 x1 (fun (r0 : V0) => some (r0))
def g96_0 (k0 : V0 → V0 → Option R) (x0 x1 : V0) : Option R :=
k0 x0 x1
theorem t96_0 (x0 x1) : exec cl N c96_0 (e17 x0 x1) K = (g96_0 (fun y0 y1 => K .normal (e17 y0 y1)) x0 x1) := by
 kernel_rfl
def g96_1 (k0 : V0 → V0 → Bool → Option R) (x0 x1 : V0) : Option R :=
k0 x0 x1 ((x0.length : Int) != (x1.length : Int))
theorem t96_1 (x0 x1) : exec cl N c96_1 (e17 x0 x1) K = (g96_1 (fun y0 y1 y2 => K .normal (e26 y0 y1 y2)) x0 x1) := by
 kernel_rfl
def g96_2 (k0 : Bool → Option R) (x0 x1 : V0) (x2 : Bool) : Option R :=
k0 (decide ((x0.length : Int) < (x1.length : Int)))
theorem t96_2 (x0 x1 x2) : exec cl N c96_2 (e26 x0 x1 x2) K = (g96_2 (fun y0 => K .normal [(15, .v .bool y0)]) x0 x1 x2) := by
 kernel_rfl
def g96_3 (k0 : Int → Option R) (x0 : Bool) : Option R :=
k0 (-1 : Int)
theorem t96_3 (x0) : exec cl N c96_3 [(15, .v .bool x0)] K = (g96_3 (fun y0 => K .normal [(4, .v U1 y0)]) x0) := by
 kernel_rfl
theorem kp96_0 (x0) : keep [4] [(4, .v U1 x0)] = [(4, .v U1 x0)] := by kernel_rfl
theorem kp96_1 (x0) : keep [4] [(15, .v .bool x0)] = [(4, .dead)] := by kernel_rfl
theorem hb96_0 (x0) : boolOf? (ent [(15, .v .bool x0)] (.t 15)) = some x0 := by kernel_rfl
def g96_5 (k0 : Int → Option R) : Option R :=
k0 (1 : Int)
theorem t96_5 : exec cl N c96_5 [(4, .dead)] K = (g96_5 (fun y0 => K .normal [(4, .v U1 y0)])) := by
 kernel_rfl
theorem kp96_2 (x0) : keep [0, 1, 4] [(4, .v U1 x0)] = (e27 x0) := by kernel_rfl
theorem kp96_3 (x0 x1 x2) : keep [0, 1, 4] (e26 x0 x1 x2) = (e28 x0 x1) := by kernel_rfl
theorem hb96_1 (x0 x1 x2) : boolOf? (ent (e26 x0 x1 x2) (.t 10)) = some x2 := by kernel_rfl
def g96_7 (k0 : V0 → V0 → Int → Option R) (x0 x1 : V0) : Option R :=
k0 x0 x1 (IntKind.i64.wrap ((x0.length : Int) - (1 : Int)))
theorem t96_7 (x0 x1) : exec cl N c96_7 (e28 x0 x1) K = (g96_7 (fun y0 y1 y2 => K .normal (e29 y0 y1 y2)) x0 x1) := by
 kernel_rfl
theorem kp96_4 (x0 x1 x2) : keep [0, 1, 5] (e29 x0 x1 x2) = (e29 x0 x1 x2) := by kernel_rfl
def g96_8 (k0 : V0 → V0 → Int → Bool → Option R) (x0 x1 : V0) (x2 : Int) : Option R :=
k0 x0 x1 x2 (decide (x2 ≥ (0 : Int)))
theorem t96_8 (x0 x1 x2) : exec cl N c96_8 (e29 x0 x1 x2) K = (g96_8 (fun y0 y1 y2 y3 => K .normal (e30 y0 y1 y2 y3)) x0 x1 x2) := by
 kernel_rfl
theorem kp96_5 (x0 x1 x2 x3) : keep [0, 1, 5] (e30 x0 x1 x2 x3) = (e29 x0 x1 x2) := by kernel_rfl
theorem hb96_2 (x0 x1 x2 x3) : boolOf? (ent (e30 x0 x1 x2 x3) (.t 20)) = some x3 := by kernel_rfl
def g96_10 (k0 : V0 → V0 → Int → Bool → Option R) (x0 x1 : V0) (x2 : Int) : Option R :=
if 0 ≤ x2 ∧ x2 < (x0.length : Int) then
if 0 ≤ x2 ∧ x2 < (x1.length : Int) then
k0 x0 x1 x2 ((x0.getD x2.toNat (0 : Int)) != (x1.getD x2.toNat (0 : Int)))
else none
else none
theorem t96_10 (x0 x1 x2) : exec cl N c96_10 (e29 x0 x1 x2) K = (g96_10 (fun y0 y1 y2 y3 => K .normal (e31 y0 y1 y2 y3)) x0 x1 x2) := by
 kernel_rfl
def g96_11 (k0 : Bool → Option R) (x0 x1 : V0) (x2 : Int) (x3 : Bool) : Option R :=
if 0 ≤ x2 ∧ x2 < (x0.length : Int) then
if 0 ≤ x2 ∧ x2 < (x1.length : Int) then
k0 (decide ((x0.getD x2.toNat (0 : Int)) < (x1.getD x2.toNat (0 : Int))))
else none
else none
theorem t96_11 (x0 x1 x2 x3) : exec cl N c96_11 (e31 x0 x1 x2 x3) K = (g96_11 (fun y0 => K .normal [(40, .v .bool y0)]) x0 x1 x2 x3) := by
 kernel_rfl
def g96_12 (k0 : Int → Option R) (x0 : Bool) : Option R :=
k0 (-1 : Int)
theorem t96_12 (x0) : exec cl N c96_12 [(40, .v .bool x0)] K = (g96_12 (fun y0 => K .normal [(4, .v U1 y0)]) x0) := by
 kernel_rfl
theorem kp96_6 (x0) : keep [4] [(40, .v .bool x0)] = [(4, .dead)] := by kernel_rfl
theorem hb96_3 (x0) : boolOf? (ent [(40, .v .bool x0)] (.t 40)) = some x0 := by kernel_rfl
def g96_14 (k0 : Int → Option R) : Option R :=
k0 (1 : Int)
theorem t96_14 : exec cl N c96_14 [(4, .dead)] K = (g96_14 (fun y0 => K .normal [(4, .v U1 y0)])) := by
 kernel_rfl
theorem kp96_7 (x0) : keep [0, 1, 4, 5] [(4, .v U1 x0)] = (e32 x0) := by kernel_rfl
theorem kp96_8 (x0 x1 x2 x3) : keep [0, 1, 4, 5] (e31 x0 x1 x2 x3) = (e33 x0 x1 x2) := by kernel_rfl
theorem hb96_4 (x0 x1 x2 x3) : boolOf? (ent (e31 x0 x1 x2 x3) (.t 31)) = some x3 := by kernel_rfl
theorem kp96_9 (x0) : keep [0, 1, 4, 5] (e32 x0) = (e32 x0) := by kernel_rfl
theorem kp96_10 (x0 x1 x2) : keep [0, 1, 4, 5] (e33 x0 x1 x2) = (e33 x0 x1 x2) := by kernel_rfl
def g96_17 (k0 : V0 → V0 → Int → Option R) (x0 x1 : V0) (x2 : Int) : Option R :=
k0 x0 x1 (IntKind.i64.wrap (x2 - (1 : Int)))
theorem t96_17 (x0 x1 x2) : exec cl N c96_17 (e33 x0 x1 x2) K = (g96_17 (fun y0 y1 y2 => K .normal (e29 y0 y1 y2)) x0 x1 x2) := by
 kernel_rfl
def g96_18 (k0 : Int → Option R) (k1 : V0 → V0 → Int → Option R) (k2 : V0 → V0 → Int → Option R) (x0 x1 : V0) (x2 : Int) : Option R :=
(g96_8 (fun y0 y1 y2 y3 => brB y3 ((g96_10 (fun y0 y1 y2 y3 => brB y3 (g96_11 (fun y0 => brB y0 (g96_12 k0 y0) (g96_14 k0)) y0 y1 y2 y3) (((g96_17 k1)) y0 y1 y2))) y0 y1 y2) (k2 y0 y1 y2)) x0 x1 x2)
theorem t96_18 (x0 x1 x2) : exec cl N c96_18 (e29 x0 x1 x2) K = (g96_18 (fun y0 => K .ret (e32 y0)) (fun y0 y1 y2 => K .normal (e29 y0 y1 y2)) (fun y0 y1 y2 => K (.exit 0) (e29 y0 y1 y2)) x0 x1 x2) := by
 simp only [c96_18, exec_seq, seqK_normal, seqK_exit, seqK_ret, t96_8, c96_9, exec_out, exec_cond', hb96_2, Option.bind_some, brB_true, brB_false, exec_skip, exec_exit, kp96_5, c96_16, exec_block, t96_10, c96_15, hb96_4, t96_11, c96_13, hb96_3, t96_12, exec_ret, kp96_0, kp96_6, t96_14, kp96_7, kp96_8, blockK_normal, blockK_ret, blockK_eq, kp96_10, kp96_9, t96_17]
 rfl
def l96_19 {R : Type} (k0 : Int → Option R) (k1 : V0 → V0 → Int → Option R) : Nat → V0 → V0 → Int → Option R
 | 0, _, _, _ => none
 | m + 1, x0, x1, x2 => (g96_18 k0 (l96_19 k0 k1 m) k1 x0 x1 x2)
theorem lt96_19 : ∀ (m) (x0 x1 x2), iter [0, 1, 5] (fun env K => exec cl N c96_18 env K) K m (e29 x0 x1 x2) = l96_19 (fun y0 => K .ret (e32 y0)) (fun y0 y1 y2 => K (.exit 0) (e29 y0 y1 y2)) m x0 x1 x2 := by
 intro m
 induction m with
 | zero => intros; rfl
 | succ m ih =>
   intro x0 x1 x2
   simp only [iter_succ, t96_18, loopK_normal, loopK_exit, loopK_ret, kp96_4, ih]
   rfl
theorem kp96_11 (x0) : keep [4] (e32 x0) = [(4, .v U1 x0)] := by kernel_rfl
theorem kp96_12 (x0 x1 x2) : keep [4] (e29 x0 x1 x2) = [(4, .dead)] := by kernel_rfl
def g96_19 (N : Nat) (k0 : Int → Option R) (k1 : Option R) (x0 x1 : V0) (x2 : Int) : Option R :=
l96_19 k0 (fun y0 y1 y2 => k1) N x0 x1 x2
theorem t96_19 (x0 x1 x2) : exec cl N c96_19 (e29 x0 x1 x2) K = (g96_19 N (fun y0 => K .ret [(4, .v U1 y0)]) (K (.exit 0) [(4, .dead)]) x0 x1 x2) := by
 simp only [c96_19, exec_out, exec_loop, kp96_4, lt96_19, kp96_11, kp96_12]
 rfl
theorem kp96_13 : keep [4] [(4, .dead)] = [(4, .dead)] := by kernel_rfl
def g96_21 (k0 : Int → Option R) : Option R :=
k0 (0 : Int)
theorem t96_21 : exec cl N c96_21 [(4, .dead)] K = (g96_21 (fun y0 => K .normal [(4, .v U1 y0)])) := by
 kernel_rfl
def g96_22 (N : Nat) (k0 : Int → Option R) (k1 : Int → Option R) (x0 x1 : V0) : Option R :=
(g96_0 (g96_1 (fun y0 y1 y2 => brB y2 (g96_2 (fun y0 => brB y0 (g96_3 k0 y0) (g96_5 k0)) y0 y1 y2) ((g96_7 (g96_19 N k1 (g96_21 k1))) y0 y1))) x0 x1)
theorem t96_22 (x0 x1) : exec cl N c96_22 (e17 x0 x1) K = (g96_22 N (fun y0 => K .ret (e27 y0)) (fun y0 => K .ret [(4, .v U1 y0)]) x0 x1) := by
 simp only [c96_22, exec_seq, seqK_normal, seqK_exit, seqK_ret, t96_0, t96_1, c96_6, exec_out, exec_cond', hb96_1, Option.bind_some, brB_true, brB_false, t96_2, c96_4, hb96_0, t96_3, exec_ret, exec_skip, kp96_0, kp96_1, t96_5, kp96_2, kp96_3, t96_7, c96_20, exec_block, t96_19, blockK_normal, blockK_ret, blockK_eq, kp96_13, t96_21]
 rfl
theorem rk96_0 (y0) : retK d96 .ret (e27 y0) = some [.v U1 y0] := by kernel_rfl
theorem rk96_1 (y0) : retK d96 .ret [(4, .v U1 y0)] = some [.v U1 y0] := by kernel_rfl
def g96 (N : Nat) (x0 x1 : V0) (k : Int → Option R) : Option R :=
(g96_22 N k k x0 x1)
theorem gen96 (x0 x1) (k : List E → Option R) : exec cl N c96 (e17 x0 x1) (fun e env => (retK d96 e env).bind k) = g96 N x0 x1 (fun r0 => k [.v U1 r0]) := by
 simp only [c96, t96_22, rk96_0, rk96_1, Option.bind_some]
 rfl
def ctr96 (S : V0 → V0 → Option (Int)) : Ctr := cv2 96 U2 U2 S fun b => [.v U1 b]
def S96 (N : Nat) (x0 : V0) (x1 : V0) : Option (Int) := g96 N x0 x1 (fun (r0 : Int) => some (r0))
def g119_26 (S117 : V0 → Option V2) (k0 : V0 → V0 → Int → Option R) (x0 x1 : V0) : Option R :=
(S117 x0).bind fun r179 =>
k0 x1 r179 (0 : Int)
theorem t119_26 (S117) (h117 : (ctr117 S117).holds cl) (x0 x1) : exec cl N c119_26 (e17 x0 x1) K = (g119_26 S117 (fun y0 y1 y2 => exec cl N (.seq (.seq c119_3 c119_24) (.seq c119_25 .ret)) [(1, .v U2 y0), (5, .own true 3 U1 .no y1), (6, .v U1 y2)] K) x0 x1) := by
 rw [← put_eq h117]
 kernel_rfl
def g119_3 (k0 : V0 → V0 → Int → Int → Int → Option R) (x0 x1 : V0) (x2 : Int) : Option R :=
k0 x0 x1 x2 (x1.length : Int) (0 : Int)
theorem t119_3 (x0 x1 x2) : exec cl N c119_3 [(1, .v U2 x0), (5, .own true 3 U1 .no x1), (6, .v U1 x2)] K = (g119_3 (fun y0 y1 y2 y3 y4 => K .normal (e34 y0 y1 y2 y3 y4)) x0 x1 x2) := by
 kernel_rfl
theorem kp119_0 (x0 x1 x2 x3 x4) : keep [1, 5, 6, 11, 12] (e34 x0 x1 x2 x3 x4) = (e34 x0 x1 x2 x3 x4) := by kernel_rfl
def g119_4 (k0 : V0 → V0 → Int → Int → Int → Bool → Option R) (x0 x1 : V0) (x2 x3 x4 : Int) : Option R :=
k0 x0 x1 x2 x3 x4 (decide (x4 < x3))
theorem t119_4 (x0 x1 x2 x3 x4) : exec cl N c119_4 (e34 x0 x1 x2 x3 x4) K = (g119_4 (fun y0 y1 y2 y3 y4 y5 => K .normal (e35 y0 y1 y2 y3 y4 y5)) x0 x1 x2 x3 x4) := by
 kernel_rfl
theorem kp119_1 (x0 x1 x2 x3 x4 x5) : keep [1, 5, 6, 11, 12] (e35 x0 x1 x2 x3 x4 x5) = (e34 x0 x1 x2 x3 x4) := by kernel_rfl
theorem hb119_0 (x0 x1 x2 x3 x4 x5) : boolOf? (ent (e35 x0 x1 x2 x3 x4 x5) (.t 13)) = some x5 := by kernel_rfl
def g119_19 (k0 : V0 → V0 → Int → Int → Int → Option R) (x0 x1 : V0) (x2 x3 x4 : Int) : Option R :=
if 0 ≤ x4 ∧ x4 < (x1.length : Int) then
if x4.toNat < x1.length then
if 0 ≤ x4 ∧ x4 < (x1.length : Int) then
if x4.toNat < x1.length then
k0 x0 (x1.set x4.toNat (IntKind.i64.wrap ((x1.getD x4.toNat (0 : Int)) - x2))) x4 x3 x4
else none
else none
else none
else none
theorem t119_19 (x0 x1 x2 x3 x4) : exec cl N c119_19 (e34 x0 x1 x2 x3 x4) K = (g119_19 (fun y0 y1 y2 y3 y4 => exec cl N (.seq c119_11 c119_18) (e36 y0 y1 y2 y3 y4) K) x0 x1 x2 x3 x4) := by
 kernel_rfl
def g119_8 (k0 : V0 → V0 → Int → Int → Int → Bool → Option R) (x0 x1 : V0) (x2 x3 x4 : Int) : Option R :=
k0 x0 x1 x2 x3 x4 (decide (x2 < (x0.length : Int)))
theorem t119_8 (x0 x1 x2 x3 x4) : exec cl N c119_8 (e36 x0 x1 x2 x3 x4) K = (g119_8 (fun y0 y1 y2 y3 y4 y5 => K .normal (e37 y0 y1 y2 y3 y4 y5)) x0 x1 x2 x3 x4) := by
 kernel_rfl
def g119_9 (k0 : V0 → V0 → Int → Int → Int → Option R) (x0 x1 : V0) (x2 x3 x4 : Int) (x5 : Bool) : Option R :=
if 0 ≤ x2 ∧ x2 < (x1.length : Int) then
if x2.toNat < x1.length then
if 0 ≤ x2 ∧ x2 < (x0.length : Int) then
if 0 ≤ x2 ∧ x2 < (x1.length : Int) then
if x2.toNat < x1.length then
k0 x0 (x1.set x2.toNat (IntKind.i64.wrap ((x1.getD x2.toNat (0 : Int)) - (x0.getD x2.toNat (0 : Int))))) x2 x3 x4
else none
else none
else none
else none
else none
theorem t119_9 (x0 x1 x2 x3 x4 x5) : exec cl N c119_9 (e37 x0 x1 x2 x3 x4 x5) K = (g119_9 (fun y0 y1 y2 y3 y4 => K .normal (e36 y0 y1 y2 y3 y4)) x0 x1 x2 x3 x4 x5) := by
 kernel_rfl
theorem kp119_2 (x0 x1 x2 x3 x4) : keep [1, 5, 7, 11, 12] (e36 x0 x1 x2 x3 x4) = (e36 x0 x1 x2 x3 x4) := by kernel_rfl
theorem kp119_3 (x0 x1 x2 x3 x4 x5) : keep [1, 5, 7, 11, 12] (e37 x0 x1 x2 x3 x4 x5) = (e36 x0 x1 x2 x3 x4) := by kernel_rfl
theorem hb119_1 (x0 x1 x2 x3 x4 x5) : boolOf? (ent (e37 x0 x1 x2 x3 x4 x5) (.t 25)) = some x5 := by kernel_rfl
def g119_11 (k0 : V0 → V0 → Int → Int → Int → Option R) (x0 x1 : V0) (x2 x3 x4 : Int) : Option R :=
(g119_8 (fun y0 y1 y2 y3 y4 y5 => brB y5 (g119_9 k0 y0 y1 y2 y3 y4 y5) (k0 y0 y1 y2 y3 y4)) x0 x1 x2 x3 x4)
theorem t119_11 (x0 x1 x2 x3 x4) : exec cl N c119_11 (e36 x0 x1 x2 x3 x4) K = (g119_11 (fun y0 y1 y2 y3 y4 => K .normal (e36 y0 y1 y2 y3 y4)) x0 x1 x2 x3 x4) := by
 simp only [c119_11, exec_seq, seqK_normal, seqK_exit, seqK_ret, t119_8, c119_10, exec_out, exec_cond', hb119_1, Option.bind_some, brB_true, brB_false, t119_9, exec_skip, kp119_2, kp119_3]
 rfl
def g119_18 (k0 : V0 → V0 → Int → Int → Int → Int → Bool → Option R) (x0 x1 : V0) (x2 x3 x4 : Int) : Option R :=
if 0 ≤ x2 ∧ x2 < (x1.length : Int) then
if x2.toNat < x1.length then
k0 x0 x1 (0 : Int) x2 x3 x4 (decide ((x1.getD x2.toNat (0 : Int)) < (0 : Int)))
else none
else none
theorem t119_18 (x0 x1 x2 x3 x4) : exec cl N c119_18 (e36 x0 x1 x2 x3 x4) K = (g119_18 (fun y0 y1 y2 y3 y4 y5 y6 => exec cl N c119_17 (e38 y0 y1 y2 y3 y4 y5 y6) K) x0 x1 x2 x3 x4) := by
 kernel_rfl
def g119_16 (k0 : V0 → V0 → Int → Int → Int → Option R) (x0 x1 : V0) (x2 x3 x4 x5 : Int) (x6 : Bool) : Option R :=
if 0 ≤ x3 ∧ x3 < (x1.length : Int) then
if x3.toNat < x1.length then
if 0 ≤ x3 ∧ x3 < (x1.length : Int) then
if x3.toNat < x1.length then
k0 x0 (x1.set x3.toNat (IntKind.i64.wrap ((x1.getD x3.toNat (0 : Int)) + (10000 : Int)))) (1 : Int) x4 x5
else none
else none
else none
else none
theorem t119_16 (x0 x1 x2 x3 x4 x5 x6) : exec cl N c119_16 (e38 x0 x1 x2 x3 x4 x5 x6) K = (g119_16 (fun y0 y1 y2 y3 y4 => K .normal (e34 y0 y1 y2 y3 y4)) x0 x1 x2 x3 x4 x5 x6) := by
 kernel_rfl
theorem kp119_4 (x0 x1 x2 x3 x4 x5 x6) : keep [1, 5, 6, 11, 12] (e38 x0 x1 x2 x3 x4 x5 x6) = (e34 x0 x1 x2 x4 x5) := by kernel_rfl
theorem hb119_2 (x0 x1 x2 x3 x4 x5 x6) : boolOf? (ent (e38 x0 x1 x2 x3 x4 x5 x6) (.t 40)) = some x6 := by kernel_rfl
def g119_20 (k0 : V0 → V0 → Int → Int → Int → Option R) (x0 x1 : V0) (x2 x3 x4 : Int) : Option R :=
(g119_19 (g119_11 (g119_18 (fun y0 y1 y2 y3 y4 y5 y6 => brB y6 (g119_16 k0 y0 y1 y2 y3 y4 y5 y6) (k0 y0 y1 y2 y4 y5)))) x0 x1 x2 x3 x4)
theorem t119_20 (x0 x1 x2 x3 x4) : exec cl N c119_20 (e34 x0 x1 x2 x3 x4) K = (g119_20 (fun y0 y1 y2 y3 y4 => K .normal (e34 y0 y1 y2 y3 y4)) x0 x1 x2 x3 x4) := by
 simp only [c119_20, exec_out, exec_block, exec_seq, seqK_normal, seqK_exit, seqK_ret, t119_19, t119_11, t119_18, c119_17, exec_cond', hb119_2, Option.bind_some, brB_true, brB_false, t119_16, exec_skip, kp119_0, kp119_4, blockK_normal, blockK_ret, blockK_eq]
 rfl
def g119_21 (k0 : V0 → V0 → Int → Int → Int → Option R) (x0 x1 : V0) (x2 x3 x4 : Int) : Option R :=
k0 x0 x1 x2 x3 (IntKind.i64.wrap (x4 + (1 : Int)))
theorem t119_21 (x0 x1 x2 x3 x4) : exec cl N c119_21 (e34 x0 x1 x2 x3 x4) K = (g119_21 (fun y0 y1 y2 y3 y4 => K .normal (e34 y0 y1 y2 y3 y4)) x0 x1 x2 x3 x4) := by
 kernel_rfl
def g119_22 (k0 : V0 → V0 → Int → Int → Int → Option R) (k1 : V0 → V0 → Int → Int → Int → Option R) (x0 x1 : V0) (x2 x3 x4 : Int) : Option R :=
(g119_4 (fun y0 y1 y2 y3 y4 y5 => brB y5 ((g119_20 (g119_21 k0)) y0 y1 y2 y3 y4) (k1 y0 y1 y2 y3 y4)) x0 x1 x2 x3 x4)
theorem t119_22 (x0 x1 x2 x3 x4) : exec cl N c119_22 (e34 x0 x1 x2 x3 x4) K = (g119_22 (fun y0 y1 y2 y3 y4 => K .normal (e34 y0 y1 y2 y3 y4)) (fun y0 y1 y2 y3 y4 => K (.exit 0) (e34 y0 y1 y2 y3 y4)) x0 x1 x2 x3 x4) := by
 simp only [c119_22, exec_seq, seqK_normal, seqK_exit, seqK_ret, t119_4, c119_5, exec_out, exec_cond', hb119_0, Option.bind_some, brB_true, brB_false, exec_skip, exec_exit, kp119_1, t119_20, t119_21]
 rfl
def l119_23 {R : Type} (k0 : V0 → V0 → Int → Int → Int → Option R) : Nat → V0 → V0 → Int → Int → Int → Option R
 | 0, _, _, _, _, _ => none
 | m + 1, x0, x1, x2, x3, x4 => (g119_22 (l119_23 k0 m) k0 x0 x1 x2 x3 x4)
theorem lt119_23 : ∀ (m) (x0 x1 x2 x3 x4), iter [1, 5, 6, 11, 12] (fun env K => exec cl N c119_22 env K) K m (e34 x0 x1 x2 x3 x4) = l119_23 (fun y0 y1 y2 y3 y4 => K (.exit 0) (e34 y0 y1 y2 y3 y4)) m x0 x1 x2 x3 x4 := by
 intro m
 induction m with
 | zero => intros; rfl
 | succ m ih =>
   intro x0 x1 x2 x3 x4
   simp only [iter_succ, t119_22, loopK_normal, loopK_exit, loopK_ret, kp119_0, ih]
   rfl
theorem kp119_5 (x0 x1 x2 x3 x4) : keep [5] (e34 x0 x1 x2 x3 x4) = (e25 x1) := by kernel_rfl
def g119_23 (N : Nat) (k0 : V0 → Option R) (x0 x1 : V0) (x2 x3 x4 : Int) : Option R :=
l119_23 (fun y0 y1 y2 y3 y4 => k0 y1) N x0 x1 x2 x3 x4
theorem t119_23 (x0 x1 x2 x3 x4) : exec cl N c119_23 (e34 x0 x1 x2 x3 x4) K = (g119_23 N (fun y0 => K (.exit 0) (e25 y0)) x0 x1 x2 x3 x4) := by
 simp only [c119_23, exec_out, exec_loop, kp119_0, lt119_23, kp119_5]
 rfl
theorem kp119_6 (x0) : keep [5] (e25 x0) = (e25 x0) := by kernel_rfl
def g119_25 (S118 : V0 → Option V2) (k0 : V0 → Option R) (x0 : V0) : Option R :=
(S118 x0).bind fun r193 =>
k0 r193
theorem t119_25 (S118) (h118 : (ctr118 S118).holds cl) (x0) : exec cl N c119_25 (e25 x0) K = (g119_25 S118 (fun y0 => K .normal [(4, .v U2 y0)]) x0) := by
 rw [← put_eq h118]
 kernel_rfl
def g119_26b (N : Nat) (S117 : V0 → Option V2) (S118 : V0 → Option V2) (k0 : V0 → Option R) (x0 x1 : V0) : Option R :=
(g119_26 S117 (g119_3 (g119_23 N ((g119_25 S118 k0)))) x0 x1)
theorem t119_26b (S117) (S118) (h117 : (ctr117 S117).holds cl) (h118 : (ctr118 S118).holds cl) (x0 x1) : exec cl N c119_26 (e17 x0 x1) K = (g119_26b N S117 S118 (fun y0 => K .ret [(4, .v U2 y0)]) x0 x1) := by
 simp only [exec_seq, seqK_normal, seqK_exit, seqK_ret, t119_26 S117 h117, t119_3, c119_24, exec_out, exec_block, t119_23, blockK_normal, blockK_ret, blockK_eq, kp119_6, t119_25 S118 h118, exec_ret]
 rfl
theorem rk119_0 (y0) : retK d119 .ret [(4, .v U2 y0)] = some [.v U2 y0] := by kernel_rfl
def g119 (N : Nat) (S117 : V0 → Option V2) (S118 : V0 → Option V2) (x0 x1 : V0) (k : V0 → Option R) : Option R :=
(g119_26b N S117 S118 k x0 x1)
theorem gen119 (S117) (S118) (h117 : (ctr117 S117).holds cl) (h118 : (ctr118 S118).holds cl) (x0 x1) (k : List E → Option R) : exec cl N c119 (e17 x0 x1) (fun e env => (retK d119 e env).bind k) = g119 N S117 S118 x0 x1 (fun r0 => k [.v U2 r0]) := by
 simp only [c119, t119_26b S117 S118 h117 h118, rk119_0, Option.bind_some]
 rfl
def ctr119 (S : V0 → V0 → Option V2) : Ctr := cv2 119 U2 U2 S fun b => [.v U2 b]
def S119 (N : Nat) (x0 : V0) (x1 : V0) : Option V2 := g119 N (S117 N) (S118 N) x0 x1 (fun (r0 : V0) => some (r0))
def g115_33 (k0 : V0 → V0 → V0 → V0 → Option R) (x0 x1 : V0) : Option R :=
k0 x0 x1 [] []
theorem t115_33 (x0 x1) : exec cl N c115_33 (e17 x0 x1) K = (g115_33 (fun y0 y1 y2 y3 => exec cl N (.seq (.seq c115_2 c115_29) c115_32) (e39 y0 y1 y2 y3) K) x0 x1) := by
 kernel_rfl
def g115_2 (k0 : V0 → V0 → V0 → V0 → Int → Option R) (x0 x1 x2 x3 : V0) : Option R :=
k0 x0 x1 x2 x3 (IntKind.i64.wrap ((x0.length : Int) - (1 : Int)))
theorem t115_2 (x0 x1 x2 x3) : exec cl N c115_2 (e39 x0 x1 x2 x3) K = (g115_2 (fun y0 y1 y2 y3 y4 => K .normal (e40 y0 y1 y2 y3 y4)) x0 x1 x2 x3) := by
 kernel_rfl
theorem kp115_0 (x0 x1 x2 x3 x4) : keep [0, 1, 6, 7, 8] (e40 x0 x1 x2 x3 x4) = (e40 x0 x1 x2 x3 x4) := by kernel_rfl
def g115_3 (k0 : V0 → V0 → V0 → V0 → Int → Bool → Option R) (x0 x1 x2 x3 : V0) (x4 : Int) : Option R :=
k0 x0 x1 x2 x3 x4 (decide (x4 ≥ (0 : Int)))
theorem t115_3 (x0 x1 x2 x3 x4) : exec cl N c115_3 (e40 x0 x1 x2 x3 x4) K = (g115_3 (fun y0 y1 y2 y3 y4 y5 => K .normal (e41 y0 y1 y2 y3 y4 y5)) x0 x1 x2 x3 x4) := by
 kernel_rfl
theorem kp115_1 (x0 x1 x2 x3 x4 x5) : keep [0, 1, 6, 7, 8] (e41 x0 x1 x2 x3 x4 x5) = (e40 x0 x1 x2 x3 x4) := by kernel_rfl
theorem hb115_0 (x0 x1 x2 x3 x4 x5) : boolOf? (ent (e41 x0 x1 x2 x3 x4 x5) (.t 16)) = some x5 := by kernel_rfl
def g115_24 (S118 : V0 → Option V2) (k0 : V0 → V0 → V0 → V0 → Int → Int → Int → Option R) (x0 x1 x2 x3 : V0) (x4 : Int) : Option R :=
if 0 ≤ x4 ∧ x4 < (x0.length : Int) then
if [(x0.getD x4.toNat (0 : Int))].length + x3.length ≤ 17592186044416 then
(S118 ([(x0.getD x4.toNat (0 : Int))] ++ x3)).bind fun r202 =>
k0 x0 x1 x2 r202 x4 (0 : Int) (9999 : Int)
else none
else none
theorem t115_24 (S118) (h118 : (ctr118 S118).holds cl) (x0 x1 x2 x3 x4) : exec cl N c115_24 (e40 x0 x1 x2 x3 x4) K = (g115_24 S118 (fun y0 y1 y2 y3 y4 y5 y6 => exec cl N (.seq c115_18 (.seq c115_22 c115_23)) (e42 y0 y1 y2 y3 y4 y5 y6) K) x0 x1 x2 x3 x4) := by
 rw [← put_eq h118]
 kernel_rfl
theorem kp115_2 (x0 x1 x2 x3 x4 x5 x6) : keep [0, 1, 6, 7, 8, 9, 10] (e42 x0 x1 x2 x3 x4 x5 x6) = (e42 x0 x1 x2 x3 x4 x5 x6) := by kernel_rfl
def g115_7 (k0 : V0 → V0 → V0 → V0 → Int → Int → Int → Bool → Option R) (x0 x1 x2 x3 : V0) (x4 x5 x6 : Int) : Option R :=
k0 x0 x1 x2 x3 x4 x5 x6 (decide (x5 < x6))
theorem t115_7 (x0 x1 x2 x3 x4 x5 x6) : exec cl N c115_7 (e42 x0 x1 x2 x3 x4 x5 x6) K = (g115_7 (fun y0 y1 y2 y3 y4 y5 y6 y7 => K .normal (e43 y0 y1 y2 y3 y4 y5 y6 y7)) x0 x1 x2 x3 x4 x5 x6) := by
 kernel_rfl
theorem kp115_3 (x0 x1 x2 x3 x4 x5 x6 x7) : keep [0, 1, 6, 7, 8, 9, 10] (e43 x0 x1 x2 x3 x4 x5 x6 x7) = (e42 x0 x1 x2 x3 x4 x5 x6) := by kernel_rfl
theorem hb115_1 (x0 x1 x2 x3 x4 x5 x6 x7) : boolOf? (ent (e43 x0 x1 x2 x3 x4 x5 x6 x7) (.t 29)) = some x7 := by kernel_rfl
def g115_14 (S96 : V0 → V0 → Option (Int)) (S114 : V0 → V0 → Option V2) (k0 : V0 → V0 → V0 → V0 → Int → Int → Int → Int → Bool → Option R) (x0 x1 x2 x3 : V0) (x4 x5 x6 : Int) : Option R :=
let v209 : Int := (IntKind.i64.wrap (Int.tdiv (IntKind.i64.wrap ((IntKind.i64.wrap (x5 + x6)) + (1 : Int))) (2 : Int)))
(S114 x1 [v209]).bind fun r210 =>
(S96 r210 x3).bind fun r211 =>
k0 x0 x1 x2 x3 x4 x5 x6 v209 (decide (r211 ≤ (0 : Int)))
theorem t115_14 (S96) (S114) (h96 : (ctr96 S96).holds cl) (h114 : (ctr114 S114).holds cl) (x0 x1 x2 x3 x4 x5 x6) : exec cl N c115_14 (e42 x0 x1 x2 x3 x4 x5 x6) K = (g115_14 S96 S114 (fun y0 y1 y2 y3 y4 y5 y6 y7 y8 => exec cl N c115_13 (e44 y0 y1 y2 y3 y4 y5 y6 y7 y8) K) x0 x1 x2 x3 x4 x5 x6) := by
 rw [← put_eq h96]
 rw [← put_eq h114]
 kernel_rfl
def g115_11 (k0 : V0 → V0 → V0 → V0 → Int → Int → Int → Option R) (x0 x1 x2 x3 : V0) (x4 x5 x6 x7 : Int) (x8 : Bool) : Option R :=
k0 x0 x1 x2 x3 x4 x7 x6
theorem t115_11 (x0 x1 x2 x3 x4 x5 x6 x7 x8) : exec cl N c115_11 (e44 x0 x1 x2 x3 x4 x5 x6 x7 x8) K = (g115_11 (fun y0 y1 y2 y3 y4 y5 y6 => K .normal (e42 y0 y1 y2 y3 y4 y5 y6)) x0 x1 x2 x3 x4 x5 x6 x7 x8) := by
 kernel_rfl
def g115_12 (k0 : V0 → V0 → V0 → V0 → Int → Int → Int → Option R) (x0 x1 x2 x3 : V0) (x4 x5 x6 x7 : Int) (x8 : Bool) : Option R :=
k0 x0 x1 x2 x3 x4 x5 (IntKind.i64.wrap (x7 - (1 : Int)))
theorem t115_12 (x0 x1 x2 x3 x4 x5 x6 x7 x8) : exec cl N c115_12 (e44 x0 x1 x2 x3 x4 x5 x6 x7 x8) K = (g115_12 (fun y0 y1 y2 y3 y4 y5 y6 => K .normal (e42 y0 y1 y2 y3 y4 y5 y6)) x0 x1 x2 x3 x4 x5 x6 x7 x8) := by
 kernel_rfl
theorem hb115_2 (x0 x1 x2 x3 x4 x5 x6 x7 x8) : boolOf? (ent (e44 x0 x1 x2 x3 x4 x5 x6 x7 x8) (.t 41)) = some x8 := by kernel_rfl
def g115_16 (S96 : V0 → V0 → Option (Int)) (S114 : V0 → V0 → Option V2) (k0 : V0 → V0 → V0 → V0 → Int → Int → Int → Option R) (k1 : V0 → V0 → V0 → V0 → Int → Int → Int → Option R) (x0 x1 x2 x3 : V0) (x4 x5 x6 : Int) : Option R :=
(g115_7 (fun y0 y1 y2 y3 y4 y5 y6 y7 => brB y7 ((g115_14 S96 S114 (fun y0 y1 y2 y3 y4 y5 y6 y7 y8 => brB y8 (g115_11 k0 y0 y1 y2 y3 y4 y5 y6 y7 y8) (g115_12 k0 y0 y1 y2 y3 y4 y5 y6 y7 y8))) y0 y1 y2 y3 y4 y5 y6) (k1 y0 y1 y2 y3 y4 y5 y6)) x0 x1 x2 x3 x4 x5 x6)
theorem t115_16 (S96) (S114) (h96 : (ctr96 S96).holds cl) (h114 : (ctr114 S114).holds cl) (x0 x1 x2 x3 x4 x5 x6) : exec cl N c115_16 (e42 x0 x1 x2 x3 x4 x5 x6) K = (g115_16 S96 S114 (fun y0 y1 y2 y3 y4 y5 y6 => K .normal (e42 y0 y1 y2 y3 y4 y5 y6)) (fun y0 y1 y2 y3 y4 y5 y6 => K (.exit 2) (e42 y0 y1 y2 y3 y4 y5 y6)) x0 x1 x2 x3 x4 x5 x6) := by
 simp only [c115_16, exec_seq, seqK_normal, seqK_exit, seqK_ret, t115_7, c115_8, exec_out, exec_cond', hb115_1, Option.bind_some, brB_true, brB_false, exec_skip, exec_exit, kp115_3, c115_15, exec_block, t115_14 S96 S114 h96 h114, c115_13, hb115_2, t115_11, t115_12, kp115_2, blockK_normal, blockK_ret, blockK_eq]
 rfl
def l115_17 {R : Type} (S96 : V0 → V0 → Option (Int)) (S114 : V0 → V0 → Option V2) (k0 : V0 → V0 → V0 → V0 → Int → Int → Int → Option R) : Nat → V0 → V0 → V0 → V0 → Int → Int → Int → Option R
 | 0, _, _, _, _, _, _, _ => none
 | m + 1, x0, x1, x2, x3, x4, x5, x6 => (g115_16 S96 S114 (l115_17 S96 S114 k0 m) k0 x0 x1 x2 x3 x4 x5 x6)
theorem lt115_17 (S96) (S114) (h96 : (ctr96 S96).holds cl) (h114 : (ctr114 S114).holds cl) : ∀ (m) (x0 x1 x2 x3 x4 x5 x6), iter [0, 1, 6, 7, 8, 9, 10] (fun env K => exec cl N c115_16 env K) K m (e42 x0 x1 x2 x3 x4 x5 x6) = l115_17 S96 S114 (fun y0 y1 y2 y3 y4 y5 y6 => K (.exit 2) (e42 y0 y1 y2 y3 y4 y5 y6)) m x0 x1 x2 x3 x4 x5 x6 := by
 intro m
 induction m with
 | zero => intros; rfl
 | succ m ih =>
   intro x0 x1 x2 x3 x4 x5 x6
   simp only [iter_succ, t115_16 S96 S114 h96 h114, loopK_normal, loopK_exit, loopK_ret, kp115_2, ih]
   rfl
theorem kp115_4 (x0 x1 x2 x3 x4 x5 x6) : keep [0, 1, 6, 7, 8, 9] (e42 x0 x1 x2 x3 x4 x5 x6) = (e45 x0 x1 x2 x3 x4 x5) := by kernel_rfl
def g115_17 (N : Nat) (S96 : V0 → V0 → Option (Int)) (S114 : V0 → V0 → Option V2) (k0 : V0 → V0 → V0 → V0 → Int → Int → Option R) (x0 x1 x2 x3 : V0) (x4 x5 x6 : Int) : Option R :=
l115_17 S96 S114 (fun y0 y1 y2 y3 y4 y5 y6 => k0 y0 y1 y2 y3 y4 y5) N x0 x1 x2 x3 x4 x5 x6
theorem t115_17 (S96) (S114) (h96 : (ctr96 S96).holds cl) (h114 : (ctr114 S114).holds cl) (x0 x1 x2 x3 x4 x5 x6) : exec cl N c115_17 (e42 x0 x1 x2 x3 x4 x5 x6) K = (g115_17 N S96 S114 (fun y0 y1 y2 y3 y4 y5 => K (.exit 2) (e45 y0 y1 y2 y3 y4 y5)) x0 x1 x2 x3 x4 x5 x6) := by
 simp only [c115_17, exec_out, exec_loop, kp115_2, lt115_17 S96 S114 h96 h114, kp115_4]
 rfl
theorem kp115_5 (x0 x1 x2 x3 x4 x5) : keep [0, 1, 6, 7, 8, 9] (e45 x0 x1 x2 x3 x4 x5) = (e45 x0 x1 x2 x3 x4 x5) := by kernel_rfl
def g115_19 (k0 : V0 → V0 → V0 → V0 → Int → Int → Bool → Option R) (x0 x1 x2 x3 : V0) (x4 x5 : Int) : Option R :=
k0 x0 x1 x2 x3 x4 x5 (decide (x5 > (0 : Int)))
theorem t115_19 (x0 x1 x2 x3 x4 x5) : exec cl N c115_19 (e45 x0 x1 x2 x3 x4 x5) K = (g115_19 (fun y0 y1 y2 y3 y4 y5 y6 => K .normal (e46 y0 y1 y2 y3 y4 y5 y6)) x0 x1 x2 x3 x4 x5) := by
 kernel_rfl
def g115_20 (S114 : V0 → V0 → Option V2) (S119 : V0 → V0 → Option V2) (k0 : V0 → V0 → V0 → V0 → Int → Int → Option R) (x0 x1 x2 x3 : V0) (x4 x5 : Int) (x6 : Bool) : Option R :=
(S114 x1 [x5]).bind fun r215 =>
(S119 x3 r215).bind fun r216 =>
k0 x0 x1 x2 r216 x4 x5
theorem t115_20 (S114) (S119) (h114 : (ctr114 S114).holds cl) (h119 : (ctr119 S119).holds cl) (x0 x1 x2 x3 x4 x5 x6) : exec cl N c115_20 (e46 x0 x1 x2 x3 x4 x5 x6) K = (g115_20 S114 S119 (fun y0 y1 y2 y3 y4 y5 => K .normal (e45 y0 y1 y2 y3 y4 y5)) x0 x1 x2 x3 x4 x5 x6) := by
 rw [← put_eq h114]
 rw [← put_eq h119]
 kernel_rfl
theorem kp115_6 (x0 x1 x2 x3 x4 x5 x6) : keep [0, 1, 6, 7, 8, 9] (e46 x0 x1 x2 x3 x4 x5 x6) = (e45 x0 x1 x2 x3 x4 x5) := by kernel_rfl
theorem hb115_3 (x0 x1 x2 x3 x4 x5 x6) : boolOf? (ent (e46 x0 x1 x2 x3 x4 x5 x6) (.t 46)) = some x6 := by kernel_rfl
def g115_22 (S114 : V0 → V0 → Option V2) (S119 : V0 → V0 → Option V2) (k0 : V0 → V0 → V0 → V0 → Int → Int → Option R) (x0 x1 x2 x3 : V0) (x4 x5 : Int) : Option R :=
(g115_19 (fun y0 y1 y2 y3 y4 y5 y6 => brB y6 (g115_20 S114 S119 k0 y0 y1 y2 y3 y4 y5 y6) (k0 y0 y1 y2 y3 y4 y5)) x0 x1 x2 x3 x4 x5)
theorem t115_22 (S114) (S119) (h114 : (ctr114 S114).holds cl) (h119 : (ctr119 S119).holds cl) (x0 x1 x2 x3 x4 x5) : exec cl N c115_22 (e45 x0 x1 x2 x3 x4 x5) K = (g115_22 S114 S119 (fun y0 y1 y2 y3 y4 y5 => K .normal (e45 y0 y1 y2 y3 y4 y5)) x0 x1 x2 x3 x4 x5) := by
 simp only [c115_22, exec_seq, seqK_normal, seqK_exit, seqK_ret, t115_19, c115_21, exec_out, exec_cond', hb115_3, Option.bind_some, brB_true, brB_false, t115_20 S114 S119 h114 h119, exec_skip, kp115_5, kp115_6]
 rfl
def g115_23 (k0 : V0 → V0 → V0 → V0 → Int → Option R) (x0 x1 x2 x3 : V0) (x4 x5 : Int) : Option R :=
if x2.length + [x5].length ≤ 17592186044416 then
k0 x0 x1 (x2 ++ [x5]) x3 x4
else none
theorem t115_23 (x0 x1 x2 x3 x4 x5) : exec cl N c115_23 (e45 x0 x1 x2 x3 x4 x5) K = (g115_23 (fun y0 y1 y2 y3 y4 => K .normal (e40 y0 y1 y2 y3 y4)) x0 x1 x2 x3 x4 x5) := by
 kernel_rfl
def g115_26 (k0 : V0 → V0 → V0 → V0 → Int → Option R) (x0 x1 x2 x3 : V0) (x4 : Int) : Option R :=
k0 x0 x1 x2 x3 (IntKind.i64.wrap (x4 - (1 : Int)))
theorem t115_26 (x0 x1 x2 x3 x4) : exec cl N c115_26 (e40 x0 x1 x2 x3 x4) K = (g115_26 (fun y0 y1 y2 y3 y4 => K .normal (e40 y0 y1 y2 y3 y4)) x0 x1 x2 x3 x4) := by
 kernel_rfl
def g115_27 (N : Nat) (S96 : V0 → V0 → Option (Int)) (S114 : V0 → V0 → Option V2) (S118 : V0 → Option V2) (S119 : V0 → V0 → Option V2) (k0 : V0 → V0 → V0 → V0 → Int → Option R) (k1 : V0 → V0 → V0 → V0 → Int → Option R) (x0 x1 x2 x3 : V0) (x4 : Int) : Option R :=
(g115_3 (fun y0 y1 y2 y3 y4 y5 => brB y5 ((g115_24 S118 (g115_17 N S96 S114 ((g115_22 S114 S119 (g115_23 ((g115_26 k0))))))) y0 y1 y2 y3 y4) (k1 y0 y1 y2 y3 y4)) x0 x1 x2 x3 x4)
theorem t115_27 (S96) (S114) (S118) (S119) (h96 : (ctr96 S96).holds cl) (h114 : (ctr114 S114).holds cl) (h118 : (ctr118 S118).holds cl) (h119 : (ctr119 S119).holds cl) (x0 x1 x2 x3 x4) : exec cl N c115_27 (e40 x0 x1 x2 x3 x4) K = (g115_27 N S96 S114 S118 S119 (fun y0 y1 y2 y3 y4 => K .normal (e40 y0 y1 y2 y3 y4)) (fun y0 y1 y2 y3 y4 => K (.exit 0) (e40 y0 y1 y2 y3 y4)) x0 x1 x2 x3 x4) := by
 simp only [c115_27, exec_seq, seqK_normal, seqK_exit, seqK_ret, t115_3, c115_4, exec_out, exec_cond', hb115_0, Option.bind_some, brB_true, brB_false, exec_skip, exec_exit, kp115_1, c115_25, exec_block, t115_24 S118 h118, c115_18, t115_17 S96 S114 h96 h114, blockK_normal, blockK_ret, blockK_eq, kp115_5, t115_22 S114 S119 h114 h119, t115_23, kp115_0, t115_26]
 rfl
def l115_28 {R : Type} (N : Nat) (S96 : V0 → V0 → Option (Int)) (S114 : V0 → V0 → Option V2) (S118 : V0 → Option V2) (S119 : V0 → V0 → Option V2) (k0 : V0 → V0 → V0 → V0 → Int → Option R) : Nat → V0 → V0 → V0 → V0 → Int → Option R
 | 0, _, _, _, _, _ => none
 | m + 1, x0, x1, x2, x3, x4 => (g115_27 N S96 S114 S118 S119 (l115_28 N S96 S114 S118 S119 k0 m) k0 x0 x1 x2 x3 x4)
theorem lt115_28 (S96) (S114) (S118) (S119) (h96 : (ctr96 S96).holds cl) (h114 : (ctr114 S114).holds cl) (h118 : (ctr118 S118).holds cl) (h119 : (ctr119 S119).holds cl) : ∀ (m) (x0 x1 x2 x3 x4), iter [0, 1, 6, 7, 8] (fun env K => exec cl N c115_27 env K) K m (e40 x0 x1 x2 x3 x4) = l115_28 N S96 S114 S118 S119 (fun y0 y1 y2 y3 y4 => K (.exit 0) (e40 y0 y1 y2 y3 y4)) m x0 x1 x2 x3 x4 := by
 intro m
 induction m with
 | zero => intros; rfl
 | succ m ih =>
   intro x0 x1 x2 x3 x4
   simp only [iter_succ, t115_27 S96 S114 S118 S119 h96 h114 h118 h119, loopK_normal, loopK_exit, loopK_ret, kp115_0, ih]
   rfl
theorem kp115_7 (x0 x1 x2 x3 x4) : keep [6, 7] (e40 x0 x1 x2 x3 x4) = (e47 x2 x3) := by kernel_rfl
def g115_28 (N : Nat) (S96 : V0 → V0 → Option (Int)) (S114 : V0 → V0 → Option V2) (S118 : V0 → Option V2) (S119 : V0 → V0 → Option V2) (k0 : V0 → V0 → Option R) (x0 x1 x2 x3 : V0) (x4 : Int) : Option R :=
l115_28 N S96 S114 S118 S119 (fun y0 y1 y2 y3 y4 => k0 y2 y3) N x0 x1 x2 x3 x4
theorem t115_28 (S96) (S114) (S118) (S119) (h96 : (ctr96 S96).holds cl) (h114 : (ctr114 S114).holds cl) (h118 : (ctr118 S118).holds cl) (h119 : (ctr119 S119).holds cl) (x0 x1 x2 x3 x4) : exec cl N c115_28 (e40 x0 x1 x2 x3 x4) K = (g115_28 N S96 S114 S118 S119 (fun y0 y1 => K (.exit 0) (e47 y0 y1)) x0 x1 x2 x3 x4) := by
 simp only [c115_28, exec_out, exec_loop, kp115_0, lt115_28 S96 S114 S118 S119 h96 h114 h118 h119, kp115_7]
 rfl
theorem kp115_8 (x0 x1) : keep [6, 7] (e47 x0 x1) = (e47 x0 x1) := by kernel_rfl
def g115_32 (S118 : V0 → Option V2) (S120 : V0 → Option V2) (k0 : V0 → V0 → Option R) (x0 x1 : V0) : Option R :=
(S120 x0).bind fun r219 =>
(S118 r219).bind fun r220 =>
k0 r220 x1
theorem t115_32 (S118) (S120) (h118 : (ctr118 S118).holds cl) (h120 : (ctr120 S120).holds cl) (x0 x1) : exec cl N c115_32 (e47 x0 x1) K = (g115_32 S118 S120 (fun y0 y1 => exec cl N .ret (e48 y0 y1) K) x0 x1) := by
 rw [← put_eq h118]
 rw [← put_eq h120]
 kernel_rfl
def g115_33b (N : Nat) (S96 : V0 → V0 → Option (Int)) (S114 : V0 → V0 → Option V2) (S118 : V0 → Option V2) (S119 : V0 → V0 → Option V2) (S120 : V0 → Option V2) (k0 : V0 → V0 → Option R) (x0 x1 : V0) : Option R :=
(g115_33 (g115_2 (g115_28 N S96 S114 S118 S119 ((g115_32 S118 S120 k0)))) x0 x1)
theorem t115_33b (S96) (S114) (S118) (S119) (S120) (h96 : (ctr96 S96).holds cl) (h114 : (ctr114 S114).holds cl) (h118 : (ctr118 S118).holds cl) (h119 : (ctr119 S119).holds cl) (h120 : (ctr120 S120).holds cl) (x0 x1) : exec cl N c115_33 (e17 x0 x1) K = (g115_33b N S96 S114 S118 S119 S120 (fun y0 y1 => K .ret (e48 y0 y1)) x0 x1) := by
 simp only [exec_seq, seqK_normal, seqK_exit, seqK_ret, t115_33, t115_2, c115_29, exec_out, exec_block, t115_28 S96 S114 S118 S119 h96 h114 h118 h119, blockK_normal, blockK_ret, blockK_eq, kp115_8, t115_32 S118 S120 h118 h120, exec_ret]
 rfl
theorem rk115_0 (y0 y1) : retK d115 .ret (e48 y0 y1) = some [.v U2 y0, .v U2 y1] := by kernel_rfl
def g115 (N : Nat) (S96 : V0 → V0 → Option (Int)) (S114 : V0 → V0 → Option V2) (S118 : V0 → Option V2) (S119 : V0 → V0 → Option V2) (S120 : V0 → Option V2) (x0 x1 : V0) (k : V0 → V0 → Option R) : Option R :=
(g115_33b N S96 S114 S118 S119 S120 k x0 x1)
theorem gen115 (S96) (S114) (S118) (S119) (S120) (h96 : (ctr96 S96).holds cl) (h114 : (ctr114 S114).holds cl) (h118 : (ctr118 S118).holds cl) (h119 : (ctr119 S119).holds cl) (h120 : (ctr120 S120).holds cl) (x0 x1) (k : List E → Option R) : exec cl N c115 (e17 x0 x1) (fun e env => (retK d115 e env).bind k) = g115 N S96 S114 S118 S119 S120 x0 x1 (fun r0 r1 => k [.v U2 r0, .v U2 r1]) := by
 simp only [c115, t115_33b S96 S114 S118 S119 S120 h96 h114 h118 h119 h120, rk115_0, Option.bind_some]
 rfl
def ctr115 (S : V0 → V0 → Option V8) : Ctr := cv2 115 U2 U2 S fun b => [.v U2 b.1, .v U2 b.2]
def S115 (N : Nat) (x0 : V0) (x1 : V0) : Option V8 := g115 N (S96 N) (S114 N) (S118 N) (S119 N) (S120 N) x0 x1 (fun (r0 : V0) (r1 : V0) => some (r0, r1))
def g105_6 (S118 : V0 → Option V2) (k0 : V0 → V5 → Option R) (x0 : V0) : Option R :=
(S118 x0).bind fun r225 =>
k0 r225 ([], ())
theorem t105_6 (S118) (h118 : (ctr118 S118).holds cl) (x0) : exec cl N c105_6 [(0, .v U2 x0)] K = (g105_6 S118 (fun y0 y1 => exec cl N (.seq (.seq c105_2 c105_4) (.seq c105_5 .ret)) (e49 y0 y1) K) x0) := by
 rw [← put_eq h118]
 kernel_rfl
def g105_2 (k0 : V0 → V5 → Bool → Option R) (x0 : V0) (x1 : V5) : Option R :=
k0 x0 x1 ((x0.length : Int) == (0 : Int))
theorem t105_2 (x0 x1) : exec cl N c105_2 (e49 x0 x1) K = (g105_2 (fun y0 y1 y2 => K .normal (e50 y0 y1 y2)) x0 x1) := by
 kernel_rfl
def g105_3 (k0 : V5 → Option R) (x0 : V0) (x1 : V5) (x2 : Bool) : Option R :=
k0 ([], ())
theorem t105_3 (x0 x1 x2) : exec cl N c105_3 (e50 x0 x1 x2) K = (g105_3 (fun y0 => K .normal [(2, .loc U4 (.pair (.own true 3 .no) .no) y0)]) x0 x1 x2) := by
 kernel_rfl
theorem kp105_0 (x0) : keep [0, 2] [(2, .loc U4 (.pair (.own true 3 .no) .no) x0)] = (e51 x0) := by kernel_rfl
theorem kp105_1 (x0 x1 x2) : keep [0, 2] (e50 x0 x1 x2) = (e49 x0 x1) := by kernel_rfl
theorem hb105_0 (x0 x1 x2) : boolOf? (ent (e50 x0 x1 x2) (.t 7)) = some x2 := by kernel_rfl
def g105_5 (k0 : V5 → Option R) (x0 : V0) (x1 : V5) : Option R :=
k0 (x0, ())
theorem t105_5 (x0 x1) : exec cl N c105_5 (e49 x0 x1) K = (g105_5 (fun y0 => K .normal [(2, .loc U4 .no y0)]) x0 x1) := by
 kernel_rfl
def g105_6b (S118 : V0 → Option V2) (k0 : V5 → Option R) (k1 : V5 → Option R) (x0 : V0) : Option R :=
(g105_6 S118 (g105_2 (fun y0 y1 y2 => brB y2 (g105_3 k0 y0 y1 y2) ((g105_5 k1) y0 y1))) x0)
theorem t105_6b (S118) (h118 : (ctr118 S118).holds cl) (x0) : exec cl N c105_6 [(0, .v U2 x0)] K = (g105_6b S118 (fun y0 => K .ret (e51 y0)) (fun y0 => K .ret [(2, .loc U4 .no y0)]) x0) := by
 simp only [exec_seq, seqK_normal, seqK_exit, seqK_ret, t105_6 S118 h118, t105_2, c105_4, exec_out, exec_cond', hb105_0, Option.bind_some, brB_true, brB_false, t105_3, exec_ret, exec_skip, kp105_0, kp105_1, t105_5]
 rfl
theorem rk105_0 (y0) : retK d105 .ret (e51 y0) = some [.v U4 y0] := by kernel_rfl
theorem rk105_1 (y0) : retK d105 .ret [(2, .loc U4 .no y0)] = some [.v U4 y0] := by kernel_rfl
def g105 (S118 : V0 → Option V2) (x0 : V0) (k : V5 → Option R) : Option R :=
(g105_6b S118 k k x0)
theorem gen105 (S118) (h118 : (ctr118 S118).holds cl) (x0) (k : List E → Option R) : exec cl N c105 [(0, .v U2 x0)] (fun e env => (retK d105 e env).bind k) = g105 S118 x0 (fun r0 => k [.v U4 r0]) := by
 simp only [c105, t105_6b S118 h118, rk105_0, rk105_1, Option.bind_some]
 rfl
def ctr105 (S : V0 → Option V7) : Ctr := cv1 105 U2 S fun b => [.v U4 b]
def S105 (N : Nat) (x0 : V0) : Option V7 := g105 (S118 N) x0 (fun (r0 : V5) => some (r0))
def g101_0 (k0 : V5 → V5 → V5 → Option R) (x0 x1 : V5) : Option R :=
k0 x0 x1 ([], ())
theorem t101_0 (x0 x1) : exec cl N c101_0 (e52 x0 x1) K = (g101_0 (fun y0 y1 y2 => K .normal (e53 y0 y1 y2)) x0 x1) := by
 kernel_rfl
def g101_1 (S75 : V5 → Option (Bool)) (k0 : V5 → V5 → V5 → Bool → Option R) (x0 x1 x2 : V5) : Option R :=
(S75 x0).bind fun r228 =>
brB (!r228) (k0 x0 x1 x2 true) ((S75 x1).bind fun r229 =>
k0 x0 x1 x2 (!r229))
theorem t101_1 (S75) (h75 : (ctr75 S75).holds cl) (x0 x1 x2) : exec cl N c101_1 (e53 x0 x1 x2) K = (g101_1 S75 (fun y0 y1 y2 y3 => K .normal (e54 y0 y1 y2 y3)) x0 x1 x2) := by
 rw [← put_eq h75]
 kernel_rfl
def g101_2 (k0 : V5 → Int → Option R) (x0 x1 x2 : V5) (x3 : Bool) : Option R :=
k0 ([], ()) (1 : Int)
theorem t101_2 (x0 x1 x2 x3) : exec cl N c101_2 (e54 x0 x1 x2 x3) K = (g101_2 (fun y0 y1 => K .normal (e55 y0 y1)) x0 x1 x2 x3) := by
 kernel_rfl
theorem kp101_0 (x0 x1) : keep [2, 3, 4, 5] (e55 x0 x1) = (e56 x0 x1) := by kernel_rfl
theorem kp101_1 (x0 x1 x2 x3) : keep [2, 3, 4, 5] (e54 x0 x1 x2 x3) = (e57 x0 x1 x2) := by kernel_rfl
theorem hb101_0 (x0 x1 x2 x3) : boolOf? (ent (e54 x0 x1 x2 x3) (.t 17)) = some x3 := by kernel_rfl
def g101_4 (S117 : V0 → Option V2) (k0 : V5 → V0 → V0 → Option R) (x0 x1 x2 : V5) : Option R :=
(S117 x0.1).bind fun r230 =>
(S117 x1.1).bind fun r231 =>
k0 x2 r230 r231
theorem t101_4 (S117) (h117 : (ctr117 S117).holds cl) (x0 x1 x2) : exec cl N c101_4 (e57 x0 x1 x2) K = (g101_4 S117 (fun y0 y1 y2 => K .normal (e58 y0 y1 y2)) x0 x1 x2) := by
 rw [← put_eq h117]
 kernel_rfl
theorem kp101_2 (x0 x1 x2) : keep [4, 6, 7] (e58 x0 x1 x2) = (e58 x0 x1 x2) := by kernel_rfl
def g101_5 (k0 : V5 → V0 → V0 → Bool → Option R) (x0 : V5) (x1 x2 : V0) : Option R :=
k0 x0 x1 x2 (decide ((x2.length : Int) > (0 : Int)))
theorem t101_5 (x0 x1 x2) : exec cl N c101_5 (e58 x0 x1 x2) K = (g101_5 (fun y0 y1 y2 y3 => K .normal (e59 y0 y1 y2 y3)) x0 x1 x2) := by
 kernel_rfl
theorem kp101_3 (x0 x1 x2 x3) : keep [4, 6, 7] (e59 x0 x1 x2 x3) = (e58 x0 x1 x2) := by kernel_rfl
theorem hb101_1 (x0 x1 x2 x3) : boolOf? (ent (e59 x0 x1 x2 x3) (.t 27)) = some x3 := by kernel_rfl
def g101_9 (S115 : V0 → V0 → Option V8) (k0 : V5 → V0 → V0 → Option R) (x0 : V5) (x1 x2 : V0) : Option R :=
(S115 x1 x2).bind fun r234 =>
k0 x0 x2 r234.2
theorem t101_9 (S115) (h115 : (ctr115 S115).holds cl) (x0 x1 x2) : exec cl N c101_9 (e58 x0 x1 x2) K = (g101_9 S115 (fun y0 y1 y2 => K .normal (e58 y0 y1 y2)) x0 x1 x2) := by
 rw [← put_eq h115]
 kernel_rfl
def g101_11 (S115 : V0 → V0 → Option V8) (k0 : V5 → V0 → V0 → Option R) (k1 : V5 → V0 → V0 → Option R) (x0 : V5) (x1 x2 : V0) : Option R :=
(g101_5 (fun y0 y1 y2 y3 => brB y3 ((g101_9 S115 k0) y0 y1 y2) (k1 y0 y1 y2)) x0 x1 x2)
theorem t101_11 (S115) (h115 : (ctr115 S115).holds cl) (x0 x1 x2) : exec cl N c101_11 (e58 x0 x1 x2) K = (g101_11 S115 (fun y0 y1 y2 => K .normal (e58 y0 y1 y2)) (fun y0 y1 y2 => K (.exit 0) (e58 y0 y1 y2)) x0 x1 x2) := by
 simp only [c101_11, exec_seq, seqK_normal, seqK_exit, seqK_ret, t101_5, c101_6, exec_out, exec_cond', hb101_1, Option.bind_some, brB_true, brB_false, exec_skip, exec_exit, kp101_3, c101_10, exec_block, t101_9 S115 h115, blockK_normal, blockK_ret, blockK_eq, kp101_2]
 rfl
def l101_12 {R : Type} (S115 : V0 → V0 → Option V8) (k0 : V5 → V0 → V0 → Option R) : Nat → V5 → V0 → V0 → Option R
 | 0, _, _, _ => none
 | m + 1, x0, x1, x2 => (g101_11 S115 (l101_12 S115 k0 m) k0 x0 x1 x2)
theorem lt101_12 (S115) (h115 : (ctr115 S115).holds cl) : ∀ (m) (x0 x1 x2), iter [4, 6, 7] (fun env K => exec cl N c101_11 env K) K m (e58 x0 x1 x2) = l101_12 S115 (fun y0 y1 y2 => K (.exit 0) (e58 y0 y1 y2)) m x0 x1 x2 := by
 intro m
 induction m with
 | zero => intros; rfl
 | succ m ih =>
   intro x0 x1 x2
   simp only [iter_succ, t101_11 S115 h115, loopK_normal, loopK_exit, loopK_ret, kp101_2, ih]
   rfl
theorem kp101_4 (x0 x1 x2) : keep [4, 6] (e58 x0 x1 x2) = (e60 x0 x1) := by kernel_rfl
def g101_12 (N : Nat) (S115 : V0 → V0 → Option V8) (k0 : V5 → V0 → Option R) (x0 : V5) (x1 x2 : V0) : Option R :=
l101_12 S115 (fun y0 y1 y2 => k0 y0 y1) N x0 x1 x2
theorem t101_12 (S115) (h115 : (ctr115 S115).holds cl) (x0 x1 x2) : exec cl N c101_12 (e58 x0 x1 x2) K = (g101_12 N S115 (fun y0 y1 => K (.exit 0) (e60 y0 y1)) x0 x1 x2) := by
 simp only [c101_12, exec_out, exec_loop, kp101_2, lt101_12 S115 h115, kp101_4]
 rfl
theorem kp101_5 (x0 x1) : keep [4, 6] (e60 x0 x1) = (e60 x0 x1) := by kernel_rfl
def g101_14 (S105 : V0 → Option V7) (k0 : V5 → Int → Option R) (x0 : V5) (x1 : V0) : Option R :=
(S105 x1).bind fun r235 =>
k0 r235 (0 : Int)
theorem t101_14 (S105) (h105 : (ctr105 S105).holds cl) (x0 x1) : exec cl N c101_14 (e60 x0 x1) K = (g101_14 S105 (fun y0 y1 => K .normal (e61 y0 y1)) x0 x1) := by
 rw [← put_eq h105]
 kernel_rfl
def g101_15 (N : Nat) (S75 : V5 → Option (Bool)) (S105 : V0 → Option V7) (S115 : V0 → V0 → Option V8) (S117 : V0 → Option V2) (k0 : V5 → Int → Option R) (k1 : V5 → Int → Option R) (x0 x1 : V5) : Option R :=
(g101_0 (g101_1 S75 (fun y0 y1 y2 y3 => brB y3 (g101_2 k0 y0 y1 y2 y3) ((g101_4 S117 (g101_12 N S115 ((g101_14 S105 k1)))) y0 y1 y2))) x0 x1)
theorem t101_15 (S75) (S105) (S115) (S117) (h75 : (ctr75 S75).holds cl) (h105 : (ctr105 S105).holds cl) (h115 : (ctr115 S115).holds cl) (h117 : (ctr117 S117).holds cl) (x0 x1) : exec cl N c101_15 (e52 x0 x1) K = (g101_15 N S75 S105 S115 S117 (fun y0 y1 => K .ret (e56 y0 y1)) (fun y0 y1 => K .ret (e61 y0 y1)) x0 x1) := by
 simp only [c101_15, exec_seq, seqK_normal, seqK_exit, seqK_ret, t101_0, t101_1 S75 h75, c101_3, exec_out, exec_cond', hb101_0, Option.bind_some, brB_true, brB_false, t101_2, exec_ret, exec_skip, kp101_0, kp101_1, t101_4 S117 h117, c101_13, exec_block, t101_12 S115 h115, blockK_normal, blockK_ret, blockK_eq, kp101_5, t101_14 S105 h105]
 rfl
theorem rk101_0 (y0 y1) : retK d101 .ret (e56 y0 y1) = some [.v U4 y0, .v U1 y1] := by kernel_rfl
theorem rk101_1 (y0 y1) : retK d101 .ret (e61 y0 y1) = some [.v U4 y0, .v U1 y1] := by kernel_rfl
def g101 (N : Nat) (S75 : V5 → Option (Bool)) (S105 : V0 → Option V7) (S115 : V0 → V0 → Option V8) (S117 : V0 → Option V2) (x0 x1 : V5) (k : V5 → Int → Option R) : Option R :=
(g101_15 N S75 S105 S115 S117 k k x0 x1)
theorem gen101 (S75) (S105) (S115) (S117) (h75 : (ctr75 S75).holds cl) (h105 : (ctr105 S105).holds cl) (h115 : (ctr115 S115).holds cl) (h117 : (ctr117 S117).holds cl) (x0 x1) (k : List E → Option R) : exec cl N c101 (e52 x0 x1) (fun e env => (retK d101 e env).bind k) = g101 N S75 S105 S115 S117 x0 x1 (fun r0 r1 => k [.v U4 r0, .v U1 r1]) := by
 simp only [c101, t101_15 S75 S105 S115 S117 h75 h105 h115 h117, rk101_0, rk101_1, Option.bind_some]
 rfl
def ctr101 (S : V5 → V5 → Option V10) : Ctr := cv2 101 U4 U4 S fun b => [.v U4 b.1, .v U1 b.2]
def S101 (N : Nat) (x0 : V5) (x1 : V5) : Option V10 := g101 N (S75 N) (S105 N) (S115 N) (S117 N) x0 x1 (fun (r0 : V5) (r1 : Int) => some (r0, r1))
def g81_0 (k0 : Int → V5 → Option R) (x0 : Int) : Option R :=
k0 x0 ([], ())
theorem t81_0 (x0) : exec cl N c81_0 [(0, .v U1 x0)] K = (g81_0 (fun y0 y1 => K .normal (e62 y0 y1)) x0) := by
 kernel_rfl
def g81_1 (k0 : Int → V5 → Bool → Option R) (x0 : Int) (x1 : V5) : Option R :=
k0 x0 x1 (decide (x0 < (0 : Int)))
theorem t81_1 (x0 x1) : exec cl N c81_1 (e62 x0 x1) K = (g81_1 (fun y0 y1 y2 => K .normal (e63 y0 y1 y2)) x0 x1) := by
 kernel_rfl
def g81_2 (k0 : V5 → Int → Option R) (x0 : Int) (x1 : V5) (x2 : Bool) : Option R :=
k0 ([], ()) (6 : Int)
theorem t81_2 (x0 x1 x2) : exec cl N c81_2 (e63 x0 x1 x2) K = (g81_2 (fun y0 y1 => K .normal (e64 y0 y1)) x0 x1 x2) := by
 kernel_rfl
theorem kp81_0 (x0 x1) : keep [0, 2, 3] (e64 x0 x1) = (e65 x0 x1) := by kernel_rfl
theorem kp81_1 (x0 x1 x2) : keep [0, 2, 3] (e63 x0 x1 x2) = (e66 x0 x1) := by kernel_rfl
theorem hb81_0 (x0 x1 x2) : boolOf? (ent (e63 x0 x1 x2) (.t 6)) = some x2 := by kernel_rfl
def g81_4 (k0 : Int → V5 → V0 → Option R) (x0 : Int) (x1 : V5) : Option R :=
k0 x0 x1 []
theorem t81_4 (x0 x1) : exec cl N c81_4 (e66 x0 x1) K = (g81_4 (fun y0 y1 y2 => K .normal (e67 y0 y1 y2)) x0 x1) := by
 kernel_rfl
theorem kp81_2 (x0 x1 x2) : keep [0, 2, 4] (e67 x0 x1 x2) = (e67 x0 x1 x2) := by kernel_rfl
def g81_5 (k0 : Int → V5 → V0 → Bool → Option R) (x0 : Int) (x1 : V5) (x2 : V0) : Option R :=
k0 x0 x1 x2 (decide (x0 > (0 : Int)))
theorem t81_5 (x0 x1 x2) : exec cl N c81_5 (e67 x0 x1 x2) K = (g81_5 (fun y0 y1 y2 y3 => K .normal (e68 y0 y1 y2 y3)) x0 x1 x2) := by
 kernel_rfl
theorem kp81_3 (x0 x1 x2 x3) : keep [0, 2, 4] (e68 x0 x1 x2 x3) = (e67 x0 x1 x2) := by kernel_rfl
theorem hb81_1 (x0 x1 x2 x3) : boolOf? (ent (e68 x0 x1 x2 x3) (.t 9)) = some x3 := by kernel_rfl
def g81_7 (k0 : Int → V5 → V0 → Option R) (x0 : Int) (x1 : V5) (x2 : V0) : Option R :=
let v246 : Int := (Int.tmod x0 (10000 : Int))
if x2.length + [v246].length ≤ 17592186044416 then
k0 x0 x1 (x2 ++ [v246])
else none
theorem t81_7 (x0 x1 x2) : exec cl N c81_7 (e67 x0 x1 x2) K = (g81_7 (fun y0 y1 y2 => K .normal (e67 y0 y1 y2)) x0 x1 x2) := by
 kernel_rfl
def g81_9 (k0 : Int → V5 → V0 → Option R) (x0 : Int) (x1 : V5) (x2 : V0) : Option R :=
k0 (IntKind.i64.wrap (Int.tdiv x0 (10000 : Int))) x1 x2
theorem t81_9 (x0 x1 x2) : exec cl N c81_9 (e67 x0 x1 x2) K = (g81_9 (fun y0 y1 y2 => K .normal (e67 y0 y1 y2)) x0 x1 x2) := by
 kernel_rfl
def g81_10 (k0 : Int → V5 → V0 → Option R) (k1 : Int → V5 → V0 → Option R) (x0 : Int) (x1 : V5) (x2 : V0) : Option R :=
(g81_5 (fun y0 y1 y2 y3 => brB y3 ((g81_7 ((g81_9 k0))) y0 y1 y2) (k1 y0 y1 y2)) x0 x1 x2)
theorem t81_10 (x0 x1 x2) : exec cl N c81_10 (e67 x0 x1 x2) K = (g81_10 (fun y0 y1 y2 => K .normal (e67 y0 y1 y2)) (fun y0 y1 y2 => K (.exit 0) (e67 y0 y1 y2)) x0 x1 x2) := by
 simp only [c81_10, exec_seq, seqK_normal, seqK_exit, seqK_ret, t81_5, c81_6, exec_out, exec_cond', hb81_1, Option.bind_some, brB_true, brB_false, exec_skip, exec_exit, kp81_3, c81_8, exec_block, t81_7, blockK_normal, blockK_ret, blockK_eq, kp81_2, t81_9]
 rfl
def l81_11 {R : Type} (k0 : Int → V5 → V0 → Option R) : Nat → Int → V5 → V0 → Option R
 | 0, _, _, _ => none
 | m + 1, x0, x1, x2 => (g81_10 (l81_11 k0 m) k0 x0 x1 x2)
theorem lt81_11 : ∀ (m) (x0 x1 x2), iter [0, 2, 4] (fun env K => exec cl N c81_10 env K) K m (e67 x0 x1 x2) = l81_11 (fun y0 y1 y2 => K (.exit 0) (e67 y0 y1 y2)) m x0 x1 x2 := by
 intro m
 induction m with
 | zero => intros; rfl
 | succ m ih =>
   intro x0 x1 x2
   simp only [iter_succ, t81_10, loopK_normal, loopK_exit, loopK_ret, kp81_2, ih]
   rfl
theorem kp81_4 (x0 x1 x2) : keep [2, 4] (e67 x0 x1 x2) = (e69 x1 x2) := by kernel_rfl
def g81_11 (N : Nat) (k0 : V5 → V0 → Option R) (x0 : Int) (x1 : V5) (x2 : V0) : Option R :=
l81_11 (fun y0 y1 y2 => k0 y1 y2) N x0 x1 x2
theorem t81_11 (x0 x1 x2) : exec cl N c81_11 (e67 x0 x1 x2) K = (g81_11 N (fun y0 y1 => K (.exit 0) (e69 y0 y1)) x0 x1 x2) := by
 simp only [c81_11, exec_out, exec_loop, kp81_2, lt81_11, kp81_4]
 rfl
theorem kp81_5 (x0 x1) : keep [2, 4] (e69 x0 x1) = (e69 x0 x1) := by kernel_rfl
def g81_13 (S105 : V0 → Option V7) (k0 : V5 → Int → Option R) (x0 : V5) (x1 : V0) : Option R :=
(S105 x1).bind fun r248 =>
k0 r248 (0 : Int)
theorem t81_13 (S105) (h105 : (ctr105 S105).holds cl) (x0 x1) : exec cl N c81_13 (e69 x0 x1) K = (g81_13 S105 (fun y0 y1 => K .normal (e70 y0 y1)) x0 x1) := by
 rw [← put_eq h105]
 kernel_rfl
def g81_14 (N : Nat) (S105 : V0 → Option V7) (k0 : V5 → Int → Option R) (k1 : V5 → Int → Option R) (x0 : Int) : Option R :=
(g81_0 (g81_1 (fun y0 y1 y2 => brB y2 (g81_2 k0 y0 y1 y2) ((g81_4 (g81_11 N ((g81_13 S105 k1)))) y0 y1))) x0)
theorem t81_14 (S105) (h105 : (ctr105 S105).holds cl) (x0) : exec cl N c81_14 [(0, .v U1 x0)] K = (g81_14 N S105 (fun y0 y1 => K .ret (e65 y0 y1)) (fun y0 y1 => K .ret (e70 y0 y1)) x0) := by
 simp only [c81_14, exec_seq, seqK_normal, seqK_exit, seqK_ret, t81_0, t81_1, c81_3, exec_out, exec_cond', hb81_0, Option.bind_some, brB_true, brB_false, t81_2, exec_ret, exec_skip, kp81_0, kp81_1, t81_4, c81_12, exec_block, t81_11, blockK_normal, blockK_ret, blockK_eq, kp81_5, t81_13 S105 h105]
 rfl
theorem rk81_0 (y0 y1) : retK d81 .ret (e65 y0 y1) = some [.v U4 y0, .v U1 y1] := by kernel_rfl
theorem rk81_1 (y0 y1) : retK d81 .ret (e70 y0 y1) = some [.v U4 y0, .v U1 y1] := by kernel_rfl
def g81 (N : Nat) (S105 : V0 → Option V7) (x0 : Int) (k : V5 → Int → Option R) : Option R :=
(g81_14 N S105 k k x0)
theorem gen81 (S105) (h105 : (ctr105 S105).holds cl) (x0) (k : List E → Option R) : exec cl N c81 [(0, .v U1 x0)] (fun e env => (retK d81 e env).bind k) = g81 N S105 x0 (fun r0 r1 => k [.v U4 r0, .v U1 r1]) := by
 simp only [c81, t81_14 S105 h105, rk81_0, rk81_1, Option.bind_some]
 rfl
def ctr81 (S : Int → Option V10) : Ctr := cv1 81 U1 S fun b => [.v U4 b.1, .v U1 b.2]
def S81 (N : Nat) (x0 : Int) : Option V10 := g81 N (S105 N) x0 (fun (r0 : V5) (r1 : Int) => some (r0, r1))
def g95_3 (S81 : Int → Option V10) (k0 : V5 → Option R) (x0 : Int) : Option R :=
(S81 x0).bind fun r252 =>
k0 r252.1
theorem t95_3 (S81) (h81 : (ctr81 S81).holds cl) (x0) : exec cl N c95_3 [(0, .v U1 x0)] K = (g95_3 S81 (fun y0 => exec cl N .ret [(2, .loc U4 .no y0)] K) x0) := by
 rw [← put_eq h81]
 kernel_rfl
def g95_3b (S81 : Int → Option V10) (k0 : V5 → Option R) (x0 : Int) : Option R :=
(g95_3 S81 k0 x0)
theorem t95_3b (S81) (h81 : (ctr81 S81).holds cl) (x0) : exec cl N c95_3 [(0, .v U1 x0)] K = (g95_3b S81 (fun y0 => K .ret [(2, .loc U4 .no y0)]) x0) := by
 simp only [exec_seq, seqK_normal, seqK_exit, seqK_ret, t95_3 S81 h81, exec_ret]
 rfl
theorem rk95_0 (y0) : retK d95 .ret [(2, .loc U4 .no y0)] = some [.v U4 y0] := by kernel_rfl
def g95 (S81 : Int → Option V10) (x0 : Int) (k : V5 → Option R) : Option R :=
(g95_3b S81 k x0)
theorem gen95 (S81) (h81 : (ctr81 S81).holds cl) (x0) (k : List E → Option R) : exec cl N c95 [(0, .v U1 x0)] (fun e env => (retK d95 e env).bind k) = g95 S81 x0 (fun r0 => k [.v U4 r0]) := by
 simp only [c95, t95_3b S81 h81, rk95_0, Option.bind_some]
 rfl
def ctr95 (S : Int → Option V7) : Ctr := cv1 95 U1 S fun b => [.v U4 b]
def S95 (N : Nat) (x0 : Int) : Option V7 := g95 (S81 N) x0 (fun (r0 : V5) => some (r0))
def g69_2 (S96 : V0 → V0 → Option (Int)) (k0 : Int → Option R) (x0 x1 : V5) : Option R :=
(S96 x0.1 x1.1).bind fun r255 =>
k0 r255
theorem t69_2 (S96) (h96 : (ctr96 S96).holds cl) (x0 x1) : exec cl N c69_2 (e52 x0 x1) K = (g69_2 S96 (fun y0 => exec cl N .ret [(4, .v U1 y0)] K) x0 x1) := by
 rw [← put_eq h96]
 kernel_rfl
def g69_2b (S96 : V0 → V0 → Option (Int)) (k0 : Int → Option R) (x0 x1 : V5) : Option R :=
(g69_2 S96 k0 x0 x1)
theorem t69_2b (S96) (h96 : (ctr96 S96).holds cl) (x0 x1) : exec cl N c69_2 (e52 x0 x1) K = (g69_2b S96 (fun y0 => K .ret [(4, .v U1 y0)]) x0 x1) := by
 simp only [exec_seq, seqK_normal, seqK_exit, seqK_ret, t69_2 S96 h96, exec_ret]
 rfl
theorem rk69_0 (y0) : retK d69 .ret [(4, .v U1 y0)] = some [.v U1 y0] := by kernel_rfl
def g69 (S96 : V0 → V0 → Option (Int)) (x0 x1 : V5) (k : Int → Option R) : Option R :=
(g69_2b S96 k x0 x1)
theorem gen69 (S96) (h96 : (ctr96 S96).holds cl) (x0 x1) (k : List E → Option R) : exec cl N c69 (e52 x0 x1) (fun e env => (retK d69 e env).bind k) = g69 S96 x0 x1 (fun r0 => k [.v U1 r0]) := by
 simp only [c69, t69_2b S96 h96, rk69_0, Option.bind_some]
 rfl
def ctr69 (S : V5 → V5 → Option (Int)) : Ctr := cv2 69 U4 U4 S fun b => [.v U1 b]
def S69 (N : Nat) (x0 : V5) (x1 : V5) : Option (Int) := g69 (S96 N) x0 x1 (fun (r0 : Int) => some (r0))
def g97_0 (k0 : V15 → Option R) (x0 : V15) : Option R :=
k0 x0
theorem t97_0 (x0) : exec cl N c97_0 [(0, .v U10 x0)] K = (g97_0 (fun y0 => K .normal [(1, .loc U10 .no y0)]) x0) := by
 kernel_rfl
def g97_1 (S75 : V5 → Option (Bool)) (S76 : V5 → Option (Bool)) (k0 : V15 → Bool → Option R) (x0 : V15) : Option R :=
(S75 x0.2.1).bind fun r258 =>
brB (!r258) (k0 x0 true) ((S75 x0.2.2.1).bind fun r259 =>
brB (!r259) (k0 x0 true) ((S76 x0.2.2.1).bind fun r260 =>
brB r260 (k0 x0 true) ((S76 x0.2.1).bind fun r261 =>
brB r261 (k0 x0 x0.1) (k0 x0 false))))
theorem t97_1 (S75) (S76) (h75 : (ctr75 S75).holds cl) (h76 : (ctr76 S76).holds cl) (x0) : exec cl N c97_1 [(1, .loc U10 .no x0)] K = (g97_1 S75 S76 (fun y0 y1 => K .normal (e71 y0 y1)) x0) := by
 rw [← put_eq h75]
 rw [← put_eq h76]
 kernel_rfl
def g97_2 (k0 : Bool → Option R) (x0 : V15) (x1 : Bool) : Option R :=
k0 false
theorem t97_2 (x0 x1) : exec cl N c97_2 (e71 x0 x1) K = (g97_2 (fun y0 => K .normal [(2, .v .bool y0)]) x0 x1) := by
 kernel_rfl
theorem kp97_0 (x0) : keep [1, 2] [(2, .v .bool x0)] = (e72 x0) := by kernel_rfl
theorem kp97_1 (x0 x1) : keep [1, 2] (e71 x0 x1) = (e73 x0) := by kernel_rfl
theorem hb97_0 (x0 x1) : boolOf? (ent (e71 x0 x1) (.t 28)) = some x1 := by kernel_rfl
def g97_6 (S69 : V5 → V5 → Option (Int)) (S95 : Int → Option V7) (S101 : V5 → V5 → Option V10) (k0 : Bool → Option R) (x0 : V15) : Option R :=
(S101 x0.2.1 x0.2.2.1).bind fun r263 =>
brB (r263.2 == (0 : Int)) ((S95 (1 : Int)).bind fun r265 =>
(S69 r263.1 r265).bind fun r266 =>
k0 (r266 == (0 : Int))) (k0 false)
theorem t97_6 (S69) (S95) (S101) (h69 : (ctr69 S69).holds cl) (h95 : (ctr95 S95).holds cl) (h101 : (ctr101 S101).holds cl) (x0) : exec cl N c97_6 (e73 x0) K = (g97_6 S69 S95 S101 (fun y0 => exec cl N .ret [(2, .v .bool y0)] K) x0) := by
 rw [← put_eq h69]
 rw [← put_eq h95]
 rw [← put_eq h101]
 kernel_rfl
def g97_7 (S69 : V5 → V5 → Option (Int)) (S75 : V5 → Option (Bool)) (S76 : V5 → Option (Bool)) (S95 : Int → Option V7) (S101 : V5 → V5 → Option V10) (k0 : Bool → Option R) (k1 : Bool → Option R) (x0 : V15) : Option R :=
(g97_0 (g97_1 S75 S76 (fun y0 y1 => brB y1 (g97_2 k0 y0 y1) ((g97_6 S69 S95 S101 k1) y0))) x0)
theorem t97_7 (S69) (S75) (S76) (S95) (S101) (h69 : (ctr69 S69).holds cl) (h75 : (ctr75 S75).holds cl) (h76 : (ctr76 S76).holds cl) (h95 : (ctr95 S95).holds cl) (h101 : (ctr101 S101).holds cl) (x0) : exec cl N c97_7 [(0, .v U10 x0)] K = (g97_7 S69 S75 S76 S95 S101 (fun y0 => K .ret (e72 y0)) (fun y0 => K .ret [(2, .v .bool y0)]) x0) := by
 simp only [c97_7, exec_seq, seqK_normal, seqK_exit, seqK_ret, t97_0, t97_1 S75 S76 h75 h76, c97_3, exec_out, exec_cond', hb97_0, Option.bind_some, brB_true, brB_false, t97_2, exec_ret, exec_skip, kp97_0, kp97_1, t97_6 S69 S95 S101 h69 h95 h101]
 rfl
theorem rk97_0 (y0) : retK d97 .ret (e72 y0) = some [.v .bool y0] := by kernel_rfl
theorem rk97_1 (y0) : retK d97 .ret [(2, .v .bool y0)] = some [.v .bool y0] := by kernel_rfl
def g97 (S69 : V5 → V5 → Option (Int)) (S75 : V5 → Option (Bool)) (S76 : V5 → Option (Bool)) (S95 : Int → Option V7) (S101 : V5 → V5 → Option V10) (x0 : V15) (k : Bool → Option R) : Option R :=
(g97_7 S69 S75 S76 S95 S101 k k x0)
theorem gen97 (S69) (S75) (S76) (S95) (S101) (h69 : (ctr69 S69).holds cl) (h75 : (ctr75 S75).holds cl) (h76 : (ctr76 S76).holds cl) (h95 : (ctr95 S95).holds cl) (h101 : (ctr101 S101).holds cl) (x0) (k : List E → Option R) : exec cl N c97 [(0, .v U10 x0)] (fun e env => (retK d97 e env).bind k) = g97 S69 S75 S76 S95 S101 x0 (fun r0 => k [.v .bool r0]) := by
 simp only [c97, t97_7 S69 S75 S76 S95 S101 h69 h75 h76 h95 h101, rk97_0, rk97_1, Option.bind_some]
 rfl
def ctr97 (S : V15 → Option (Bool)) : Ctr := cv1 97 U10 S fun b => [.v .bool b]
def S97 (N : Nat) (x0 : V15) : Option (Bool) := g97 (S69 N) (S75 N) (S76 N) (S95 N) (S101 N) x0 (fun (r0 : Bool) => some (r0))
def g49_3 (S81 : Int → Option V10) (k0 : V5 → Option R) (x0 : Int) : Option R :=
(S81 x0).bind fun r274 =>
k0 r274.1
theorem t49_3 (S81) (h81 : (ctr81 S81).holds cl) (x0) : exec cl N c49_3 [(0, .v U1 x0)] K = (g49_3 S81 (fun y0 => exec cl N .ret [(2, .loc U4 .no y0)] K) x0) := by
 rw [← put_eq h81]
 kernel_rfl
def g49_3b (S81 : Int → Option V10) (k0 : V5 → Option R) (x0 : Int) : Option R :=
(g49_3 S81 k0 x0)
theorem t49_3b (S81) (h81 : (ctr81 S81).holds cl) (x0) : exec cl N c49_3 [(0, .v U1 x0)] K = (g49_3b S81 (fun y0 => K .ret [(2, .loc U4 .no y0)]) x0) := by
 simp only [exec_seq, seqK_normal, seqK_exit, seqK_ret, t49_3 S81 h81, exec_ret]
 rfl
theorem rk49_0 (y0) : retK d49 .ret [(2, .loc U4 .no y0)] = some [.v U4 y0] := by kernel_rfl
def g49 (S81 : Int → Option V10) (x0 : Int) (k : V5 → Option R) : Option R :=
(g49_3b S81 k x0)
theorem gen49 (S81) (h81 : (ctr81 S81).holds cl) (x0) (k : List E → Option R) : exec cl N c49 [(0, .v U1 x0)] (fun e env => (retK d49 e env).bind k) = g49 S81 x0 (fun r0 => k [.v U4 r0]) := by
 simp only [c49, t49_3b S81 h81, rk49_0, Option.bind_some]
 rfl
def ctr49 (S : Int → Option V7) : Ctr := cv1 49 U1 S fun b => [.v U4 b]
def S49 (N : Nat) (x0 : Int) : Option V7 := g49 (S81 N) x0 (fun (r0 : V5) => some (r0))
def g98_0 (k0 : V5 → Option R) (x0 : V5) : Option R :=
k0 x0
theorem t98_0 (x0) : exec cl N c98_0 [(0, .v U4 x0)] K = (g98_0 (fun y0 => K .normal [(1, .loc U4 .no y0)]) x0) := by
 kernel_rfl
def g98_1 (k0 : V5 → Bool → Option R) (x0 : V5) : Option R :=
k0 x0 ((x0.1.length : Int) == (0 : Int))
theorem t98_1 (x0) : exec cl N c98_1 [(1, .loc U4 .no x0)] K = (g98_1 (fun y0 y1 => K .normal (e74 y0 y1)) x0) := by
 kernel_rfl
def g98_2 (k0 : Int → Option R) (x0 : V5) (x1 : Bool) : Option R :=
k0 (0 : Int)
theorem t98_2 (x0 x1) : exec cl N c98_2 (e74 x0 x1) K = (g98_2 (fun y0 => K .normal [(2, .v U1 y0)]) x0 x1) := by
 kernel_rfl
theorem kp98_0 (x0) : keep [1, 2] [(2, .v U1 x0)] = (e75 x0) := by kernel_rfl
theorem kp98_1 (x0 x1) : keep [1, 2] (e74 x0 x1) = [(1, .loc U4 .no x0), (2, .dead)] := by kernel_rfl
theorem hb98_0 (x0 x1) : boolOf? (ent (e74 x0 x1) (.t 6)) = some x1 := by kernel_rfl
def g98_4 (k0 : Int → Option R) (x0 : V5) : Option R :=
if 0 ≤ (0 : Int) ∧ (0 : Int) < (x0.1.length : Int) then
k0 (x0.1.getD (0 : Int).toNat (0 : Int))
else none
theorem t98_4 (x0) : exec cl N c98_4 [(1, .loc U4 .no x0), (2, .dead)] K = (g98_4 (fun y0 => K .normal [(2, .v U1 y0)]) x0) := by
 kernel_rfl
def g98_5 (k0 : Int → Option R) (k1 : Int → Option R) (x0 : V5) : Option R :=
(g98_0 (g98_1 (fun y0 y1 => brB y1 (g98_2 k0 y0 y1) ((g98_4 k1) y0))) x0)
theorem t98_5 (x0) : exec cl N c98_5 [(0, .v U4 x0)] K = (g98_5 (fun y0 => K .ret (e75 y0)) (fun y0 => K .ret [(2, .v U1 y0)]) x0) := by
 simp only [c98_5, exec_seq, seqK_normal, seqK_exit, seqK_ret, t98_0, t98_1, c98_3, exec_out, exec_cond', hb98_0, Option.bind_some, brB_true, brB_false, t98_2, exec_ret, exec_skip, kp98_0, kp98_1, t98_4]
 rfl
theorem rk98_0 (y0) : retK d98 .ret (e75 y0) = some [.v U1 y0] := by kernel_rfl
theorem rk98_1 (y0) : retK d98 .ret [(2, .v U1 y0)] = some [.v U1 y0] := by kernel_rfl
def g98 (x0 : V5) (k : Int → Option R) : Option R :=
(g98_5 k k x0)
theorem gen98 (x0) (k : List E → Option R) : exec cl N c98 [(0, .v U4 x0)] (fun e env => (retK d98 e env).bind k) = g98 x0 (fun r0 => k [.v U1 r0]) := by
 simp only [c98, t98_5, rk98_0, rk98_1, Option.bind_some]
 rfl
def ctr98 (S : V5 → Option (Int)) : Ctr := cv1 98 U4 S fun b => [.v U1 b]
def S98 (N : Nat) (x0 : V5) : Option (Int) := g98 x0 (fun (r0 : Int) => some (r0))
def g74_0 (k0 : V15 → Option R) (x0 : V15) : Option R :=
k0 x0
theorem t74_0 (x0) : exec cl N c74_0 [(0, .v U10 x0)] K = (g74_0 (fun y0 => K .normal [(1, .loc U10 .no y0)]) x0) := by
 kernel_rfl
def g74_1 (S97 : V15 → Option (Bool)) (k0 : V15 → Bool → Option R) (x0 : V15) : Option R :=
(S97 x0).bind fun r282 =>
k0 x0 (!r282)
theorem t74_1 (S97) (h97 : (ctr97 S97).holds cl) (x0) : exec cl N c74_1 [(1, .loc U10 .no x0)] K = (g74_1 S97 (fun y0 y1 => K .normal (e76 y0 y1)) x0) := by
 rw [← put_eq h97]
 kernel_rfl
def g74_2 (k0 : Int → Int → Int → Option R) (x0 : V15) (x1 : Bool) : Option R :=
k0 (0 : Int) (0 : Int) (1 : Int)
theorem t74_2 (x0 x1) : exec cl N c74_2 (e76 x0 x1) K = (g74_2 (fun y0 y1 y2 => K .normal (e77 y0 y1 y2)) x0 x1) := by
 kernel_rfl
theorem kp74_0 (x0 x1 x2) : keep [1, 2, 3, 4] (e77 x0 x1 x2) = (e78 x0 x1 x2) := by kernel_rfl
theorem kp74_1 (x0 x1) : keep [1, 2, 3, 4] (e76 x0 x1) = (e79 x0) := by kernel_rfl
theorem hb74_0 (x0 x1) : boolOf? (ent (e76 x0 x1) (.t 7)) = some x1 := by kernel_rfl
def g74_4 (S49 : Int → Option V7) (S69 : V5 → V5 → Option (Int)) (k0 : V15 → Bool → Option R) (x0 : V15) : Option R :=
brB x0.1 (k0 x0 true) ((S69 x0.2.1 x0.2.2.1).bind fun r283 =>
brB (decide (r283 > (0 : Int))) (k0 x0 true) ((S49 (1000 : Int)).bind fun r285 =>
(S69 x0.2.2.1 r285).bind fun r286 =>
k0 x0 (decide (r286 > (0 : Int)))))
theorem t74_4 (S49) (S69) (h49 : (ctr49 S49).holds cl) (h69 : (ctr69 S69).holds cl) (x0) : exec cl N c74_4 (e79 x0) K = (g74_4 S49 S69 (fun y0 y1 => K .normal (e80 y0 y1)) x0) := by
 rw [← put_eq h49]
 rw [← put_eq h69]
 kernel_rfl
def g74_5 (k0 : Int → Int → Int → Option R) (x0 : V15) (x1 : Bool) : Option R :=
k0 (0 : Int) (0 : Int) (6 : Int)
theorem t74_5 (x0 x1) : exec cl N c74_5 (e80 x0 x1) K = (g74_5 (fun y0 y1 y2 => K .normal (e77 y0 y1 y2)) x0 x1) := by
 kernel_rfl
theorem kp74_2 (x0 x1) : keep [1, 2, 3, 4] (e80 x0 x1) = (e79 x0) := by kernel_rfl
theorem hb74_1 (x0 x1) : boolOf? (ent (e80 x0 x1) (.t 24)) = some x1 := by kernel_rfl
def g74_7 (S98 : V5 → Option (Int)) (k0 : Int → Int → Int → Option R) (x0 : V15) : Option R :=
(S98 x0.2.1).bind fun r288 =>
(S98 x0.2.2.1).bind fun r289 =>
k0 r288 r289 (0 : Int)
theorem t74_7 (S98) (h98 : (ctr98 S98).holds cl) (x0) : exec cl N c74_7 (e79 x0) K = (g74_7 S98 (fun y0 y1 y2 => K .normal (e77 y0 y1 y2)) x0) := by
 rw [← put_eq h98]
 kernel_rfl
def g74_8 (S49 : Int → Option V7) (S69 : V5 → V5 → Option (Int)) (S97 : V15 → Option (Bool)) (S98 : V5 → Option (Int)) (k0 : Int → Int → Int → Option R) (k1 : Int → Int → Int → Option R) (x0 : V15) : Option R :=
(g74_0 (g74_1 S97 (fun y0 y1 => brB y1 (g74_2 k0 y0 y1) ((g74_4 S49 S69 (fun y0 y1 => brB y1 (g74_5 k0 y0 y1) ((g74_7 S98 k1) y0))) y0))) x0)
theorem t74_8 (S49) (S69) (S97) (S98) (h49 : (ctr49 S49).holds cl) (h69 : (ctr69 S69).holds cl) (h97 : (ctr97 S97).holds cl) (h98 : (ctr98 S98).holds cl) (x0) : exec cl N c74_8 [(0, .v U10 x0)] K = (g74_8 S49 S69 S97 S98 (fun y0 y1 y2 => K .ret (e78 y0 y1 y2)) (fun y0 y1 y2 => K .ret (e77 y0 y1 y2)) x0) := by
 simp only [c74_8, exec_seq, seqK_normal, seqK_exit, seqK_ret, t74_0, t74_1 S97 h97, c74_3, exec_out, exec_cond', hb74_0, Option.bind_some, brB_true, brB_false, t74_2, exec_ret, exec_skip, kp74_0, kp74_1, t74_4 S49 S69 h49 h69, c74_6, hb74_1, t74_5, kp74_2, t74_7 S98 h98]
 rfl
theorem rk74_0 (y0 y1 y2) : retK d74 .ret (e78 y0 y1 y2) = some [.v U1 y0, .v U1 y1, .v U1 y2] := by kernel_rfl
theorem rk74_1 (y0 y1 y2) : retK d74 .ret (e77 y0 y1 y2) = some [.v U1 y0, .v U1 y1, .v U1 y2] := by kernel_rfl
def g74 (S49 : Int → Option V7) (S69 : V5 → V5 → Option (Int)) (S97 : V15 → Option (Bool)) (S98 : V5 → Option (Int)) (x0 : V15) (k : Int → Int → Int → Option R) : Option R :=
(g74_8 S49 S69 S97 S98 k k x0)
theorem gen74 (S49) (S69) (S97) (S98) (h49 : (ctr49 S49).holds cl) (h69 : (ctr69 S69).holds cl) (h97 : (ctr97 S97).holds cl) (h98 : (ctr98 S98).holds cl) (x0) (k : List E → Option R) : exec cl N c74 [(0, .v U10 x0)] (fun e env => (retK d74 e env).bind k) = g74 S49 S69 S97 S98 x0 (fun r0 r1 r2 => k [.v U1 r0, .v U1 r1, .v U1 r2]) := by
 simp only [c74, t74_8 S49 S69 S97 S98 h49 h69 h97 h98, rk74_0, rk74_1, Option.bind_some]
 rfl
def ctr74 (S : V15 → Option V4) : Ctr := cv1 74 U10 S fun b => [.v U1 b.1, .v U1 b.2.1, .v U1 b.2.2]
def S74 (N : Nat) (x0 : V15) : Option V4 := g74 (S49 N) (S69 N) (S97 N) (S98 N) x0 (fun (r0 : Int) (r1 : Int) (r2 : Int) => some (r0, r1, r2))
def g43_9 (S74 : V15 → Option V4) (k0 : Int → Int → Int → Int → Int → Int → Int → Option R) (x0 x1 x2 x3 : Int) (x4 : V15) : Option R :=
(S74 x4).bind fun r296 =>
k0 x0 x1 x2 x3 r296.1 r296.2.1 r296.2.2
theorem t43_9 (S74) (h74 : (ctr74 S74).holds cl) (x0 x1 x2 x3 x4) : exec cl N c43_9 (e81 x0 x1 x2 x3 x4) K = (g43_9 S74 (fun y0 y1 y2 y3 y4 y5 y6 => exec cl N (.seq (.seq c43_2 c43_4) (.seq (.seq c43_5 c43_7) (.seq c43_8 .ret))) (e82 y0 y1 y2 y3 y4 y5 y6) K) x0 x1 x2 x3 x4) := by
 rw [← put_eq h74]
 kernel_rfl
def g43_2 (k0 : Int → Int → Int → Int → Int → Int → Int → Bool → Option R) (x0 x1 x2 x3 x4 x5 x6 : Int) : Option R :=
k0 x0 x1 x2 x3 x4 x5 x6 (x6 != (0 : Int))
theorem t43_2 (x0 x1 x2 x3 x4 x5 x6) : exec cl N c43_2 (e82 x0 x1 x2 x3 x4 x5 x6) K = (g43_2 (fun y0 y1 y2 y3 y4 y5 y6 y7 => K .normal (e83 y0 y1 y2 y3 y4 y5 y6 y7)) x0 x1 x2 x3 x4 x5 x6) := by
 kernel_rfl
def g43_3 (k0 : Int → Int → Int → Option R) (x0 x1 x2 x3 x4 x5 x6 : Int) (x7 : Bool) : Option R :=
k0 (0 : Int) (0 : Int) x6
theorem t43_3 (x0 x1 x2 x3 x4 x5 x6 x7) : exec cl N c43_3 (e83 x0 x1 x2 x3 x4 x5 x6 x7) K = (g43_3 (fun y0 y1 y2 => K .normal (e84 y0 y1 y2)) x0 x1 x2 x3 x4 x5 x6 x7) := by
 kernel_rfl
theorem kp43_0 (x0 x1 x2) : keep [0, 1, 2, 3, 10, 11, 12, 13, 14] (e84 x0 x1 x2) = (e85 x0 x1 x2) := by kernel_rfl
theorem kp43_1 (x0 x1 x2 x3 x4 x5 x6 x7) : keep [0, 1, 2, 3, 10, 11, 12, 13, 14] (e83 x0 x1 x2 x3 x4 x5 x6 x7) = (e86 x0 x1 x2 x3 x4 x5) := by kernel_rfl
theorem hb43_0 (x0 x1 x2 x3 x4 x5 x6 x7) : boolOf? (ent (e83 x0 x1 x2 x3 x4 x5 x6 x7) (.t 23)) = some x7 := by kernel_rfl
def g43_5 (k0 : Int → Int → Bool → Option R) (x0 x1 x2 x3 x4 x5 : Int) : Option R :=
brB (decide (x0 < (0 : Int))) (k0 x4 x5 true) (brB (decide (x0 > x2)) (k0 x4 x5 true) (brB (decide (x1 < (0 : Int))) (k0 x4 x5 true) (k0 x4 x5 (decide (x1 > x3)))))
theorem t43_5 (x0 x1 x2 x3 x4 x5) : exec cl N c43_5 (e86 x0 x1 x2 x3 x4 x5) K = (g43_5 (fun y0 y1 y2 => K .normal (e87 y0 y1 y2)) x0 x1 x2 x3 x4 x5) := by
 kernel_rfl
def g43_6 (k0 : Int → Int → Int → Option R) (x0 x1 : Int) (x2 : Bool) : Option R :=
k0 (0 : Int) (0 : Int) (6 : Int)
theorem t43_6 (x0 x1 x2) : exec cl N c43_6 (e87 x0 x1 x2) K = (g43_6 (fun y0 y1 y2 => K .normal (e84 y0 y1 y2)) x0 x1 x2) := by
 kernel_rfl
theorem kp43_2 (x0 x1 x2) : keep [10, 11, 12, 13, 14] (e84 x0 x1 x2) = (e88 x0 x1 x2) := by kernel_rfl
theorem kp43_3 (x0 x1 x2) : keep [10, 11, 12, 13, 14] (e87 x0 x1 x2) = (e89 x0 x1) := by kernel_rfl
theorem hb43_1 (x0 x1 x2) : boolOf? (ent (e87 x0 x1 x2) (.t 40)) = some x2 := by kernel_rfl
def g43_8 (k0 : Int → Int → Int → Option R) (x0 x1 : Int) : Option R :=
k0 x0 x1 (0 : Int)
theorem t43_8 (x0 x1) : exec cl N c43_8 (e89 x0 x1) K = (g43_8 (fun y0 y1 y2 => K .normal (e84 y0 y1 y2)) x0 x1) := by
 kernel_rfl
def g43_9b (S74 : V15 → Option V4) (k0 : Int → Int → Int → Option R) (k1 : Int → Int → Int → Option R) (k2 : Int → Int → Int → Option R) (x0 x1 x2 x3 : Int) (x4 : V15) : Option R :=
(g43_9 S74 (g43_2 (fun y0 y1 y2 y3 y4 y5 y6 y7 => brB y7 (g43_3 k0 y0 y1 y2 y3 y4 y5 y6 y7) ((g43_5 (fun y0 y1 y2 => brB y2 (g43_6 k1 y0 y1 y2) ((g43_8 k2) y0 y1))) y0 y1 y2 y3 y4 y5))) x0 x1 x2 x3 x4)
theorem t43_9b (S74) (h74 : (ctr74 S74).holds cl) (x0 x1 x2 x3 x4) : exec cl N c43_9 (e81 x0 x1 x2 x3 x4) K = (g43_9b S74 (fun y0 y1 y2 => K .ret (e85 y0 y1 y2)) (fun y0 y1 y2 => K .ret (e88 y0 y1 y2)) (fun y0 y1 y2 => K .ret (e84 y0 y1 y2)) x0 x1 x2 x3 x4) := by
 simp only [exec_seq, seqK_normal, seqK_exit, seqK_ret, t43_9 S74 h74, t43_2, c43_4, exec_out, exec_cond', hb43_0, Option.bind_some, brB_true, brB_false, t43_3, exec_ret, exec_skip, kp43_0, kp43_1, t43_5, c43_7, hb43_1, t43_6, kp43_2, kp43_3, t43_8]
 rfl
theorem rk43_0 (y0 y1 y2) : retK d43 .ret (e85 y0 y1 y2) = some [.v U1 y0, .v U1 y1, .v U1 y2] := by kernel_rfl
theorem rk43_1 (y0 y1 y2) : retK d43 .ret (e88 y0 y1 y2) = some [.v U1 y0, .v U1 y1, .v U1 y2] := by kernel_rfl
theorem rk43_2 (y0 y1 y2) : retK d43 .ret (e84 y0 y1 y2) = some [.v U1 y0, .v U1 y1, .v U1 y2] := by kernel_rfl
def g43 (S74 : V15 → Option V4) (x0 x1 x2 x3 : Int) (x4 : V15) (k : Int → Int → Int → Option R) : Option R :=
(g43_9b S74 k k k x0 x1 x2 x3 x4)
theorem gen43 (S74) (h74 : (ctr74 S74).holds cl) (x0 x1 x2 x3 x4) (k : List E → Option R) : exec cl N c43 (e81 x0 x1 x2 x3 x4) (fun e env => (retK d43 e env).bind k) = g43 S74 x0 x1 x2 x3 x4 (fun r0 r1 r2 => k [.v U1 r0, .v U1 r1, .v U1 r2]) := by
 simp only [c43, t43_9b S74 h74, rk43_0, rk43_1, rk43_2, Option.bind_some]
 rfl
def ctr43 (S : Int → Int → Int → Int → V15 → Option V4) : Ctr := cv5 43 U1 U1 U1 U1 U10 S fun b => [.v U1 b.1, .v U1 b.2.1, .v U1 b.2.2]
def S43 (N : Nat) (x0 : Int) (x1 : Int) (x2 : Int) (x3 : Int) (x4 : V15) : Option V4 := g43 (S74 N) x0 x1 x2 x3 x4 (fun (r0 : Int) (r1 : Int) (r2 : Int) => some (r0, r1, r2))
def g102_0 (k0 : V5 → V5 → V5 → V5 → Option R) (x0 x1 : V5) : Option R :=
k0 x0 x1 ([], ()) ([], ())
theorem t102_0 (x0 x1) : exec cl N c102_0 (e52 x0 x1) K = (g102_0 (fun y0 y1 y2 y3 => K .normal (e90 y0 y1 y2 y3)) x0 x1) := by
 kernel_rfl
def g102_1 (S75 : V5 → Option (Bool)) (k0 : V5 → V5 → V5 → V5 → Bool → Option R) (x0 x1 x2 x3 : V5) : Option R :=
(S75 x0).bind fun r338 =>
brB (!r338) (k0 x0 x1 x2 x3 true) ((S75 x1).bind fun r339 =>
k0 x0 x1 x2 x3 (!r339))
theorem t102_1 (S75) (h75 : (ctr75 S75).holds cl) (x0 x1 x2 x3) : exec cl N c102_1 (e90 x0 x1 x2 x3) K = (g102_1 S75 (fun y0 y1 y2 y3 y4 => K .normal (e91 y0 y1 y2 y3 y4)) x0 x1 x2 x3) := by
 rw [← put_eq h75]
 kernel_rfl
def g102_2 (k0 : V5 → V5 → Int → Option R) (x0 x1 x2 x3 : V5) (x4 : Bool) : Option R :=
k0 ([], ()) ([], ()) (1 : Int)
theorem t102_2 (x0 x1 x2 x3 x4) : exec cl N c102_2 (e91 x0 x1 x2 x3 x4) K = (g102_2 (fun y0 y1 y2 => K .normal (e92 y0 y1 y2)) x0 x1 x2 x3 x4) := by
 kernel_rfl
theorem kp102_0 (x0 x1 x2) : keep [2, 3, 4, 5, 6] (e92 x0 x1 x2) = (e93 x0 x1 x2) := by kernel_rfl
def g102_3 (k0 : V5 → V5 → V5 → V5 → Bool → Option R) (x0 x1 x2 x3 : V5) (x4 : Bool) : Option R :=
k0 x0 x1 x2 x3 ((x1.1.length : Int) == (0 : Int))
theorem t102_3 (x0 x1 x2 x3 x4) : exec cl N c102_3 (e91 x0 x1 x2 x3 x4) K = (g102_3 (fun y0 y1 y2 y3 y4 => K .normal (e94 y0 y1 y2 y3 y4)) x0 x1 x2 x3 x4) := by
 kernel_rfl
def g102_4 (k0 : V5 → V5 → Int → Option R) (x0 x1 x2 x3 : V5) (x4 : Bool) : Option R :=
k0 ([], ()) ([], ()) (6 : Int)
theorem t102_4 (x0 x1 x2 x3 x4) : exec cl N c102_4 (e94 x0 x1 x2 x3 x4) K = (g102_4 (fun y0 y1 y2 => K .normal (e92 y0 y1 y2)) x0 x1 x2 x3 x4) := by
 kernel_rfl
theorem kp102_1 (x0 x1 x2 x3 x4) : keep [2, 3, 4, 5, 6] (e94 x0 x1 x2 x3 x4) = (e95 x0 x1 x2 x3) := by kernel_rfl
theorem hb102_0 (x0 x1 x2 x3 x4) : boolOf? (ent (e94 x0 x1 x2 x3 x4) (.t 20)) = some x4 := by kernel_rfl
theorem kp102_2 (x0 x1 x2) : keep [2, 3, 4, 5, 6] (e93 x0 x1 x2) = (e93 x0 x1 x2) := by kernel_rfl
theorem kp102_3 (x0 x1 x2 x3) : keep [2, 3, 4, 5, 6] (e95 x0 x1 x2 x3) = (e95 x0 x1 x2 x3) := by kernel_rfl
theorem hb102_1 (x0 x1 x2 x3 x4) : boolOf? (ent (e91 x0 x1 x2 x3 x4) (.t 9)) = some x4 := by kernel_rfl
def g102_10 (S105 : V0 → Option V7) (S115 : V0 → V0 → Option V8) (k0 : V5 → V5 → Int → Option R) (x0 x1 x2 x3 : V5) : Option R :=
(S115 x0.1 x1.1).bind fun r342 =>
(S105 r342.1).bind fun r343 =>
(S105 r342.2).bind fun r344 =>
k0 r343 r344 (0 : Int)
theorem t102_10 (S105) (S115) (h105 : (ctr105 S105).holds cl) (h115 : (ctr115 S115).holds cl) (x0 x1 x2 x3) : exec cl N c102_10 (e95 x0 x1 x2 x3) K = (g102_10 S105 S115 (fun y0 y1 y2 => exec cl N .ret (e96 y0 y1 y2) K) x0 x1 x2 x3) := by
 rw [← put_eq h105]
 rw [← put_eq h115]
 kernel_rfl
def g102_11 (S75 : V5 → Option (Bool)) (S105 : V0 → Option V7) (S115 : V0 → V0 → Option V8) (k0 : V5 → V5 → Int → Option R) (k1 : V5 → V5 → Int → Option R) (x0 x1 : V5) : Option R :=
(g102_0 (g102_1 S75 (fun y0 y1 y2 y3 y4 => brB y4 (g102_2 k0 y0 y1 y2 y3 y4) (g102_3 (fun y0 y1 y2 y3 y4 => brB y4 (g102_4 k0 y0 y1 y2 y3 y4) ((((g102_10 S105 S115 k1))) y0 y1 y2 y3)) y0 y1 y2 y3 y4))) x0 x1)
theorem t102_11 (S75) (S105) (S115) (h75 : (ctr75 S75).holds cl) (h105 : (ctr105 S105).holds cl) (h115 : (ctr115 S115).holds cl) (x0 x1) : exec cl N c102_11 (e52 x0 x1) K = (g102_11 S75 S105 S115 (fun y0 y1 y2 => K .ret (e93 y0 y1 y2)) (fun y0 y1 y2 => K .ret (e96 y0 y1 y2)) x0 x1) := by
 simp only [c102_11, exec_seq, seqK_normal, seqK_exit, seqK_ret, t102_0, c102_7, exec_out, exec_block, t102_1 S75 h75, c102_6, exec_cond', hb102_1, Option.bind_some, brB_true, brB_false, t102_2, exec_ret, t102_3, c102_5, hb102_0, t102_4, exec_skip, kp102_0, kp102_1, kp102_2, kp102_3, blockK_normal, blockK_ret, blockK_eq, t102_10 S105 S115 h105 h115]
 rfl
theorem rk102_0 (y0 y1 y2) : retK d102 .ret (e93 y0 y1 y2) = some [.v U4 y0, .v U4 y1, .v U1 y2] := by kernel_rfl
theorem rk102_1 (y0 y1 y2) : retK d102 .ret (e96 y0 y1 y2) = some [.v U4 y0, .v U4 y1, .v U1 y2] := by kernel_rfl
def g102 (S75 : V5 → Option (Bool)) (S105 : V0 → Option V7) (S115 : V0 → V0 → Option V8) (x0 x1 : V5) (k : V5 → V5 → Int → Option R) : Option R :=
(g102_11 S75 S105 S115 k k x0 x1)
theorem gen102 (S75) (S105) (S115) (h75 : (ctr75 S75).holds cl) (h105 : (ctr105 S105).holds cl) (h115 : (ctr115 S115).holds cl) (x0 x1) (k : List E → Option R) : exec cl N c102 (e52 x0 x1) (fun e env => (retK d102 e env).bind k) = g102 S75 S105 S115 x0 x1 (fun r0 r1 r2 => k [.v U4 r0, .v U4 r1, .v U1 r2]) := by
 simp only [c102, t102_11 S75 S105 S115 h75 h105 h115, rk102_0, rk102_1, Option.bind_some]
 rfl
def ctr102 (S : V5 → V5 → Option V13) : Ctr := cv2 102 U4 U4 S fun b => [.v U4 b.1, .v U4 b.2.1, .v U1 b.2.2]
def S102 (N : Nat) (x0 : V5) (x1 : V5) : Option V13 := g102 (S75 N) (S105 N) (S115 N) x0 x1 (fun (r0 : V5) (r1 : V5) (r2 : Int) => some (r0, r1, r2))
def g77_5 (S76 : V5 → Option (Bool)) (S101 : V5 → V5 → Option V10) (S102 : V5 → V5 → Option V13) (k0 : V15 → Option R) (x0 : Bool) (x1 x2 : V5) : Option R :=
(S101 x1 x2).bind fun r361 =>
(S102 x1 r361.1).bind fun r362 =>
(S102 x2 r361.1).bind fun r363 =>
brB x0 ((S76 r362.1).bind fun r364 =>
k0 ((!r364), r362.1, r363.1, ())) (k0 (false, r362.1, r363.1, ()))
theorem t77_5 (S76) (S101) (S102) (h76 : (ctr76 S76).holds cl) (h101 : (ctr101 S101).holds cl) (h102 : (ctr102 S102).holds cl) (x0 x1 x2) : exec cl N c77_5 (e97 x0 x1 x2) K = (g77_5 S76 S101 S102 (fun y0 => exec cl N .ret [(6, .loc U10 .no y0)] K) x0 x1 x2) := by
 rw [← put_eq h76]
 rw [← put_eq h101]
 rw [← put_eq h102]
 kernel_rfl
def g77_5b (S76 : V5 → Option (Bool)) (S101 : V5 → V5 → Option V10) (S102 : V5 → V5 → Option V13) (k0 : V15 → Option R) (x0 : Bool) (x1 x2 : V5) : Option R :=
(g77_5 S76 S101 S102 k0 x0 x1 x2)
theorem t77_5b (S76) (S101) (S102) (h76 : (ctr76 S76).holds cl) (h101 : (ctr101 S101).holds cl) (h102 : (ctr102 S102).holds cl) (x0 x1 x2) : exec cl N c77_5 (e97 x0 x1 x2) K = (g77_5b S76 S101 S102 (fun y0 => K .ret [(6, .loc U10 .no y0)]) x0 x1 x2) := by
 simp only [exec_seq, seqK_normal, seqK_exit, seqK_ret, t77_5 S76 S101 S102 h76 h101 h102, exec_ret]
 rfl
theorem rk77_0 (y0) : retK d77 .ret [(6, .loc U10 .no y0)] = some [.v U10 y0] := by kernel_rfl
def g77 (S76 : V5 → Option (Bool)) (S101 : V5 → V5 → Option V10) (S102 : V5 → V5 → Option V13) (x0 : Bool) (x1 x2 : V5) (k : V15 → Option R) : Option R :=
(g77_5b S76 S101 S102 k x0 x1 x2)
theorem gen77 (S76) (S101) (S102) (h76 : (ctr76 S76).holds cl) (h101 : (ctr101 S101).holds cl) (h102 : (ctr102 S102).holds cl) (x0 x1 x2) (k : List E → Option R) : exec cl N c77 (e97 x0 x1 x2) (fun e env => (retK d77 e env).bind k) = g77 S76 S101 S102 x0 x1 x2 (fun r0 => k [.v U10 r0]) := by
 simp only [c77, t77_5b S76 S101 S102 h76 h101 h102, rk77_0, Option.bind_some]
 rfl
def ctr77 (S : Bool → V5 → V5 → Option V16) : Ctr := cv3 77 .bool U4 U4 S fun b => [.v U10 b]
def S77 (N : Nat) (x0 : Bool) (x1 : V5) (x2 : V5) : Option V16 := g77 (S76 N) (S101 N) (S102 N) x0 x1 x2 (fun (r0 : V15) => some (r0))
def g68_0 (k0 : Int → Int → V15 → Option R) (x0 x1 : Int) : Option R :=
k0 x0 x1 (false, (([], ()), (([], ()), ())))
theorem t68_0 (x0 x1) : exec cl N c68_0 (e98 x0 x1) K = (g68_0 (fun y0 y1 y2 => K .normal (e99 y0 y1 y2)) x0 x1) := by
 kernel_rfl
def g68_1 (k0 : Int → Int → V15 → Bool → Option R) (x0 x1 : Int) (x2 : V15) : Option R :=
k0 x0 x1 x2 (x1 == (0 : Int))
theorem t68_1 (x0 x1 x2) : exec cl N c68_1 (e99 x0 x1 x2) K = (g68_1 (fun y0 y1 y2 y3 => K .normal (e100 y0 y1 y2 y3)) x0 x1 x2) := by
 kernel_rfl
def g68_2 (k0 : V15 → Int → Option R) (x0 x1 : Int) (x2 : V15) (x3 : Bool) : Option R :=
k0 (false, ([], ()), ([], ()), ()) (6 : Int)
theorem t68_2 (x0 x1 x2 x3) : exec cl N c68_2 (e100 x0 x1 x2 x3) K = (g68_2 (fun y0 y1 => K .normal (e101 y0 y1)) x0 x1 x2 x3) := by
 kernel_rfl
theorem kp68_0 (x0 x1) : keep [0, 1, 4, 5] (e101 x0 x1) = (e102 x0 x1) := by kernel_rfl
theorem kp68_1 (x0 x1 x2 x3) : keep [0, 1, 4, 5] (e100 x0 x1 x2 x3) = (e103 x0 x1 x2) := by kernel_rfl
theorem hb68_0 (x0 x1 x2 x3) : boolOf? (ent (e100 x0 x1 x2 x3) (.t 7)) = some x3 := by kernel_rfl
def g68_4 (k0 : Int → Int → V15 → Bool → Option R) (x0 x1 : Int) (x2 : V15) : Option R :=
brB (decide ((if x1 > x0 then x1 else x0) > (1000000000000000 : Int))) (k0 x0 x1 x2 true) (k0 x0 x1 x2 (decide ((if x1 < x0 then x1 else x0) < (-1000000000000000 : Int))))
theorem t68_4 (x0 x1 x2) : exec cl N c68_4 (e103 x0 x1 x2) K = (g68_4 (fun y0 y1 y2 y3 => K .normal (e104 y0 y1 y2 y3)) x0 x1 x2) := by
 kernel_rfl
def g68_5 (k0 : V15 → Int → Option R) (x0 x1 : Int) (x2 : V15) (x3 : Bool) : Option R :=
k0 (false, ([], ()), ([], ()), ()) (3 : Int)
theorem t68_5 (x0 x1 x2 x3) : exec cl N c68_5 (e104 x0 x1 x2 x3) K = (g68_5 (fun y0 y1 => K .normal (e101 y0 y1)) x0 x1 x2 x3) := by
 kernel_rfl
theorem kp68_2 (x0 x1 x2 x3) : keep [0, 1, 4, 5] (e104 x0 x1 x2 x3) = (e103 x0 x1 x2) := by kernel_rfl
theorem hb68_1 (x0 x1 x2 x3) : boolOf? (ent (e104 x0 x1 x2 x3) (.t 18)) = some x3 := by kernel_rfl
def g68_7 (S77 : Bool → V5 → V5 → Option V16) (S95 : Int → Option V7) (k0 : V15 → Int → Option R) (x0 x1 : Int) (x2 : V15) : Option R :=
let v378 : Int := (IntKind.i64.wrap (0 - x0))
(S95 (if v378 > x0 then v378 else x0)).bind fun r380 =>
let v381 : Int := (IntKind.i64.wrap (0 - x1))
(S95 (if v381 > x1 then v381 else x1)).bind fun r383 =>
(S77 (!((decide (x0 < (0 : Int))) == (decide (x1 < (0 : Int))))) r380 r383).bind fun r384 =>
k0 r384 (0 : Int)
theorem t68_7 (S77) (S95) (h77 : (ctr77 S77).holds cl) (h95 : (ctr95 S95).holds cl) (x0 x1 x2) : exec cl N c68_7 (e103 x0 x1 x2) K = (g68_7 S77 S95 (fun y0 y1 => K .normal (e101 y0 y1)) x0 x1 x2) := by
 rw [← put_eq h77]
 rw [← put_eq h95]
 kernel_rfl
def g68_8 (S77 : Bool → V5 → V5 → Option V16) (S95 : Int → Option V7) (k0 : V15 → Int → Option R) (k1 : V15 → Int → Option R) (x0 x1 : Int) : Option R :=
(g68_0 (g68_1 (fun y0 y1 y2 y3 => brB y3 (g68_2 k0 y0 y1 y2 y3) ((g68_4 (fun y0 y1 y2 y3 => brB y3 (g68_5 k0 y0 y1 y2 y3) ((g68_7 S77 S95 k1) y0 y1 y2))) y0 y1 y2))) x0 x1)
theorem t68_8 (S77) (S95) (h77 : (ctr77 S77).holds cl) (h95 : (ctr95 S95).holds cl) (x0 x1) : exec cl N c68_8 (e98 x0 x1) K = (g68_8 S77 S95 (fun y0 y1 => K .ret (e102 y0 y1)) (fun y0 y1 => K .ret (e101 y0 y1)) x0 x1) := by
 simp only [c68_8, exec_seq, seqK_normal, seqK_exit, seqK_ret, t68_0, t68_1, c68_3, exec_out, exec_cond', hb68_0, Option.bind_some, brB_true, brB_false, t68_2, exec_ret, exec_skip, kp68_0, kp68_1, t68_4, c68_6, hb68_1, t68_5, kp68_2, t68_7 S77 S95 h77 h95]
 rfl
theorem rk68_0 (y0 y1) : retK d68 .ret (e102 y0 y1) = some [.v U10 y0, .v U1 y1] := by kernel_rfl
theorem rk68_1 (y0 y1) : retK d68 .ret (e101 y0 y1) = some [.v U10 y0, .v U1 y1] := by kernel_rfl
def g68 (S77 : Bool → V5 → V5 → Option V16) (S95 : Int → Option V7) (x0 x1 : Int) (k : V15 → Int → Option R) : Option R :=
(g68_8 S77 S95 k k x0 x1)
theorem gen68 (S77) (S95) (h77 : (ctr77 S77).holds cl) (h95 : (ctr95 S95).holds cl) (x0 x1) (k : List E → Option R) : exec cl N c68 (e98 x0 x1) (fun e env => (retK d68 e env).bind k) = g68 S77 S95 x0 x1 (fun r0 r1 => k [.v U10 r0, .v U1 r1]) := by
 simp only [c68, t68_8 S77 S95 h77 h95, rk68_0, rk68_1, Option.bind_some]
 rfl
def ctr68 (S : Int → Int → Option V18) : Ctr := cv2 68 U1 U1 S fun b => [.v U10 b.1, .v U1 b.2]
def S68 (N : Nat) (x0 : Int) (x1 : Int) : Option V18 := g68 (S77 N) (S95 N) x0 x1 (fun (r0 : V15) (r1 : Int) => some (r0, r1))
def g36_9 (S43 : Int → Int → Int → Int → V15 → Option V4) (k0 : Int → Int → V15 → Int → Int → Int → Option R) (x0 x1 : Int) (x2 : V15) : Option R :=
(S43 x0 x1 (200 : Int) (IntKind.i64.wrap (x0 - (1 : Int))) x2).bind fun r387 =>
k0 x0 x1 (false, (([], ()), (([], ()), ()))) r387.1 r387.2.1 r387.2.2
theorem t36_9 (S43) (h43 : (ctr43 S43).holds cl) (x0 x1 x2) : exec cl N c36_9 (e105 x0 x1 x2) K = (g36_9 S43 (fun y0 y1 y2 y3 y4 y5 => exec cl N (.seq (.seq c36_2 c36_4) (.seq (.seq c36_5 c36_7) (.seq c36_8 .ret))) (e106 y0 y1 y2 y3 y4 y5) K) x0 x1 x2) := by
 rw [← put_eq h43]
 kernel_rfl
def g36_2 (k0 : Int → Int → V15 → Int → Int → Int → Bool → Option R) (x0 x1 : Int) (x2 : V15) (x3 x4 x5 : Int) : Option R :=
k0 x0 x1 x2 x3 x4 x5 (x5 != (0 : Int))
theorem t36_2 (x0 x1 x2 x3 x4 x5) : exec cl N c36_2 (e106 x0 x1 x2 x3 x4 x5) K = (g36_2 (fun y0 y1 y2 y3 y4 y5 y6 => K .normal (e107 y0 y1 y2 y3 y4 y5 y6)) x0 x1 x2 x3 x4 x5) := by
 kernel_rfl
def g36_3 (k0 : V15 → Int → Option R) (x0 x1 : Int) (x2 : V15) (x3 x4 x5 : Int) (x6 : Bool) : Option R :=
k0 (false, ([], ()), ([], ()), ()) x5
theorem t36_3 (x0 x1 x2 x3 x4 x5 x6) : exec cl N c36_3 (e107 x0 x1 x2 x3 x4 x5 x6) K = (g36_3 (fun y0 y1 => K .normal (e108 y0 y1)) x0 x1 x2 x3 x4 x5 x6) := by
 kernel_rfl
theorem kp36_0 (x0 x1) : keep [0, 1, 6, 7, 8, 9] (e108 x0 x1) = (e109 x0 x1) := by kernel_rfl
theorem kp36_1 (x0 x1 x2 x3 x4 x5 x6) : keep [0, 1, 6, 7, 8, 9] (e107 x0 x1 x2 x3 x4 x5 x6) = (e110 x0 x1 x2 x3 x4) := by kernel_rfl
theorem hb36_0 (x0 x1 x2 x3 x4 x5 x6) : boolOf? (ent (e107 x0 x1 x2 x3 x4 x5 x6) (.t 22)) = some x6 := by kernel_rfl
def g36_5 (k0 : Int → Int → V15 → Int → Int → Bool → Option R) (x0 x1 : Int) (x2 : V15) (x3 x4 : Int) : Option R :=
brB (x3 == x4) (k0 x0 x1 x2 x3 x4 true) (brB (x3 == (0 : Int)) (k0 x0 x1 x2 x3 x4 (decide (x1 > (0 : Int)))) (k0 x0 x1 x2 x3 x4 false))
theorem t36_5 (x0 x1 x2 x3 x4) : exec cl N c36_5 (e110 x0 x1 x2 x3 x4) K = (g36_5 (fun y0 y1 y2 y3 y4 y5 => K .normal (e111 y0 y1 y2 y3 y4 y5)) x0 x1 x2 x3 x4) := by
 kernel_rfl
def g36_6 (k0 : V15 → Int → Option R) (x0 x1 : Int) (x2 : V15) (x3 x4 : Int) (x5 : Bool) : Option R :=
k0 (false, ([], ()), ([], ()), ()) (10 : Int)
theorem t36_6 (x0 x1 x2 x3 x4 x5) : exec cl N c36_6 (e111 x0 x1 x2 x3 x4 x5) K = (g36_6 (fun y0 y1 => K .normal (e108 y0 y1)) x0 x1 x2 x3 x4 x5) := by
 kernel_rfl
theorem kp36_2 (x0 x1 x2 x3 x4 x5) : keep [0, 1, 6, 7, 8, 9] (e111 x0 x1 x2 x3 x4 x5) = (e110 x0 x1 x2 x3 x4) := by kernel_rfl
theorem hb36_1 (x0 x1 x2 x3 x4 x5) : boolOf? (ent (e111 x0 x1 x2 x3 x4 x5) (.t 35)) = some x5 := by kernel_rfl
def g36_8 (S68 : Int → Int → Option V18) (k0 : V15 → Int → Option R) (x0 x1 : Int) (x2 : V15) (x3 x4 : Int) : Option R :=
(S68 (IntKind.i64.wrap ((IntKind.i64.wrap (x0 - x1)) * x3)) (IntKind.i64.wrap ((IntKind.i64.wrap (x1 + (1 : Int))) * (IntKind.i64.wrap (x4 - x3))))).bind fun r398 =>
k0 r398.1 r398.2
theorem t36_8 (S68) (h68 : (ctr68 S68).holds cl) (x0 x1 x2 x3 x4) : exec cl N c36_8 (e110 x0 x1 x2 x3 x4) K = (g36_8 S68 (fun y0 y1 => K .normal (e108 y0 y1)) x0 x1 x2 x3 x4) := by
 rw [← put_eq h68]
 kernel_rfl
def g36_9b (S43 : Int → Int → Int → Int → V15 → Option V4) (S68 : Int → Int → Option V18) (k0 : V15 → Int → Option R) (k1 : V15 → Int → Option R) (x0 x1 : Int) (x2 : V15) : Option R :=
(g36_9 S43 (g36_2 (fun y0 y1 y2 y3 y4 y5 y6 => brB y6 (g36_3 k0 y0 y1 y2 y3 y4 y5 y6) ((g36_5 (fun y0 y1 y2 y3 y4 y5 => brB y5 (g36_6 k0 y0 y1 y2 y3 y4 y5) ((g36_8 S68 k1) y0 y1 y2 y3 y4))) y0 y1 y2 y3 y4))) x0 x1 x2)
theorem t36_9b (S43) (S68) (h43 : (ctr43 S43).holds cl) (h68 : (ctr68 S68).holds cl) (x0 x1 x2) : exec cl N c36_9 (e105 x0 x1 x2) K = (g36_9b S43 S68 (fun y0 y1 => K .ret (e109 y0 y1)) (fun y0 y1 => K .ret (e108 y0 y1)) x0 x1 x2) := by
 simp only [exec_seq, seqK_normal, seqK_exit, seqK_ret, t36_9 S43 h43, t36_2, c36_4, exec_out, exec_cond', hb36_0, Option.bind_some, brB_true, brB_false, t36_3, exec_ret, exec_skip, kp36_0, kp36_1, t36_5, c36_7, hb36_1, t36_6, kp36_2, t36_8 S68 h68]
 rfl
theorem rk36_0 (y0 y1) : retK d36 .ret (e109 y0 y1) = some [.v U10 y0, .v U1 y1] := by kernel_rfl
theorem rk36_1 (y0 y1) : retK d36 .ret (e108 y0 y1) = some [.v U10 y0, .v U1 y1] := by kernel_rfl
def g36 (S43 : Int → Int → Int → Int → V15 → Option V4) (S68 : Int → Int → Option V18) (x0 x1 : Int) (x2 : V15) (k : V15 → Int → Option R) : Option R :=
(g36_9b S43 S68 k k x0 x1 x2)
theorem gen36 (S43) (S68) (h43 : (ctr43 S43).holds cl) (h68 : (ctr68 S68).holds cl) (x0 x1 x2) (k : List E → Option R) : exec cl N c36 (e105 x0 x1 x2) (fun e env => (retK d36 e env).bind k) = g36 S43 S68 x0 x1 x2 (fun r0 r1 => k [.v U10 r0, .v U1 r1]) := by
 simp only [c36, t36_9b S43 S68 h43 h68, rk36_0, rk36_1, Option.bind_some]
 rfl
def ctr36 (S : Int → Int → V15 → Option V18) : Ctr := cv3 36 U1 U1 U10 S fun b => [.v U10 b.1, .v U1 b.2]
def S36 (N : Nat) (x0 : Int) (x1 : Int) (x2 : V15) : Option V18 := g36 (S43 N) (S68 N) x0 x1 x2 (fun (r0 : V15) (r1 : Int) => some (r0, r1))
def g86_17 (k0 : V5 → Int → Option R) (x0 : V5) : Option R :=
k0 x0 (x0.1.length : Int)
theorem t86_17 (x0) : exec cl N c86_17 [(0, .v U4 x0)] K = (g86_17 (fun y0 y1 => exec cl N (.seq (.seq c86_2 c86_4) (.seq (.seq c86_5 c86_15) (.seq c86_16 .ret))) [(1, .loc U4 .no y0), (3, .v U1 y1)] K) x0) := by
 kernel_rfl
def g86_2 (k0 : V5 → Int → Bool → Option R) (x0 : V5) (x1 : Int) : Option R :=
brB (decide (x1 > (200 : Int))) (k0 x0 x1 true) (brB (decide (x1 > (0 : Int))) (let v412 : Int := (IntKind.i64.wrap (x1 - (1 : Int)))
if 0 ≤ v412 ∧ v412 < (x0.1.length : Int) then
k0 x0 x1 ((x0.1.getD v412.toNat (0 : Int)) == (0 : Int))
else none) (k0 x0 x1 false))
theorem t86_2 (x0 x1) : exec cl N c86_2 [(1, .loc U4 .no x0), (3, .v U1 x1)] K = (g86_2 (fun y0 y1 y2 => K .normal (e112 y0 y1 y2)) x0 x1) := by
 kernel_rfl
def g86_3 (k0 : Bool → Option R) (x0 : V5) (x1 : Int) (x2 : Bool) : Option R :=
k0 false
theorem t86_3 (x0 x1 x2) : exec cl N c86_3 (e112 x0 x1 x2) K = (g86_3 (fun y0 => K .normal [(2, .v .bool y0)]) x0 x1 x2) := by
 kernel_rfl
theorem kp86_0 (x0) : keep [1, 2, 3] [(2, .v .bool x0)] = (e113 x0) := by kernel_rfl
theorem kp86_1 (x0 x1 x2) : keep [1, 2, 3] (e112 x0 x1 x2) = [(1, .loc U4 .no x0), (2, .dead), (3, .v U1 x1)] := by kernel_rfl
theorem hb86_0 (x0 x1 x2) : boolOf? (ent (e112 x0 x1 x2) (.t 22)) = some x2 := by kernel_rfl
def g86_5 (k0 : V5 → Int → Int → Option R) (x0 : V5) (x1 : Int) : Option R :=
k0 x0 x1 (0 : Int)
theorem t86_5 (x0 x1) : exec cl N c86_5 [(1, .loc U4 .no x0), (2, .dead), (3, .v U1 x1)] K = (g86_5 (fun y0 y1 y2 => K .normal (e114 y0 y1 y2)) x0 x1) := by
 kernel_rfl
theorem kp86_2 (x0 x1 x2) : keep [1, 3, 4] (e114 x0 x1 x2) = (e114 x0 x1 x2) := by kernel_rfl
def g86_6 (k0 : V5 → Int → Int → Bool → Option R) (x0 : V5) (x1 x2 : Int) : Option R :=
k0 x0 x1 x2 (decide (x2 < x1))
theorem t86_6 (x0 x1 x2) : exec cl N c86_6 (e114 x0 x1 x2) K = (g86_6 (fun y0 y1 y2 y3 => K .normal (e115 y0 y1 y2 y3)) x0 x1 x2) := by
 kernel_rfl
theorem kp86_3 (x0 x1 x2 x3) : keep [1, 3, 4] (e115 x0 x1 x2 x3) = (e114 x0 x1 x2) := by kernel_rfl
theorem hb86_1 (x0 x1 x2 x3) : boolOf? (ent (e115 x0 x1 x2 x3) (.t 25)) = some x3 := by kernel_rfl
def g86_8 (k0 : V5 → Int → Int → Bool → Option R) (x0 : V5) (x1 x2 : Int) : Option R :=
if 0 ≤ x2 ∧ x2 < (x0.1.length : Int) then
brB (decide ((x0.1.getD x2.toNat (0 : Int)) < (0 : Int))) (k0 x0 x1 x2 true) (if 0 ≤ x2 ∧ x2 < (x0.1.length : Int) then
k0 x0 x1 x2 (decide ((x0.1.getD x2.toNat (0 : Int)) ≥ (10000 : Int)))
else none)
else none
theorem t86_8 (x0 x1 x2) : exec cl N c86_8 (e114 x0 x1 x2) K = (g86_8 (fun y0 y1 y2 y3 => K .normal (e116 y0 y1 y2 y3)) x0 x1 x2) := by
 kernel_rfl
def g86_9 (k0 : Bool → Option R) (x0 : V5) (x1 x2 : Int) (x3 : Bool) : Option R :=
k0 false
theorem t86_9 (x0 x1 x2 x3) : exec cl N c86_9 (e116 x0 x1 x2 x3) K = (g86_9 (fun y0 => K .normal [(2, .v .bool y0)]) x0 x1 x2 x3) := by
 kernel_rfl
theorem kp86_4 (x0) : keep [1, 2, 3, 4] [(2, .v .bool x0)] = (e117 x0) := by kernel_rfl
theorem kp86_5 (x0 x1 x2 x3) : keep [1, 2, 3, 4] (e116 x0 x1 x2 x3) = (e118 x0 x1 x2) := by kernel_rfl
theorem hb86_2 (x0 x1 x2 x3) : boolOf? (ent (e116 x0 x1 x2 x3) (.t 41)) = some x3 := by kernel_rfl
theorem kp86_6 (x0) : keep [1, 2, 3, 4] (e117 x0) = (e117 x0) := by kernel_rfl
theorem kp86_7 (x0 x1 x2) : keep [1, 2, 3, 4] (e118 x0 x1 x2) = (e118 x0 x1 x2) := by kernel_rfl
def g86_12 (k0 : V5 → Int → Int → Option R) (x0 : V5) (x1 x2 : Int) : Option R :=
k0 x0 x1 (IntKind.i64.wrap (x2 + (1 : Int)))
theorem t86_12 (x0 x1 x2) : exec cl N c86_12 (e118 x0 x1 x2) K = (g86_12 (fun y0 y1 y2 => K .normal (e114 y0 y1 y2)) x0 x1 x2) := by
 kernel_rfl
def g86_13 (k0 : Bool → Option R) (k1 : V5 → Int → Int → Option R) (k2 : V5 → Int → Int → Option R) (x0 : V5) (x1 x2 : Int) : Option R :=
(g86_6 (fun y0 y1 y2 y3 => brB y3 ((g86_8 (fun y0 y1 y2 y3 => brB y3 (g86_9 k0 y0 y1 y2 y3) (((g86_12 k1)) y0 y1 y2))) y0 y1 y2) (k2 y0 y1 y2)) x0 x1 x2)
theorem t86_13 (x0 x1 x2) : exec cl N c86_13 (e114 x0 x1 x2) K = (g86_13 (fun y0 => K .ret (e117 y0)) (fun y0 y1 y2 => K .normal (e114 y0 y1 y2)) (fun y0 y1 y2 => K (.exit 0) (e114 y0 y1 y2)) x0 x1 x2) := by
 simp only [c86_13, exec_seq, seqK_normal, seqK_exit, seqK_ret, t86_6, c86_7, exec_out, exec_cond', hb86_1, Option.bind_some, brB_true, brB_false, exec_skip, exec_exit, kp86_3, c86_11, exec_block, t86_8, c86_10, hb86_2, t86_9, exec_ret, kp86_4, kp86_5, blockK_normal, blockK_ret, blockK_eq, kp86_6, kp86_7, t86_12]
 rfl
def l86_14 {R : Type} (k0 : Bool → Option R) (k1 : V5 → Int → Int → Option R) : Nat → V5 → Int → Int → Option R
 | 0, _, _, _ => none
 | m + 1, x0, x1, x2 => (g86_13 k0 (l86_14 k0 k1 m) k1 x0 x1 x2)
theorem lt86_14 : ∀ (m) (x0 x1 x2), iter [1, 3, 4] (fun env K => exec cl N c86_13 env K) K m (e114 x0 x1 x2) = l86_14 (fun y0 => K .ret (e117 y0)) (fun y0 y1 y2 => K (.exit 0) (e114 y0 y1 y2)) m x0 x1 x2 := by
 intro m
 induction m with
 | zero => intros; rfl
 | succ m ih =>
   intro x0 x1 x2
   simp only [iter_succ, t86_13, loopK_normal, loopK_exit, loopK_ret, kp86_2, ih]
   rfl
theorem kp86_8 (x0) : keep [2] (e117 x0) = [(2, .v .bool x0)] := by kernel_rfl
theorem kp86_9 (x0 x1 x2) : keep [2] (e114 x0 x1 x2) = [(2, .dead)] := by kernel_rfl
def g86_14 (N : Nat) (k0 : Bool → Option R) (k1 : Option R) (x0 : V5) (x1 x2 : Int) : Option R :=
l86_14 k0 (fun y0 y1 y2 => k1) N x0 x1 x2
theorem t86_14 (x0 x1 x2) : exec cl N c86_14 (e114 x0 x1 x2) K = (g86_14 N (fun y0 => K .ret [(2, .v .bool y0)]) (K (.exit 0) [(2, .dead)]) x0 x1 x2) := by
 simp only [c86_14, exec_out, exec_loop, kp86_2, lt86_14, kp86_8, kp86_9]
 rfl
theorem kp86_10 (x0) : keep [2] [(2, .v .bool x0)] = [(2, .v .bool x0)] := by kernel_rfl
theorem kp86_11 : keep [2] [(2, .dead)] = [(2, .dead)] := by kernel_rfl
def g86_16 (k0 : Bool → Option R) : Option R :=
k0 true
theorem t86_16 : exec cl N c86_16 [(2, .dead)] K = (g86_16 (fun y0 => K .normal [(2, .v .bool y0)])) := by
 kernel_rfl
def g86_17b (N : Nat) (k0 : Bool → Option R) (k1 : Bool → Option R) (x0 : V5) : Option R :=
(g86_17 (g86_2 (fun y0 y1 y2 => brB y2 (g86_3 k0 y0 y1 y2) ((g86_5 (g86_14 N k1 (g86_16 k1))) y0 y1))) x0)
theorem t86_17b (x0) : exec cl N c86_17 [(0, .v U4 x0)] K = (g86_17b N (fun y0 => K .ret (e113 y0)) (fun y0 => K .ret [(2, .v .bool y0)]) x0) := by
 simp only [exec_seq, seqK_normal, seqK_exit, seqK_ret, t86_17, t86_2, c86_4, exec_out, exec_cond', hb86_0, Option.bind_some, brB_true, brB_false, t86_3, exec_ret, exec_skip, kp86_0, kp86_1, t86_5, c86_15, exec_block, t86_14, blockK_normal, blockK_ret, blockK_eq, kp86_10, kp86_11, t86_16]
 rfl
theorem rk86_0 (y0) : retK d86 .ret (e113 y0) = some [.v .bool y0] := by kernel_rfl
theorem rk86_1 (y0) : retK d86 .ret [(2, .v .bool y0)] = some [.v .bool y0] := by kernel_rfl
def g86 (N : Nat) (x0 : V5) (k : Bool → Option R) : Option R :=
(g86_17b N k k x0)
theorem gen86 (x0) (k : List E → Option R) : exec cl N c86 [(0, .v U4 x0)] (fun e env => (retK d86 e env).bind k) = g86 N x0 (fun r0 => k [.v .bool r0]) := by
 simp only [c86, t86_17b, rk86_0, rk86_1, Option.bind_some]
 rfl
def ctr86 (S : V5 → Option (Bool)) : Ctr := cv1 86 U4 S fun b => [.v .bool b]
def S86 (N : Nat) (x0 : V5) : Option (Bool) := g86 N x0 (fun (r0 : Bool) => some (r0))
def g56_2 (k0 : Bool → Option R) (x0 : V5) : Option R :=
k0 ((x0.1.length : Int) == (0 : Int))
theorem t56_2 (x0) : exec cl N c56_2 [(0, .v U4 x0)] K = (g56_2 (fun y0 => exec cl N .ret [(2, .v .bool y0)] K) x0) := by
 kernel_rfl
def g56_2b (k0 : Bool → Option R) (x0 : V5) : Option R :=
(g56_2 k0 x0)
theorem t56_2b (x0) : exec cl N c56_2 [(0, .v U4 x0)] K = (g56_2b (fun y0 => K .ret [(2, .v .bool y0)]) x0) := by
 simp only [exec_seq, seqK_normal, seqK_exit, seqK_ret, t56_2, exec_ret]
 rfl
theorem rk56_0 (y0) : retK d56 .ret [(2, .v .bool y0)] = some [.v .bool y0] := by kernel_rfl
def g56 (x0 : V5) (k : Bool → Option R) : Option R :=
(g56_2b k x0)
theorem gen56 (x0) (k : List E → Option R) : exec cl N c56 [(0, .v U4 x0)] (fun e env => (retK d56 e env).bind k) = g56 x0 (fun r0 => k [.v .bool r0]) := by
 simp only [c56, t56_2b, rk56_0, Option.bind_some]
 rfl
def ctr56 (S : V5 → Option (Bool)) : Ctr := cv1 56 U4 S fun b => [.v .bool b]
def S56 (N : Nat) (x0 : V5) : Option (Bool) := g56 x0 (fun (r0 : Bool) => some (r0))
def g108_2 (k0 : Bool → Option R) (x0 : V0) : Option R :=
brB ((x0.length : Int) == (0 : Int)) (k0 true) (if 0 ≤ (0 : Int) ∧ (0 : Int) < (x0.length : Int) then
k0 ((Int.tmod (x0.getD (0 : Int).toNat (0 : Int)) (2 : Int)) == (0 : Int))
else none)
theorem t108_2 (x0) : exec cl N c108_2 [(0, .v U2 x0)] K = (g108_2 (fun y0 => exec cl N .ret [(2, .v .bool y0)] K) x0) := by
 kernel_rfl
def g108_2b (k0 : Bool → Option R) (x0 : V0) : Option R :=
(g108_2 k0 x0)
theorem t108_2b (x0) : exec cl N c108_2 [(0, .v U2 x0)] K = (g108_2b (fun y0 => K .ret [(2, .v .bool y0)]) x0) := by
 simp only [exec_seq, seqK_normal, seqK_exit, seqK_ret, t108_2, exec_ret]
 rfl
theorem rk108_0 (y0) : retK d108 .ret [(2, .v .bool y0)] = some [.v .bool y0] := by kernel_rfl
def g108 (x0 : V0) (k : Bool → Option R) : Option R :=
(g108_2b k x0)
theorem gen108 (x0) (k : List E → Option R) : exec cl N c108 [(0, .v U2 x0)] (fun e env => (retK d108 e env).bind k) = g108 x0 (fun r0 => k [.v .bool r0]) := by
 simp only [c108, t108_2b, rk108_0, Option.bind_some]
 rfl
def ctr108 (S : V0 → Option (Bool)) : Ctr := cv1 108 U2 S fun b => [.v .bool b]
def S108 (N : Nat) (x0 : V0) : Option (Bool) := g108 x0 (fun (r0 : Bool) => some (r0))
def g113_0 (k0 : V0 → Option R) (x0 : V0) : Option R :=
k0 x0
theorem t113_0 (x0) : exec cl N c113_0 [(0, .v U2 x0)] K = (g113_0 (fun y0 => K .normal [(0, .v U2 y0)]) x0) := by
 kernel_rfl
theorem kp113_0 (x0) : keep [0] [(0, .v U2 x0)] = [(0, .v U2 x0)] := by kernel_rfl
def g113_1 (k0 : V0 → Bool → Option R) (x0 : V0) : Option R :=
brB (decide ((x0.length : Int) > (0 : Int))) (let v455 : Int := (IntKind.i64.wrap ((x0.length : Int) - (1 : Int)))
if 0 ≤ v455 ∧ v455 < (x0.length : Int) then
k0 x0 ((x0.getD v455.toNat (0 : Int)) == (0 : Int))
else none) (k0 x0 false)
theorem t113_1 (x0) : exec cl N c113_1 [(0, .v U2 x0)] K = (g113_1 (fun y0 y1 => K .normal (e16 y0 y1)) x0) := by
 kernel_rfl
theorem kp113_1 (x0 x1) : keep [0] (e16 x0 x1) = [(0, .v U2 x0)] := by kernel_rfl
theorem hb113_0 (x0 x1) : boolOf? (ent (e16 x0 x1) (.t 14)) = some x1 := by kernel_rfl
def g113_3 (k0 : V0 → Option R) (x0 : V0) : Option R :=
let v457 : Int := (IntKind.i64.wrap ((x0.length : Int) - (1 : Int)))
if 0 ≤ (0 : Int) ∧ (0 : Int) ≤ v457 ∧ v457 ≤ (x0.length : Int) ∧ (x0.length : Int) ≤ (x0.length : Int) then
k0 ((x0.drop (0 : Int).toNat).take (v457.toNat - (0 : Int).toNat))
else none
theorem t113_3 (x0) : exec cl N c113_3 [(0, .v U2 x0)] K = (g113_3 (fun y0 => K .normal [(0, .v U2 y0)]) x0) := by
 kernel_rfl
def g113_5 (k0 : V0 → Option R) (k1 : V0 → Option R) (x0 : V0) : Option R :=
(g113_1 (fun y0 y1 => brB y1 ((g113_3 k0) y0) (k1 y0)) x0)
theorem t113_5 (x0) : exec cl N c113_5 [(0, .v U2 x0)] K = (g113_5 (fun y0 => K .normal [(0, .v U2 y0)]) (fun y0 => K (.exit 0) [(0, .v U2 y0)]) x0) := by
 simp only [c113_5, exec_seq, seqK_normal, seqK_exit, seqK_ret, t113_1, c113_2, exec_out, exec_cond', hb113_0, Option.bind_some, brB_true, brB_false, exec_skip, exec_exit, kp113_1, c113_4, exec_block, t113_3, blockK_normal, blockK_ret, blockK_eq, kp113_0]
 rfl
def l113_6 {R : Type} (k0 : V0 → Option R) : Nat → V0 → Option R
 | 0, _ => none
 | m + 1, x0 => (g113_5 (l113_6 k0 m) k0 x0)
theorem lt113_6 : ∀ (m) (x0), iter [0] (fun env K => exec cl N c113_5 env K) K m [(0, .v U2 x0)] = l113_6 (fun y0 => K (.exit 0) [(0, .v U2 y0)]) m x0 := by
 intro m
 induction m with
 | zero => intros; rfl
 | succ m ih =>
   intro x0
   simp only [iter_succ, t113_5, loopK_normal, loopK_exit, loopK_ret, kp113_0, ih]
   rfl
def g113_6 (N : Nat) (k0 : V0 → Option R) (x0 : V0) : Option R :=
l113_6 k0 N x0
theorem t113_6 (x0) : exec cl N c113_6 [(0, .v U2 x0)] K = (g113_6 N (fun y0 => K (.exit 0) [(0, .v U2 y0)]) x0) := by
 simp only [c113_6, exec_out, exec_loop, kp113_0, lt113_6, kp113_0]
 rfl
def g113_8 (k0 : V0 → Option R) (x0 : V0) : Option R :=
k0 x0
theorem t113_8 (x0) : exec cl N c113_8 [(0, .v U2 x0)] K = (g113_8 (fun y0 => K .normal [(2, .v U2 y0)]) x0) := by
 kernel_rfl
def g113_9 (N : Nat) (k0 : V0 → Option R) (x0 : V0) : Option R :=
(g113_0 (g113_6 N ((g113_8 k0))) x0)
theorem t113_9 (x0) : exec cl N c113_9 [(0, .v U2 x0)] K = (g113_9 N (fun y0 => K .ret [(2, .v U2 y0)]) x0) := by
 simp only [c113_9, exec_seq, seqK_normal, seqK_exit, seqK_ret, t113_0, c113_7, exec_out, exec_block, t113_6, blockK_normal, blockK_ret, blockK_eq, kp113_0, t113_8, exec_ret]
 rfl
theorem rk113_0 (y0) : retK d113 .ret [(2, .v U2 y0)] = some [.v U2 y0] := by kernel_rfl
def g113 (N : Nat) (x0 : V0) (k : V0 → Option R) : Option R :=
(g113_9 N k x0)
theorem gen113 (x0) (k : List E → Option R) : exec cl N c113 [(0, .v U2 x0)] (fun e env => (retK d113 e env).bind k) = g113 N x0 (fun r0 => k [.v U2 r0]) := by
 simp only [c113, t113_9, rk113_0, Option.bind_some]
 rfl
def ctr113 (S : V0 → Option V2) : Ctr := cv1 113 U2 S fun b => [.v U2 b]
def S113 (N : Nat) (x0 : V0) : Option V2 := g113 N x0 (fun (r0 : V0) => some (r0))
def g109_16 (k0 : V0 → V0 → Int → Option R) (x0 : V0) : Option R :=
if 0 ≤ (x0.length : Int) ∧ (x0.length : Int) ≤ (x0.length : Int) ∧ (x0.length : Int) ≤ ((17592186044416 : Nat) : Int) then
k0 x0 (List.replicate (x0.length : Int).toNat (0 : Int)) (0 : Int)
else none
theorem t109_16 (x0) : exec cl N c109_16 [(0, .v U2 x0)] K = (g109_16 (fun y0 y1 y2 => exec cl N (.seq (.seq c109_3 c109_14) (.seq c109_15 .ret)) [(0, .v U2 y0), (3, .own true 3 U1 .no y1), (4, .v U1 y2)] K) x0) := by
 kernel_rfl
def g109_3 (k0 : V0 → V0 → Int → Int → Option R) (x0 x1 : V0) (x2 : Int) : Option R :=
k0 x0 x1 x2 (IntKind.i64.wrap ((x0.length : Int) - (1 : Int)))
theorem t109_3 (x0 x1 x2) : exec cl N c109_3 [(0, .v U2 x0), (3, .own true 3 U1 .no x1), (4, .v U1 x2)] K = (g109_3 (fun y0 y1 y2 y3 => K .normal (e119 y0 y1 y2 y3)) x0 x1 x2) := by
 kernel_rfl
theorem kp109_0 (x0 x1 x2 x3) : keep [0, 3, 4, 5] (e119 x0 x1 x2 x3) = (e119 x0 x1 x2 x3) := by kernel_rfl
def g109_4 (k0 : V0 → V0 → Int → Int → Bool → Option R) (x0 x1 : V0) (x2 x3 : Int) : Option R :=
k0 x0 x1 x2 x3 (decide (x3 ≥ (0 : Int)))
theorem t109_4 (x0 x1 x2 x3) : exec cl N c109_4 (e119 x0 x1 x2 x3) K = (g109_4 (fun y0 y1 y2 y3 y4 => K .normal (e120 y0 y1 y2 y3 y4)) x0 x1 x2 x3) := by
 kernel_rfl
theorem kp109_1 (x0 x1 x2 x3 x4) : keep [0, 3, 4, 5] (e120 x0 x1 x2 x3 x4) = (e119 x0 x1 x2 x3) := by kernel_rfl
theorem hb109_0 (x0 x1 x2 x3 x4) : boolOf? (ent (e120 x0 x1 x2 x3 x4) (.t 14)) = some x4 := by kernel_rfl
def g109_9 (k0 : V0 → V0 → Int → Int → Option R) (x0 x1 : V0) (x2 x3 : Int) : Option R :=
if 0 ≤ x3 ∧ x3 < (x0.length : Int) then
let v468 : Int := (IntKind.i64.wrap ((IntKind.i64.wrap (x2 * (10000 : Int))) + (x0.getD x3.toNat (0 : Int))))
if 0 ≤ x3 ∧ x3 < (x1.length : Int) then
if x3.toNat < x1.length then
k0 x0 (x1.set x3.toNat (IntKind.i64.wrap (Int.tdiv v468 (2 : Int)))) (Int.tmod v468 (2 : Int)) x3
else none
else none
else none
theorem t109_9 (x0 x1 x2 x3) : exec cl N c109_9 (e119 x0 x1 x2 x3) K = (g109_9 (fun y0 y1 y2 y3 => K .normal (e119 y0 y1 y2 y3)) x0 x1 x2 x3) := by
 kernel_rfl
def g109_11 (k0 : V0 → V0 → Int → Int → Option R) (x0 x1 : V0) (x2 x3 : Int) : Option R :=
k0 x0 x1 x2 (IntKind.i64.wrap (x3 - (1 : Int)))
theorem t109_11 (x0 x1 x2 x3) : exec cl N c109_11 (e119 x0 x1 x2 x3) K = (g109_11 (fun y0 y1 y2 y3 => K .normal (e119 y0 y1 y2 y3)) x0 x1 x2 x3) := by
 kernel_rfl
def g109_12 (k0 : V0 → V0 → Int → Int → Option R) (k1 : V0 → V0 → Int → Int → Option R) (x0 x1 : V0) (x2 x3 : Int) : Option R :=
(g109_4 (fun y0 y1 y2 y3 y4 => brB y4 ((g109_9 ((g109_11 k0))) y0 y1 y2 y3) (k1 y0 y1 y2 y3)) x0 x1 x2 x3)
theorem t109_12 (x0 x1 x2 x3) : exec cl N c109_12 (e119 x0 x1 x2 x3) K = (g109_12 (fun y0 y1 y2 y3 => K .normal (e119 y0 y1 y2 y3)) (fun y0 y1 y2 y3 => K (.exit 0) (e119 y0 y1 y2 y3)) x0 x1 x2 x3) := by
 simp only [c109_12, exec_seq, seqK_normal, seqK_exit, seqK_ret, t109_4, c109_5, exec_out, exec_cond', hb109_0, Option.bind_some, brB_true, brB_false, exec_skip, exec_exit, kp109_1, c109_10, exec_block, t109_9, blockK_normal, blockK_ret, blockK_eq, kp109_0, t109_11]
 rfl
def l109_13 {R : Type} (k0 : V0 → V0 → Int → Int → Option R) : Nat → V0 → V0 → Int → Int → Option R
 | 0, _, _, _, _ => none
 | m + 1, x0, x1, x2, x3 => (g109_12 (l109_13 k0 m) k0 x0 x1 x2 x3)
theorem lt109_13 : ∀ (m) (x0 x1 x2 x3), iter [0, 3, 4, 5] (fun env K => exec cl N c109_12 env K) K m (e119 x0 x1 x2 x3) = l109_13 (fun y0 y1 y2 y3 => K (.exit 0) (e119 y0 y1 y2 y3)) m x0 x1 x2 x3 := by
 intro m
 induction m with
 | zero => intros; rfl
 | succ m ih =>
   intro x0 x1 x2 x3
   simp only [iter_succ, t109_12, loopK_normal, loopK_exit, loopK_ret, kp109_0, ih]
   rfl
theorem kp109_2 (x0 x1 x2 x3) : keep [3] (e119 x0 x1 x2 x3) = (e121 x1) := by kernel_rfl
def g109_13 (N : Nat) (k0 : V0 → Option R) (x0 x1 : V0) (x2 x3 : Int) : Option R :=
l109_13 (fun y0 y1 y2 y3 => k0 y1) N x0 x1 x2 x3
theorem t109_13 (x0 x1 x2 x3) : exec cl N c109_13 (e119 x0 x1 x2 x3) K = (g109_13 N (fun y0 => K (.exit 0) (e121 y0)) x0 x1 x2 x3) := by
 simp only [c109_13, exec_out, exec_loop, kp109_0, lt109_13, kp109_2]
 rfl
theorem kp109_3 (x0) : keep [3] (e121 x0) = (e121 x0) := by kernel_rfl
def g109_15 (S113 : V0 → Option V2) (k0 : V0 → Option R) (x0 : V0) : Option R :=
(S113 x0).bind fun r472 =>
k0 r472
theorem t109_15 (S113) (h113 : (ctr113 S113).holds cl) (x0) : exec cl N c109_15 (e121 x0) K = (g109_15 S113 (fun y0 => K .normal [(2, .v U2 y0)]) x0) := by
 rw [← put_eq h113]
 kernel_rfl
def g109_16b (N : Nat) (S113 : V0 → Option V2) (k0 : V0 → Option R) (x0 : V0) : Option R :=
(g109_16 (g109_3 (g109_13 N ((g109_15 S113 k0)))) x0)
theorem t109_16b (S113) (h113 : (ctr113 S113).holds cl) (x0) : exec cl N c109_16 [(0, .v U2 x0)] K = (g109_16b N S113 (fun y0 => K .ret [(2, .v U2 y0)]) x0) := by
 simp only [exec_seq, seqK_normal, seqK_exit, seqK_ret, t109_16, t109_3, c109_14, exec_out, exec_block, t109_13, blockK_normal, blockK_ret, blockK_eq, kp109_3, t109_15 S113 h113, exec_ret]
 rfl
theorem rk109_0 (y0) : retK d109 .ret [(2, .v U2 y0)] = some [.v U2 y0] := by kernel_rfl
def g109 (N : Nat) (S113 : V0 → Option V2) (x0 : V0) (k : V0 → Option R) : Option R :=
(g109_16b N S113 k x0)
theorem gen109 (S113) (h113 : (ctr113 S113).holds cl) (x0) (k : List E → Option R) : exec cl N c109 [(0, .v U2 x0)] (fun e env => (retK d109 e env).bind k) = g109 N S113 x0 (fun r0 => k [.v U2 r0]) := by
 simp only [c109, t109_16b S113 h113, rk109_0, Option.bind_some]
 rfl
def ctr109 (S : V0 → Option V2) : Ctr := cv1 109 U2 S fun b => [.v U2 b]
def S109 (N : Nat) (x0 : V0) : Option V2 := g109 N (S113 N) x0 (fun (r0 : V0) => some (r0))
def g90_0 (k0 : V0 → V0 → Option R) (x0 x1 : V0) : Option R :=
k0 x0 x1
theorem t90_0 (x0 x1) : exec cl N c90_0 (e17 x0 x1) K = (g90_0 (fun y0 y1 => K .normal (e17 y0 y1)) x0 x1) := by
 kernel_rfl
def g90_1 (k0 : V0 → V0 → Bool → Option R) (x0 x1 : V0) : Option R :=
k0 x0 x1 (decide ((x0.length : Int) < (x1.length : Int)))
theorem t90_1 (x0 x1) : exec cl N c90_1 (e17 x0 x1) K = (g90_1 (fun y0 y1 y2 => K .normal (e26 y0 y1 y2)) x0 x1) := by
 kernel_rfl
def g90_2 (k0 : Int → Option R) (x0 x1 : V0) (x2 : Bool) : Option R :=
k0 (-1 : Int)
theorem t90_2 (x0 x1 x2) : exec cl N c90_2 (e26 x0 x1 x2) K = (g90_2 (fun y0 => K .normal [(4, .v U1 y0)]) x0 x1 x2) := by
 kernel_rfl
theorem kp90_0 (x0) : keep [0, 1, 4] [(4, .v U1 x0)] = (e27 x0) := by kernel_rfl
theorem kp90_1 (x0 x1 x2) : keep [0, 1, 4] (e26 x0 x1 x2) = (e28 x0 x1) := by kernel_rfl
theorem hb90_0 (x0 x1 x2) : boolOf? (ent (e26 x0 x1 x2) (.t 10)) = some x2 := by kernel_rfl
def g90_4 (k0 : V0 → V0 → Bool → Option R) (x0 x1 : V0) : Option R :=
k0 x0 x1 (decide ((x0.length : Int) > (x1.length : Int)))
theorem t90_4 (x0 x1) : exec cl N c90_4 (e28 x0 x1) K = (g90_4 (fun y0 y1 y2 => K .normal (e122 y0 y1 y2)) x0 x1) := by
 kernel_rfl
def g90_5 (k0 : Int → Option R) (x0 x1 : V0) (x2 : Bool) : Option R :=
k0 (1 : Int)
theorem t90_5 (x0 x1 x2) : exec cl N c90_5 (e122 x0 x1 x2) K = (g90_5 (fun y0 => K .normal [(4, .v U1 y0)]) x0 x1 x2) := by
 kernel_rfl
theorem kp90_2 (x0 x1 x2) : keep [0, 1, 4] (e122 x0 x1 x2) = (e28 x0 x1) := by kernel_rfl
theorem hb90_1 (x0 x1 x2) : boolOf? (ent (e122 x0 x1 x2) (.t 15)) = some x2 := by kernel_rfl
def g90_7 (k0 : V0 → V0 → Int → Option R) (x0 x1 : V0) : Option R :=
k0 x0 x1 (IntKind.i64.wrap ((x0.length : Int) - (1 : Int)))
theorem t90_7 (x0 x1) : exec cl N c90_7 (e28 x0 x1) K = (g90_7 (fun y0 y1 y2 => K .normal (e29 y0 y1 y2)) x0 x1) := by
 kernel_rfl
theorem kp90_3 (x0 x1 x2) : keep [0, 1, 5] (e29 x0 x1 x2) = (e29 x0 x1 x2) := by kernel_rfl
def g90_8 (k0 : V0 → V0 → Int → Bool → Option R) (x0 x1 : V0) (x2 : Int) : Option R :=
k0 x0 x1 x2 (decide (x2 ≥ (0 : Int)))
theorem t90_8 (x0 x1 x2) : exec cl N c90_8 (e29 x0 x1 x2) K = (g90_8 (fun y0 y1 y2 y3 => K .normal (e30 y0 y1 y2 y3)) x0 x1 x2) := by
 kernel_rfl
theorem kp90_4 (x0 x1 x2 x3) : keep [0, 1, 5] (e30 x0 x1 x2 x3) = (e29 x0 x1 x2) := by kernel_rfl
theorem hb90_2 (x0 x1 x2 x3) : boolOf? (ent (e30 x0 x1 x2 x3) (.t 20)) = some x3 := by kernel_rfl
def g90_10 (k0 : V0 → V0 → Int → Bool → Option R) (x0 x1 : V0) (x2 : Int) : Option R :=
if 0 ≤ x2 ∧ x2 < (x0.length : Int) then
if 0 ≤ x2 ∧ x2 < (x1.length : Int) then
k0 x0 x1 x2 (decide ((x0.getD x2.toNat (0 : Int)) < (x1.getD x2.toNat (0 : Int))))
else none
else none
theorem t90_10 (x0 x1 x2) : exec cl N c90_10 (e29 x0 x1 x2) K = (g90_10 (fun y0 y1 y2 y3 => K .normal (e31 y0 y1 y2 y3)) x0 x1 x2) := by
 kernel_rfl
def g90_11 (k0 : Int → Option R) (x0 x1 : V0) (x2 : Int) (x3 : Bool) : Option R :=
k0 (-1 : Int)
theorem t90_11 (x0 x1 x2 x3) : exec cl N c90_11 (e31 x0 x1 x2 x3) K = (g90_11 (fun y0 => K .normal [(4, .v U1 y0)]) x0 x1 x2 x3) := by
 kernel_rfl
theorem kp90_5 (x0) : keep [0, 1, 4, 5] [(4, .v U1 x0)] = (e32 x0) := by kernel_rfl
theorem kp90_6 (x0 x1 x2 x3) : keep [0, 1, 4, 5] (e31 x0 x1 x2 x3) = (e33 x0 x1 x2) := by kernel_rfl
theorem hb90_3 (x0 x1 x2 x3) : boolOf? (ent (e31 x0 x1 x2 x3) (.t 31)) = some x3 := by kernel_rfl
def g90_13 (k0 : V0 → V0 → Int → Bool → Option R) (x0 x1 : V0) (x2 : Int) : Option R :=
if 0 ≤ x2 ∧ x2 < (x0.length : Int) then
if 0 ≤ x2 ∧ x2 < (x1.length : Int) then
k0 x0 x1 x2 (decide ((x0.getD x2.toNat (0 : Int)) > (x1.getD x2.toNat (0 : Int))))
else none
else none
theorem t90_13 (x0 x1 x2) : exec cl N c90_13 (e33 x0 x1 x2) K = (g90_13 (fun y0 y1 y2 y3 => K .normal (e123 y0 y1 y2 y3)) x0 x1 x2) := by
 kernel_rfl
def g90_14 (k0 : Int → Option R) (x0 x1 : V0) (x2 : Int) (x3 : Bool) : Option R :=
k0 (1 : Int)
theorem t90_14 (x0 x1 x2 x3) : exec cl N c90_14 (e123 x0 x1 x2 x3) K = (g90_14 (fun y0 => K .normal [(4, .v U1 y0)]) x0 x1 x2 x3) := by
 kernel_rfl
theorem kp90_7 (x0 x1 x2 x3) : keep [0, 1, 4, 5] (e123 x0 x1 x2 x3) = (e33 x0 x1 x2) := by kernel_rfl
theorem hb90_4 (x0 x1 x2 x3) : boolOf? (ent (e123 x0 x1 x2 x3) (.t 40)) = some x3 := by kernel_rfl
theorem kp90_8 (x0) : keep [0, 1, 4, 5] (e32 x0) = (e32 x0) := by kernel_rfl
theorem kp90_9 (x0 x1 x2) : keep [0, 1, 4, 5] (e33 x0 x1 x2) = (e33 x0 x1 x2) := by kernel_rfl
def g90_17 (k0 : V0 → V0 → Int → Option R) (x0 x1 : V0) (x2 : Int) : Option R :=
k0 x0 x1 (IntKind.i64.wrap (x2 - (1 : Int)))
theorem t90_17 (x0 x1 x2) : exec cl N c90_17 (e33 x0 x1 x2) K = (g90_17 (fun y0 y1 y2 => K .normal (e29 y0 y1 y2)) x0 x1 x2) := by
 kernel_rfl
def g90_18 (k0 : Int → Option R) (k1 : V0 → V0 → Int → Option R) (k2 : V0 → V0 → Int → Option R) (x0 x1 : V0) (x2 : Int) : Option R :=
(g90_8 (fun y0 y1 y2 y3 => brB y3 ((g90_10 (fun y0 y1 y2 y3 => brB y3 (g90_11 k0 y0 y1 y2 y3) ((g90_13 (fun y0 y1 y2 y3 => brB y3 (g90_14 k0 y0 y1 y2 y3) (((g90_17 k1)) y0 y1 y2))) y0 y1 y2))) y0 y1 y2) (k2 y0 y1 y2)) x0 x1 x2)
theorem t90_18 (x0 x1 x2) : exec cl N c90_18 (e29 x0 x1 x2) K = (g90_18 (fun y0 => K .ret (e32 y0)) (fun y0 y1 y2 => K .normal (e29 y0 y1 y2)) (fun y0 y1 y2 => K (.exit 0) (e29 y0 y1 y2)) x0 x1 x2) := by
 simp only [c90_18, exec_seq, seqK_normal, seqK_exit, seqK_ret, t90_8, c90_9, exec_out, exec_cond', hb90_2, Option.bind_some, brB_true, brB_false, exec_skip, exec_exit, kp90_4, c90_16, exec_block, t90_10, c90_12, hb90_3, t90_11, exec_ret, kp90_5, kp90_6, t90_13, c90_15, hb90_4, t90_14, kp90_7, blockK_normal, blockK_ret, blockK_eq, kp90_8, kp90_9, t90_17]
 rfl
def l90_19 {R : Type} (k0 : Int → Option R) (k1 : V0 → V0 → Int → Option R) : Nat → V0 → V0 → Int → Option R
 | 0, _, _, _ => none
 | m + 1, x0, x1, x2 => (g90_18 k0 (l90_19 k0 k1 m) k1 x0 x1 x2)
theorem lt90_19 : ∀ (m) (x0 x1 x2), iter [0, 1, 5] (fun env K => exec cl N c90_18 env K) K m (e29 x0 x1 x2) = l90_19 (fun y0 => K .ret (e32 y0)) (fun y0 y1 y2 => K (.exit 0) (e29 y0 y1 y2)) m x0 x1 x2 := by
 intro m
 induction m with
 | zero => intros; rfl
 | succ m ih =>
   intro x0 x1 x2
   simp only [iter_succ, t90_18, loopK_normal, loopK_exit, loopK_ret, kp90_3, ih]
   rfl
theorem kp90_10 (x0) : keep [4] (e32 x0) = [(4, .v U1 x0)] := by kernel_rfl
theorem kp90_11 (x0 x1 x2) : keep [4] (e29 x0 x1 x2) = [(4, .dead)] := by kernel_rfl
def g90_19 (N : Nat) (k0 : Int → Option R) (k1 : Option R) (x0 x1 : V0) (x2 : Int) : Option R :=
l90_19 k0 (fun y0 y1 y2 => k1) N x0 x1 x2
theorem t90_19 (x0 x1 x2) : exec cl N c90_19 (e29 x0 x1 x2) K = (g90_19 N (fun y0 => K .ret [(4, .v U1 y0)]) (K (.exit 0) [(4, .dead)]) x0 x1 x2) := by
 simp only [c90_19, exec_out, exec_loop, kp90_3, lt90_19, kp90_10, kp90_11]
 rfl
theorem kp90_12 (x0) : keep [4] [(4, .v U1 x0)] = [(4, .v U1 x0)] := by kernel_rfl
theorem kp90_13 : keep [4] [(4, .dead)] = [(4, .dead)] := by kernel_rfl
def g90_21 (k0 : Int → Option R) : Option R :=
k0 (0 : Int)
theorem t90_21 : exec cl N c90_21 [(4, .dead)] K = (g90_21 (fun y0 => K .normal [(4, .v U1 y0)])) := by
 kernel_rfl
def g90_22 (N : Nat) (k0 : Int → Option R) (k1 : Int → Option R) (x0 x1 : V0) : Option R :=
(g90_0 (g90_1 (fun y0 y1 y2 => brB y2 (g90_2 k0 y0 y1 y2) ((g90_4 (fun y0 y1 y2 => brB y2 (g90_5 k0 y0 y1 y2) ((g90_7 (g90_19 N k1 (g90_21 k1))) y0 y1))) y0 y1))) x0 x1)
theorem t90_22 (x0 x1) : exec cl N c90_22 (e17 x0 x1) K = (g90_22 N (fun y0 => K .ret (e27 y0)) (fun y0 => K .ret [(4, .v U1 y0)]) x0 x1) := by
 simp only [c90_22, exec_seq, seqK_normal, seqK_exit, seqK_ret, t90_0, t90_1, c90_3, exec_out, exec_cond', hb90_0, Option.bind_some, brB_true, brB_false, t90_2, exec_ret, exec_skip, kp90_0, kp90_1, t90_4, c90_6, hb90_1, t90_5, kp90_2, t90_7, c90_20, exec_block, t90_19, blockK_normal, blockK_ret, blockK_eq, kp90_12, kp90_13, t90_21]
 rfl
theorem rk90_0 (y0) : retK d90 .ret (e27 y0) = some [.v U1 y0] := by kernel_rfl
theorem rk90_1 (y0) : retK d90 .ret [(4, .v U1 y0)] = some [.v U1 y0] := by kernel_rfl
def g90 (N : Nat) (x0 x1 : V0) (k : Int → Option R) : Option R :=
(g90_22 N k k x0 x1)
theorem gen90 (x0 x1) (k : List E → Option R) : exec cl N c90 (e17 x0 x1) (fun e env => (retK d90 e env).bind k) = g90 N x0 x1 (fun r0 => k [.v U1 r0]) := by
 simp only [c90, t90_22, rk90_0, rk90_1, Option.bind_some]
 rfl
def ctr90 (S : V0 → V0 → Option (Int)) : Ctr := cv2 90 U2 U2 S fun b => [.v U1 b]
def S90 (N : Nat) (x0 : V0) (x1 : V0) : Option (Int) := g90 N x0 x1 (fun (r0 : Int) => some (r0))
def g112_0 (k0 : V0 → Int → Option R) (x0 : V0) (x1 : Int) : Option R :=
k0 x0 x1
theorem t112_0 (x0 x1) : exec cl N c112_0 (e124 x0 x1) K = (g112_0 (fun y0 y1 => K .normal (e124 y0 y1)) x0 x1) := by
 kernel_rfl
def g112_1 (k0 : V0 → Int → Bool → Option R) (x0 : V0) (x1 : Int) : Option R :=
k0 x0 x1 (decide (x1 < (x0.length : Int)))
theorem t112_1 (x0 x1) : exec cl N c112_1 (e124 x0 x1) K = (g112_1 (fun y0 y1 y2 => K .normal (e125 y0 y1 y2)) x0 x1) := by
 kernel_rfl
def g112_2 (k0 : Int → Option R) (x0 : V0) (x1 : Int) (x2 : Bool) : Option R :=
if 0 ≤ x1 ∧ x1 < (x0.length : Int) then
k0 (x0.getD x1.toNat (0 : Int))
else none
theorem t112_2 (x0 x1 x2) : exec cl N c112_2 (e125 x0 x1 x2) K = (g112_2 (fun y0 => K .normal [(4, .v U1 y0)]) x0 x1 x2) := by
 kernel_rfl
theorem kp112_0 (x0) : keep [4] [(4, .v U1 x0)] = [(4, .v U1 x0)] := by kernel_rfl
theorem kp112_1 (x0 x1 x2) : keep [4] (e125 x0 x1 x2) = [(4, .dead)] := by kernel_rfl
theorem hb112_0 (x0 x1 x2) : boolOf? (ent (e125 x0 x1 x2) (.t 8)) = some x2 := by kernel_rfl
def g112_4 (k0 : Int → Option R) : Option R :=
k0 (0 : Int)
theorem t112_4 : exec cl N c112_4 [(4, .dead)] K = (g112_4 (fun y0 => K .normal [(4, .v U1 y0)])) := by
 kernel_rfl
def g112_5 (k0 : Int → Option R) (x0 : V0) (x1 : Int) : Option R :=
(g112_0 (g112_1 (fun y0 y1 y2 => brB y2 (g112_2 k0 y0 y1 y2) (g112_4 k0))) x0 x1)
theorem t112_5 (x0 x1) : exec cl N c112_5 (e124 x0 x1) K = (g112_5 (fun y0 => K .ret [(4, .v U1 y0)]) x0 x1) := by
 simp only [c112_5, exec_seq, seqK_normal, seqK_exit, seqK_ret, t112_0, t112_1, c112_3, exec_out, exec_cond', hb112_0, Option.bind_some, brB_true, brB_false, t112_2, exec_ret, exec_skip, kp112_0, kp112_1, t112_4]
 rfl
theorem rk112_0 (y0) : retK d112 .ret [(4, .v U1 y0)] = some [.v U1 y0] := by kernel_rfl
def g112 (x0 : V0) (x1 : Int) (k : Int → Option R) : Option R :=
(g112_5 k x0 x1)
theorem gen112 (x0 x1) (k : List E → Option R) : exec cl N c112 (e124 x0 x1) (fun e env => (retK d112 e env).bind k) = g112 x0 x1 (fun r0 => k [.v U1 r0]) := by
 simp only [c112, t112_5, rk112_0, Option.bind_some]
 rfl
def ctr112 (S : V0 → Int → Option (Int)) : Ctr := cv2 112 U2 U1 S fun b => [.v U1 b]
def S112 (N : Nat) (x0 : V0) (x1 : Int) : Option (Int) := g112 x0 x1 (fun (r0 : Int) => some (r0))
end Go.Fw.L51
