/- Printed by an own program for this claim: the machine's code of functions, or their typed forms with their equations; no conditions. -/
import Derived.Test.YtbdlccajpcomjaaFwYe17
import Derived.Test.YtbdlccajpcomjaaFwB4
set_option linter.unusedVariables false
set_option linter.unusedSimpArgs false
namespace Go.Fw.L19
open Go Go.Fw
set_option maxRecDepth 100000
set_option linter.unusedVariables false
set_option linter.unusedSimpArgs false
abbrev cv1 (f : FuncId) (T0 : Ty) {B : Type} (S : den T0 → Option B) (ent : B → List E) : Ctr := { A := den T0 × Unit, B := B, f := f, enc := fun a => [.v T0 a.1], dec := (decC (decV T0) dec0), S := fun a => S a.1, ent := ent, ok := (decV_cons (T := T0) (fun es b h => dec0_some h)) }
abbrev cv2 (f : FuncId) (T0 T1 : Ty) {B : Type} (S : den T0 → den T1 → Option B) (ent : B → List E) : Ctr := { A := den T0 × den T1 × Unit, B := B, f := f, enc := fun a => [.v T0 a.1, .v T1 a.2.1], dec := (decC (decV T0) (decC (decV T1) dec0)), S := fun a => S a.1 a.2.1, ent := ent, ok := (decV_cons (T := T0) (decV_cons (T := T1) (fun es b h => dec0_some h))) }
abbrev cv3 (f : FuncId) (T0 T1 T2 : Ty) {B : Type} (S : den T0 → den T1 → den T2 → Option B) (ent : B → List E) : Ctr := { A := den T0 × den T1 × den T2 × Unit, B := B, f := f, enc := fun a => [.v T0 a.1, .v T1 a.2.1, .v T2 a.2.2.1], dec := (decC (decV T0) (decC (decV T1) (decC (decV T2) dec0))), S := fun a => S a.1 a.2.1 a.2.2.1, ent := ent, ok := (decV_cons (T := T0) (decV_cons (T := T1) (decV_cons (T := T2) (fun es b h => dec0_some h)))) }
abbrev e0 := fun x0 x1 x2 x3 => ([(0, .v U0 x0), (1, .v U2 x1), (5, .v U2 x2), (6, .v U2 x3)] : Env)
abbrev e1 := fun x0 x1 x2 x3 x4 => ([(0, .v U0 x0), (1, .v U2 x1), (5, .v U2 x2), (6, .v U2 x3), (15, .v .bool x4)] : Env)
abbrev e2 := fun x0 x1 => ([(1, .loc U17 .no x0), (3, .v U2 x1)] : Env)
abbrev e3 := fun x0 x1 x2 => ([(1, .loc U17 .no x0), (3, .v U2 x1), (4, .v U2 x2)] : Env)
abbrev e4 := fun x0 x1 x2 x3 => ([(1, .loc U17 .no x0), (3, .v U2 x1), (4, .v U2 x2), (16, .v .bool x3)] : Env)
abbrev e5 := fun x0 x1 => ([(1, .loc U17 (.pair .no (.pair (.own true 57 .no) .no)) x0), (2, .loc U17 (.pair .no (.pair (.own true 57 .no) .no)) x1)] : Env)
abbrev e6 := fun x0 x1 x2 x3 => ([(1, .loc U17 (.pair .no (.pair (.own true 57 .no) .no)) x0), (2, .loc U17 (.pair .no (.pair (.own true 57 .no) .no)) x1), (10, .v U2 x2), (11, .v U2 x3)] : Env)
abbrev e7 := fun x0 x1 x2 x3 x4 => ([(1, .loc U17 (.pair .no (.pair (.own true 57 .no) .no)) x0), (2, .loc U17 (.pair .no (.pair (.own true 57 .no) .no)) x1), (10, .v U2 x2), (11, .v U2 x3), (12, .v .bool x4)] : Env)
abbrev e8 := fun x0 x1 => ([(0, .v .str x0), (12, .v .bool x1)] : Env)
abbrev e9 := fun x0 => ([(0, .dead), (2, .v U2 x0)] : Env)
abbrev e10 := fun x0 => ([(0, .v .str x0), (2, .dead)] : Env)
abbrev e11 := fun x0 x1 => ([(0, .v .str x0), (3, .v U2 x1)] : Env)
abbrev e12 := fun x0 x1 x2 => ([(0, .v .str x0), (3, .v U2 x1), (16, .v .bool x2)] : Env)
abbrev e13 := fun x0 x1 x2 x3 => ([(0, .v .str x0), (3, .v U2 x1), (4, .v U1 x2), (21, .v .bool x3)] : Env)
abbrev e14 := fun x0 x1 => ([(0, .v .str x0), (2, .dead), (3, .v U2 x1)] : Env)
abbrev e15 := fun x0 x1 x2 => ([(0, .v .str x0), (3, .v U2 x1), (30, .v .bool x2)] : Env)
abbrev e16 := fun x0 => ([(0, .dead), (2, .v U2 x0), (3, .dead)] : Env)
abbrev e17 := fun x0 => ([(2, .v U2 x0), (3, .dead)] : Env)
abbrev e18 := fun x0 => ([(2, .dead), (3, .v U2 x0)] : Env)
abbrev e19 := fun x0 x1 => ([(0, .v U3 x0), (1, .v U8 x1)] : Env)
abbrev e20 := fun x0 x1 x2 x3 => ([(0, .v U3 x0), (1, .v U8 x1), (7, .v U2 x2), (8, .v U2 x3)] : Env)
abbrev e21 := fun x0 x1 x2 x3 x4 => ([(0, .v U3 x0), (1, .v U8 x1), (7, .v U2 x2), (8, .v U2 x3), (9, .v .bool x4)] : Env)
abbrev e22 := fun x0 x1 x2 x3 x4 x5 => ([(0, .v U3 x0), (1, .v U8 x1), (5, .v U2 x2), (7, .v U2 x3), (8, .v U2 x4), (16, .v .bool x5)] : Env)
abbrev e23 := fun x0 => ([(0, .dead), (1, .dead), (4, .v U2 x0), (7, .dead), (8, .dead)] : Env)
abbrev e24 := fun x0 x1 x2 x3 => ([(0, .v U3 x0), (1, .v U8 x1), (4, .dead), (7, .v U2 x2), (8, .v U2 x3)] : Env)
abbrev e25 := fun x0 x1 => ([(0, .v U0 x0), (1, .v .str x1)] : Env)
abbrev e26 := fun x0 x1 x2 x3 => ([(0, .v U0 x0), (1, .v .str x1), (12, .v U2 x2), (13, .v .bool x3)] : Env)
abbrev e27 := fun x0 => ([(0, .dead), (1, .dead), (4, .v .str x0)] : Env)
abbrev e28 := fun x0 x1 x2 => ([(0, .v U0 x0), (1, .v .str x1), (15, .v .bool x2)] : Env)
abbrev e29 := fun x0 x1 => ([(0, .v U0 x0), (1, .v .str x1), (4, .dead)] : Env)
abbrev e30 := fun x0 x1 x2 => ([(0, .v U0 x0), (1, .v .str x1), (5, .v U2 x2)] : Env)
abbrev e31 := fun x0 x1 x2 x3 => ([(0, .v U0 x0), (1, .v .str x1), (5, .v U2 x2), (22, .v .bool x3)] : Env)
abbrev e32 := fun x0 x1 x2 x3 => ([(0, .v U0 x0), (1, .v .str x1), (5, .v U2 x2), (29, .v .bool x3)] : Env)
abbrev e33 := fun x0 x1 x2 x3 x4 x5 => ([(0, .v U0 x0), (1, .v .str x1), (5, .v U2 x2), (39, .v U0 x3), (40, .v U2 x4), (41, .v U2 x5)] : Env)
abbrev e34 := fun x0 x1 x2 x3 x4 x5 x6 => ([(0, .v U0 x0), (1, .v .str x1), (5, .v U2 x2), (39, .v U0 x3), (40, .v U2 x4), (41, .v U2 x5), (42, .v .bool x6)] : Env)
abbrev e35 := fun x0 x1 x2 x3 x4 x5 x6 => ([(0, .v U0 x0), (1, .v .str x1), (5, .v U2 x2), (7, .v .str x3), (39, .v U0 x4), (40, .v U2 x5), (41, .v U2 x6)] : Env)
abbrev e36 := fun x0 x1 x2 x3 x4 x5 x6 x7 => ([(0, .v U0 x0), (1, .v .str x1), (5, .v U2 x2), (7, .v .str x3), (39, .v U0 x4), (40, .v U2 x5), (41, .v U2 x6), (49, .v .bool x7)] : Env)
abbrev e37 := fun x0 x1 x2 x3 => ([(0, .v U0 x0), (7, .v U0 x1), (8, .v U2 x2), (9, .v U2 x3)] : Env)
abbrev e38 := fun x0 x1 x2 x3 x4 => ([(0, .v U0 x0), (7, .v U0 x1), (8, .v U2 x2), (9, .v U2 x3), (10, .v .bool x4)] : Env)
abbrev e39 := fun x0 x1 x2 x3 x4 x5 => ([(0, .v U0 x0), (5, .v .str x1), (7, .v U0 x2), (8, .v U2 x3), (9, .v U2 x4), (14, .v .bool x5)] : Env)
abbrev e40 := fun x0 x1 => ([(2, .v .str x0), (3, .v U2 x1)] : Env)
abbrev e41 := fun x0 x1 => ([(0, .dead), (2, .v .str x0), (3, .v U2 x1), (5, .dead), (7, .dead), (8, .dead), (9, .dead)] : Env)
abbrev e42 := fun x0 x1 x2 x3 x4 => ([(0, .v U0 x0), (2, .dead), (3, .dead), (5, .v .str x1), (7, .v U0 x2), (8, .v U2 x3), (9, .v U2 x4)] : Env)
abbrev e43 := fun x0 x1 x2 x3 x4 => ([(0, .v U0 x0), (7, .v U0 x1), (8, .v U2 x2), (9, .v U2 x3), (17, .v .bool x4)] : Env)
abbrev e44 := fun x0 x1 => ([(0, .dead), (2, .v .str x0), (3, .v U2 x1), (7, .dead), (8, .dead), (9, .dead)] : Env)
abbrev e45 := fun x0 x1 x2 x3 => ([(0, .v U0 x0), (2, .dead), (3, .dead), (7, .v U0 x1), (8, .v U2 x2), (9, .v U2 x3)] : Env)
abbrev e46 := fun x0 x1 => ([(0, .dead), (2, .v .str x0), (3, .v U2 x1)] : Env)
abbrev e47 := fun x0 => ([(0, .v U0 x0), (2, .dead), (3, .dead)] : Env)
abbrev e48 := fun x0 x1 => ([(6, .v .str x0), (23, .v .bool x1)] : Env)
abbrev e49 := fun x0 x1 => ([(2, .v .str x0), (3, .v U2 x1), (6, .dead)] : Env)
abbrev e50 := fun x0 => ([(3, .own true 4294967295 U1 .no x0)] : Env)
abbrev e51 := fun x0 x1 x2 => ([(3, .own true 4294967295 U1 .no x0), (8, .ref 3 []), (9, .v U2 x1), (10, .v U2 x2)] : Env)
abbrev e52 := fun x0 x1 x2 x3 => ([(3, .own true 4294967295 U1 .no x0), (8, .ref 3 []), (9, .v U2 x1), (10, .v U2 x2), (11, .v .bool x3)] : Env)
abbrev e53 := fun x0 x1 x2 x3 x4 x5 => ([(3, .own true 4294967295 U1 .no x0), (4, .v U2 x1), (5, .v U1 x2), (8, .ref 3 []), (9, .v U2 x3), (10, .v U2 x4), (20, .v .bool x5)] : Env)
abbrev e54 := fun x0 x1 => ([(0, .v .str x0), (7, .v .bool x1)] : Env)
abbrev e55 := fun x0 x1 x2 x3 => ([(0, .v U0 x0), (1, .v .str x1), (7, .v U2 x2), (8, .v U2 x3)] : Env)
abbrev e56 := fun x0 x1 x2 x3 x4 => ([(0, .v U0 x0), (1, .v .str x1), (7, .v U2 x2), (8, .v U2 x3), (9, .v .bool x4)] : Env)
abbrev e57 := fun x0 x1 x2 x3 x4 x5 => ([(0, .v U0 x0), (1, .v .str x1), (5, .v U2 x2), (7, .v U2 x3), (8, .v U2 x4), (16, .v .bool x5)] : Env)
abbrev e58 := fun x0 x1 x2 x3 => ([(0, .v U0 x0), (1, .v .str x1), (4, .dead), (7, .v U2 x2), (8, .v U2 x3)] : Env)
abbrev e59 := fun x0 x1 => ([(1, .loc U13 .no x0), (6, .v .bool x1)] : Env)
abbrev e60 := fun x0 => ([(1, .dead), (2, .v U2 x0)] : Env)
abbrev e61 := fun x0 x1 => ([(1, .loc U13 .no x0), (25, .v .bool x1)] : Env)
abbrev e62 := fun x0 => ([(1, .loc U13 .no x0), (2, .dead)] : Env)
abbrev e63 := fun x0 x1 x2 x3 => ([(1, .loc U13 .no x0), (31, .v U0 x1), (32, .v U2 x2), (33, .v U2 x3)] : Env)
abbrev e64 := fun x0 x1 x2 x3 x4 => ([(1, .loc U13 .no x0), (31, .v U0 x1), (32, .v U2 x2), (33, .v U2 x3), (34, .v .bool x4)] : Env)
abbrev e65 := fun x0 x1 x2 x3 x4 x5 => ([(1, .loc U13 .no x0), (3, .v U2 x1), (4, .v .str x2), (31, .v U0 x3), (32, .v U2 x4), (33, .v U2 x5)] : Env)
abbrev e66 := fun x0 x1 x2 x3 x4 x5 x6 x7 => ([(1, .loc U13 .no x0), (3, .v U2 x1), (4, .v .str x2), (5, .v U2 x3), (31, .v U0 x4), (32, .v U2 x5), (33, .v U2 x6), (41, .v .bool x7)] : Env)
abbrev e67 := fun x0 => ([(1, .dead), (2, .v U2 x0), (3, .dead), (4, .dead), (31, .dead), (32, .dead), (33, .dead)] : Env)
abbrev e68 := fun x0 x1 x2 x3 x4 x5 => ([(1, .loc U13 .no x0), (2, .dead), (3, .v U2 x1), (4, .v .str x2), (31, .v U0 x3), (32, .v U2 x4), (33, .v U2 x5)] : Env)
abbrev e69 := fun x0 x1 x2 x3 x4 => ([(1, .loc U13 .no x0), (31, .v U0 x1), (32, .v U2 x2), (33, .v U2 x3), (48, .v .bool x4)] : Env)
abbrev e70 := fun x0 => ([(1, .dead), (2, .v U2 x0), (31, .dead), (32, .dead), (33, .dead)] : Env)
abbrev e71 := fun x0 x1 x2 x3 => ([(1, .loc U13 .no x0), (2, .dead), (31, .v U0 x1), (32, .v U2 x2), (33, .v U2 x3)] : Env)
abbrev e72 := fun x0 x1 => ([(1, .loc U17 .no x0), (6, .v .bool x1)] : Env)
abbrev e73 := fun x0 x1 => ([(1, .loc U17 .no x0), (11, .v .bool x1)] : Env)
abbrev e74 := fun x0 => ([(1, .loc U17 .no x0), (2, .dead)] : Env)
abbrev e75 := fun x0 x1 x2 => ([(17, .v U15 x0), (18, .v U2 x1), (19, .v U2 x2)] : Env)
abbrev e76 := fun x0 x1 x2 x3 => ([(17, .v U15 x0), (18, .v U2 x1), (19, .v U2 x2), (20, .v .bool x3)] : Env)
abbrev e77 := fun x0 x1 x2 x3 x4 => ([(5, .v U2 x0), (17, .v U15 x1), (18, .v U2 x2), (19, .v U2 x3), (26, .v .bool x4)] : Env)
abbrev e78 := fun x0 => ([(2, .v U2 x0), (17, .dead), (18, .dead), (19, .dead)] : Env)
abbrev e79 := fun x0 x1 x2 => ([(2, .dead), (17, .v U15 x0), (18, .v U2 x1), (19, .v U2 x2)] : Env)
abbrev e80 := fun x0 x1 x2 x3 => ([(3, .own true 57 U13 .no x0), (6, .v U15 x1), (7, .v U2 x2), (8, .v U2 x3)] : Env)
abbrev e81 := fun x0 x1 x2 x3 x4 => ([(3, .own true 57 U13 .no x0), (6, .v U15 x1), (7, .v U2 x2), (8, .v U2 x3), (9, .v .bool x4)] : Env)
abbrev e82 := fun x0 => ([(3, .own true 57 U13 .no x0)] : Env)
abbrev e83 := fun x0 => ([(2, .ref 3 []), (3, .own true 57 U13 .no x0)] : Env)
abbrev e84 := fun x0 x1 => ([(0, .v U17 x0), (1, .v U17 x1)] : Env)
abbrev e85 := fun x0 x1 x2 => ([(2, .loc U17 .no x0), (3, .loc U17 .no x1), (4, .loc U17 (.pair .no (.pair (.own true 57 .no) .no)) x2)] : Env)
abbrev e86 := fun x0 x1 x2 x3 x4 => ([(2, .loc U17 .no x0), (3, .loc U17 .no x1), (4, .loc U17 (.pair .no (.pair (.own true 57 .no) .no)) x2), (6, .v U2 x3), (11, .v .bool x4)] : Env)
abbrev e87 := fun x0 x1 => ([(4, .loc U17 (.pair .no (.pair (.own true 57 .no) .no)) x0), (5, .v U2 x1)] : Env)
abbrev e88 := fun x0 x1 => ([(2, .dead), (3, .dead), (4, .loc U17 (.pair .no (.pair (.own true 57 .no) .no)) x0), (5, .v U2 x1)] : Env)
abbrev e89 := fun x0 x1 x2 => ([(2, .loc U17 .no x0), (3, .loc U17 .no x1), (4, .loc U17 (.pair .no (.pair (.own true 57 .no) .no)) x2), (5, .dead)] : Env)
abbrev e90 := fun x0 x1 x2 x3 x4 => ([(2, .loc U17 .no x0), (3, .loc U17 .no x1), (4, .loc U17 (.pair .no (.pair (.own true 57 .no) .no)) x2), (7, .v U2 x3), (17, .v .bool x4)] : Env)
abbrev e91 := fun x0 x1 x2 x3 => ([(2, .loc U17 .no x0), (3, .loc U17 .no x1), (4, .loc U17 (.pair .no (.pair (.own true 57 .no) .no)) x2), (27, .v .bool x3)] : Env)
abbrev e92 := fun x0 x1 => ([(4, .loc U17 .no x0), (5, .v U2 x1)] : Env)
abbrev e93 := fun x0 x1 => ([(0, .v .str x0), (11, .v .bool x1)] : Env)
abbrev e94 := fun x0 x1 x2 => ([(0, .v .str x0), (3, .v U2 x1), (15, .v .bool x2)] : Env)
abbrev e95 := fun x0 x1 x2 => ([(0, .v .str x0), (3, .v U2 x1), (25, .v .bool x2)] : Env)
abbrev e96 := fun x0 x1 x2 => ([(0, .v .str x0), (3, .v U2 x1), (54, .v .bool x2)] : Env)
abbrev e97 := fun x0 x1 x2 => ([(0, .v .str x0), (3, .own true 5 U1 .no x1), (4, .v U2 x2)] : Env)
abbrev e98 := fun x0 x1 x2 x3 => ([(0, .v .str x0), (3, .own true 5 U1 .no x1), (4, .v U2 x2), (11, .v .bool x3)] : Env)
abbrev e99 := fun x0 x1 x2 x3 => ([(0, .v .str x0), (3, .own true 5 U1 .no x1), (4, .v U2 x2), (29, .v .bool x3)] : Env)
abbrev e100 := fun x0 => ([(3, .own true 5 U1 .no x0)] : Env)
abbrev e101 := fun x0 x1 => ([(0, .v U1 x0), (9, .v .bool x1)] : Env)
abbrev e102 := fun x0 x1 => ([(0, .v U1 x0), (3, .v U2 x1)] : Env)
abbrev e103 := fun x0 x1 x2 => ([(0, .v U1 x0), (3, .v U2 x1), (11, .v .bool x2)] : Env)
abbrev e104 := fun x0 x1 x2 => ([(0, .v U1 x0), (3, .v U2 x1), (17, .v .bool x2)] : Env)
abbrev e105 := fun x0 => ([(0, .dead), (2, .v .bool x0), (3, .dead)] : Env)
abbrev e106 := fun x0 x1 => ([(0, .v U1 x0), (2, .dead), (3, .v U2 x1)] : Env)
abbrev e107 := fun x0 x1 => ([(0, .v .str x0), (6, .v .bool x1)] : Env)
abbrev e108 := fun x0 x1 => ([(0, .v .str x0), (14, .v .bool x1)] : Env)
abbrev e109 := fun x0 x1 x2 => ([(0, .v .str x0), (3, .v U2 x1), (18, .v .bool x2)] : Env)
abbrev e110 := fun x0 x1 x2 x3 => ([(0, .v U0 x0), (1, .v .str x1), (5, .v U2 x2), (9, .v .bool x3)] : Env)
abbrev e111 := fun x0 x1 x2 x3 => ([(0, .v U0 x0), (1, .v .str x1), (5, .v U2 x2), (17, .v .bool x3)] : Env)
abbrev e112 := fun x0 => ([(0, .dead), (1, .dead), (4, .v .bool x0), (5, .dead)] : Env)
abbrev e113 := fun x0 x1 x2 => ([(0, .v U0 x0), (1, .v .str x1), (4, .dead), (5, .v U2 x2)] : Env)
abbrev e114 := fun x0 x1 => ([(1, .loc U13 .no x0), (22, .v .bool x1)] : Env)
abbrev e115 := fun x0 x1 => ([(1, .loc U13 .no x0), (26, .v .bool x1)] : Env)
abbrev e116 := fun x0 x1 => ([(1, .loc U13 .no x0), (3, .v U2 x1)] : Env)
abbrev e117 := fun x0 x1 x2 => ([(1, .loc U13 .no x0), (3, .v U2 x1), (31, .v .bool x2)] : Env)
abbrev e118 := fun x0 x1 x2 x3 => ([(1, .loc U13 .no x0), (3, .v U2 x1), (4, .v U2 x2), (41, .v .bool x3)] : Env)
abbrev e119 := fun x0 => ([(1, .dead), (2, .v U2 x0), (3, .dead)] : Env)
abbrev e120 := fun x0 x1 => ([(1, .loc U13 .no x0), (2, .dead), (3, .v U2 x1)] : Env)
abbrev e121 := fun x0 x1 x2 => ([(1, .loc U13 .no x0), (3, .v U2 x1), (52, .v .bool x2)] : Env)
abbrev e122 := fun x0 x1 => ([(1, .loc U17 .no x0), (8, .v .bool x1)] : Env)
abbrev e123 := fun x0 x1 => ([(1, .loc U17 .no x0), (12, .v .bool x1)] : Env)
abbrev e124 := fun x0 x1 x2 => ([(1, .loc U17 .no x0), (3, .v U2 x1), (17, .v .bool x2)] : Env)
abbrev e125 := fun x0 x1 x2 x3 => ([(1, .loc U17 .no x0), (3, .v U2 x1), (4, .v U2 x2), (27, .v .bool x3)] : Env)
abbrev e126 := fun x0 x1 => ([(1, .loc U17 .no x0), (2, .dead), (3, .v U2 x1)] : Env)
abbrev e127 := fun x0 x1 => ([(0, .v U0 x0), (1, .v U0 x1)] : Env)
abbrev e128 := fun x0 x1 x2 => ([(0, .v U0 x0), (1, .v U0 x1), (10, .v .bool x2)] : Env)
abbrev e129 := fun x0 => ([(0, .dead), (1, .dead), (4, .v .bool x0)] : Env)
abbrev e130 := fun x0 x1 x2 => ([(0, .v U0 x0), (1, .v U0 x1), (5, .v U2 x2)] : Env)
abbrev e131 := fun x0 x1 x2 x3 => ([(0, .v U0 x0), (1, .v U0 x1), (5, .v U2 x2), (14, .v .bool x3)] : Env)
abbrev e132 := fun x0 x1 x2 x3 => ([(0, .v U0 x0), (1, .v U0 x1), (5, .v U2 x2), (25, .v .bool x3)] : Env)
abbrev e133 := fun x0 x1 x2 => ([(0, .v U0 x0), (1, .v U0 x1), (4, .dead), (5, .v U2 x2)] : Env)
abbrev e134 := fun x0 x1 x2 => ([(2, .loc U17 .no x0), (3, .loc U17 .no x1), (21, .v .bool x2)] : Env)
abbrev e135 := fun x0 => ([(2, .dead), (3, .dead), (4, .v .bool x0)] : Env)
abbrev e136 := fun x0 x1 x2 => ([(2, .loc U17 .no x0), (3, .loc U17 .no x1), (5, .v U2 x2)] : Env)
abbrev e137 := fun x0 x1 x2 x3 => ([(2, .loc U17 .no x0), (3, .loc U17 .no x1), (5, .v U2 x2), (26, .v .bool x3)] : Env)
abbrev e138 := fun x0 x1 x2 x3 => ([(2, .loc U17 .no x0), (3, .loc U17 .no x1), (5, .v U2 x2), (58, .v .bool x3)] : Env)
abbrev e139 := fun x0 => ([(2, .dead), (3, .dead), (4, .v .bool x0), (5, .dead)] : Env)
abbrev e140 := fun x0 x1 x2 => ([(2, .loc U17 .no x0), (3, .loc U17 .no x1), (4, .dead), (5, .v U2 x2)] : Env)
abbrev e141 := fun x0 x1 x2 => ([(0, .v U17 x0), (1, .v U2 x1), (2, .v .str x2)] : Env)
abbrev e142 := fun x0 x1 x2 x3 x4 x5 x6 => ([(1, .v U2 x0), (2, .v .str x1), (8, .v U2 x2), (9, .v .bool x3), (15, .v U15 x4), (16, .v U2 x5), (17, .v U2 x6)] : Env)
abbrev e143 := fun x0 x1 x2 x3 x4 x5 x6 x7 => ([(1, .v U2 x0), (2, .v .str x1), (8, .v U2 x2), (9, .v .bool x3), (15, .v U15 x4), (16, .v U2 x5), (17, .v U2 x6), (18, .v .bool x7)] : Env)
abbrev e144 := fun x0 x1 x2 x3 x4 x5 x6 x7 x8 => ([(1, .v U2 x0), (2, .v .str x1), (8, .v U2 x2), (9, .v .bool x3), (11, .loc U13 .no x4), (15, .v U15 x5), (16, .v U2 x6), (17, .v U2 x7), (39, .v .bool x8)] : Env)
abbrev e145 := fun x0 x1 => ([(8, .v U2 x0), (9, .v .bool x1)] : Env)
abbrev e146 := fun x0 x1 => ([(6, .v U2 x0), (7, .v .bool x1)] : Env)
abbrev e147 := fun x0 x1 x2 x3 x4 => ([(1, .v U2 x0), (3, .loc U17 .no x1), (8, .v U2 x2), (9, .v .bool x3), (10, .v .str x4)] : Env)
abbrev e148 := fun x0 x1 x2 x3 x4 x5 => ([(1, .v U2 x0), (3, .loc U17 .no x1), (8, .v U2 x2), (9, .v .bool x3), (10, .v .str x4), (11, .v U2 x5)] : Env)
abbrev e149 := fun x0 x1 x2 x3 x4 x5 x6 => ([(1, .v U2 x0), (3, .loc U17 .no x1), (8, .v U2 x2), (9, .v .bool x3), (10, .v .str x4), (11, .v U2 x5), (19, .v .bool x6)] : Env)
abbrev e150 := fun x0 x1 x2 x3 x4 x5 x6 => ([(1, .v U2 x0), (3, .loc U17 .no x1), (8, .v U2 x2), (9, .v .bool x3), (10, .v .str x4), (11, .v U2 x5), (12, .loc U13 .no x6)] : Env)
abbrev e151 := fun x0 x1 x2 x3 x4 x5 x6 x7 => ([(1, .v U2 x0), (3, .loc U17 .no x1), (8, .v U2 x2), (9, .v .bool x3), (10, .v .str x4), (11, .v U2 x5), (12, .loc U13 .no x6), (43, .v .bool x7)] : Env)
abbrev e152 := fun x0 x1 x2 x3 x4 x5 x6 x7 => ([(1, .v U2 x0), (3, .loc U17 .no x1), (8, .v U2 x2), (9, .v .bool x3), (10, .v .str x4), (11, .v U2 x5), (12, .loc U13 .no x6), (51, .v .bool x7)] : Env)
abbrev e153 := fun x0 x1 x2 => ([(0, .v U17 x0), (1, .v U17 x1), (2, .v .str x2)] : Env)
abbrev e154 := fun x0 x1 x2 x3 => ([(2, .v .str x0), (3, .loc U17 .no x1), (4, .loc U17 .no x2), (34, .v .bool x3)] : Env)
abbrev e155 := fun x0 => ([(2, .dead), (3, .dead), (4, .dead), (6, .v .bool x0)] : Env)
abbrev e156 := fun x0 x1 x2 => ([(2, .v .str x0), (3, .loc U17 .no x1), (4, .loc U17 .no x2), (6, .dead)] : Env)
abbrev e157 := fun x0 x1 x2 x3 x4 x5 x6 => ([(2, .v .str x0), (3, .loc U17 .no x1), (4, .loc U17 .no x2), (7, .loc U17 .no x3), (8, .v U2 x4), (9, .loc U17 .no x5), (10, .v U2 x6)] : Env)
abbrev e158 := fun x0 x1 x2 x3 x4 x5 x6 x7 => ([(2, .v .str x0), (3, .loc U17 .no x1), (4, .loc U17 .no x2), (7, .loc U17 .no x3), (8, .v U2 x4), (9, .loc U17 .no x5), (10, .v U2 x6), (62, .v .bool x7)] : Env)
abbrev e159 := fun x0 => ([(2, .dead), (3, .dead), (4, .dead), (6, .v .bool x0), (7, .dead)] : Env)
abbrev e160 := fun x0 x1 x2 x3 => ([(2, .v .str x0), (3, .loc U17 .no x1), (4, .loc U17 .no x2), (6, .dead), (7, .loc U17 .no x3)] : Env)
abbrev e161 := fun x0 x1 x2 x3 x4 => ([(2, .v .str x0), (3, .loc U17 .no x1), (4, .loc U17 .no x2), (7, .loc U17 .no x3), (11, .v U2 x4)] : Env)
abbrev e162 := fun x0 x1 x2 x3 x4 x5 => ([(2, .v .str x0), (3, .loc U17 .no x1), (4, .loc U17 .no x2), (7, .loc U17 .no x3), (11, .v U2 x4), (72, .v .bool x5)] : Env)
abbrev e163 := fun x0 x1 x2 x3 x4 x5 => ([(2, .v .str x0), (3, .loc U17 .no x1), (4, .loc U17 .no x2), (7, .loc U17 .no x3), (11, .v U2 x4), (138, .v .bool x5)] : Env)
abbrev e164 := fun x0 => ([(2, .dead), (3, .dead), (4, .dead), (6, .v .bool x0), (7, .dead), (11, .dead)] : Env)
abbrev e165 := fun x0 x1 x2 x3 x4 => ([(2, .v .str x0), (3, .loc U17 .no x1), (4, .loc U17 .no x2), (6, .dead), (7, .loc U17 .no x3), (11, .v U2 x4)] : Env)
variable {N : Nat} {cl : Cal} {R : Type} {K : KE R}
def g26_12 (k0 : V4 → Int → Int → Option R) (x0 : V4) (x1 : Int) : Option R :=
k0 x0 x1 (0 : Int)
theorem t26_12 (x0 x1) : exec cl N c26_12 [(0, .v U0 x0), (1, .v U2 x1)] K = (g26_12 (fun y0 y1 y2 => exec cl N (.seq (.seq c26_2 c26_10) (.seq c26_11 .ret)) [(0, .v U0 y0), (1, .v U2 y1), (5, .v U2 y2)] K) x0 x1) := by
 kernel_rfl
def g26_2 (k0 : V4 → Int → Int → Int → Option R) (x0 : V4) (x1 x2 : Int) : Option R :=
k0 x0 x1 x2 (0 : Int)
theorem t26_2 (x0 x1 x2) : exec cl N c26_2 [(0, .v U0 x0), (1, .v U2 x1), (5, .v U2 x2)] K = (g26_2 (fun y0 y1 y2 y3 => K .normal (e0 y0 y1 y2 y3)) x0 x1 x2) := by
 kernel_rfl
theorem kp26_0 (x0 x1 x2 x3) : keep [0, 1, 5, 6] (e0 x0 x1 x2 x3) = (e0 x0 x1 x2 x3) := by kernel_rfl
def g26_3 (k0 : V4 → Int → Int → Int → Bool → Option R) (x0 : V4) (x1 x2 x3 : Int) : Option R :=
brB (decide (x3 < (x0.length : Int))) (k0 x0 x1 x2 x3 (decide (x2 ≤ x1))) (k0 x0 x1 x2 x3 false)
theorem t26_3 (x0 x1 x2 x3) : exec cl N c26_3 (e0 x0 x1 x2 x3) K = (g26_3 (fun y0 y1 y2 y3 y4 => K .normal (e1 y0 y1 y2 y3 y4)) x0 x1 x2 x3) := by
 kernel_rfl
theorem kp26_1 (x0 x1 x2 x3 x4) : keep [0, 1, 5, 6] (e1 x0 x1 x2 x3 x4) = (e0 x0 x1 x2 x3) := by kernel_rfl
theorem hb26_0 (x0 x1 x2 x3 x4) : boolOf? (ent (e1 x0 x1 x2 x3 x4) (.t 15)) = some x4 := by kernel_rfl
def g26_5 (k0 : V4 → Int → Int → Int → Option R) (x0 : V4) (x1 x2 x3 : Int) : Option R :=
if 0 ≤ x3 ∧ x3 < (x0.length : Int) then
k0 x0 x1 (IntKind.i64.wrap ((IntKind.i64.wrap (x2 + (1 : Int))) + ((x0.getD x3.toNat []).length : Int))) x3
else none
theorem t26_5 (x0 x1 x2 x3) : exec cl N c26_5 (e0 x0 x1 x2 x3) K = (g26_5 (fun y0 y1 y2 y3 => K .normal (e0 y0 y1 y2 y3)) x0 x1 x2 x3) := by
 kernel_rfl
def g26_7 (k0 : V4 → Int → Int → Int → Option R) (x0 : V4) (x1 x2 x3 : Int) : Option R :=
k0 x0 x1 x2 (IntKind.i64.wrap (x3 + (1 : Int)))
theorem t26_7 (x0 x1 x2 x3) : exec cl N c26_7 (e0 x0 x1 x2 x3) K = (g26_7 (fun y0 y1 y2 y3 => K .normal (e0 y0 y1 y2 y3)) x0 x1 x2 x3) := by
 kernel_rfl
def g26_8 (k0 : V4 → Int → Int → Int → Option R) (k1 : V4 → Int → Int → Int → Option R) (x0 : V4) (x1 x2 x3 : Int) : Option R :=
(g26_3 (fun y0 y1 y2 y3 y4 => brB y4 ((g26_5 ((g26_7 k0))) y0 y1 y2 y3) (k1 y0 y1 y2 y3)) x0 x1 x2 x3)
theorem t26_8 (x0 x1 x2 x3) : exec cl N c26_8 (e0 x0 x1 x2 x3) K = (g26_8 (fun y0 y1 y2 y3 => K .normal (e0 y0 y1 y2 y3)) (fun y0 y1 y2 y3 => K (.exit 0) (e0 y0 y1 y2 y3)) x0 x1 x2 x3) := by
 simp only [c26_8, exec_seq, seqK_normal, seqK_exit, seqK_ret, t26_3, c26_4, exec_out, exec_cond', hb26_0, Option.bind_some, brB_true, brB_false, exec_skip, exec_exit, kp26_1, c26_6, exec_block, t26_5, blockK_normal, blockK_ret, blockK_eq, kp26_0, t26_7]
 rfl
def l26_9 {R : Type} (k0 : V4 → Int → Int → Int → Option R) : Nat → V4 → Int → Int → Int → Option R
 | 0, _, _, _, _ => none
 | m + 1, x0, x1, x2, x3 => (g26_8 (l26_9 k0 m) k0 x0 x1 x2 x3)
theorem lt26_9 : ∀ (m) (x0 x1 x2 x3), iter [0, 1, 5, 6] (fun env K => exec cl N c26_8 env K) K m (e0 x0 x1 x2 x3) = l26_9 (fun y0 y1 y2 y3 => K (.exit 0) (e0 y0 y1 y2 y3)) m x0 x1 x2 x3 := by
 intro m
 induction m with
 | zero => intros; rfl
 | succ m ih =>
   intro x0 x1 x2 x3
   simp only [iter_succ, t26_8, loopK_normal, loopK_exit, loopK_ret, kp26_0, ih]
   rfl
theorem kp26_2 (x0 x1 x2 x3) : keep [5] (e0 x0 x1 x2 x3) = [(5, .v U2 x2)] := by kernel_rfl
def g26_9 (N : Nat) (k0 : Int → Option R) (x0 : V4) (x1 x2 x3 : Int) : Option R :=
l26_9 (fun y0 y1 y2 y3 => k0 y2) N x0 x1 x2 x3
theorem t26_9 (x0 x1 x2 x3) : exec cl N c26_9 (e0 x0 x1 x2 x3) K = (g26_9 N (fun y0 => K (.exit 0) [(5, .v U2 y0)]) x0 x1 x2 x3) := by
 simp only [c26_9, exec_out, exec_loop, kp26_0, lt26_9, kp26_2]
 rfl
theorem kp26_3 (x0) : keep [5] [(5, .v U2 x0)] = [(5, .v U2 x0)] := by kernel_rfl
def g26_11 (k0 : Int → Option R) (x0 : Int) : Option R :=
k0 x0
theorem t26_11 (x0) : exec cl N c26_11 [(5, .v U2 x0)] K = (g26_11 (fun y0 => K .normal [(4, .v U2 y0)]) x0) := by
 kernel_rfl
def g26_12b (N : Nat) (k0 : Int → Option R) (x0 : V4) (x1 : Int) : Option R :=
(g26_12 (g26_2 (g26_9 N ((g26_11 k0)))) x0 x1)
theorem t26_12b (x0 x1) : exec cl N c26_12 [(0, .v U0 x0), (1, .v U2 x1)] K = (g26_12b N (fun y0 => K .ret [(4, .v U2 y0)]) x0 x1) := by
 simp only [exec_seq, seqK_normal, seqK_exit, seqK_ret, t26_12, t26_2, c26_10, exec_out, exec_block, t26_9, blockK_normal, blockK_ret, blockK_eq, kp26_3, t26_11, exec_ret]
 rfl
theorem rk26_0 (y0) : retK d26 .ret [(4, .v U2 y0)] = some [.v U2 y0] := by kernel_rfl
def g26 (N : Nat) (x0 : V4) (x1 : Int) (k : Int → Option R) : Option R :=
(g26_12b N k x0 x1)
theorem gen26 (x0 x1) (k : List E → Option R) : exec cl N c26 [(0, .v U0 x0), (1, .v U2 x1)] (fun e env => (retK d26 e env).bind k) = g26 N x0 x1 (fun r0 => k [.v U2 r0]) := by
 simp only [c26, t26_12b, rk26_0, Option.bind_some]
 rfl
def ctr26 (S : V4 → Int → Option (Int)) : Ctr := cv2 26 U0 U2 S fun b => [.v U2 b]
def S26 (N : Nat) (x0 : V4) (x1 : Int) : Option (Int) := g26 N x0 x1 (fun (r0 : Int) => some (r0))
def g8_12 (k0 : V14 → Int → Option R) (x0 : V14) : Option R :=
k0 x0 (x0.1.length : Int)
theorem t8_12 (x0) : exec cl N c8_12 [(0, .v U17 x0)] K = (g8_12 (fun y0 y1 => exec cl N (.seq (.seq c8_2 c8_10) (.seq c8_11 .ret)) (e2 y0 y1) K) x0) := by
 kernel_rfl
def g8_2 (k0 : V14 → Int → Int → Option R) (x0 : V14) (x1 : Int) : Option R :=
k0 x0 x1 (0 : Int)
theorem t8_2 (x0 x1) : exec cl N c8_2 (e2 x0 x1) K = (g8_2 (fun y0 y1 y2 => K .normal (e3 y0 y1 y2)) x0 x1) := by
 kernel_rfl
theorem kp8_0 (x0 x1 x2) : keep [1, 3, 4] (e3 x0 x1 x2) = (e3 x0 x1 x2) := by kernel_rfl
def g8_3 (k0 : V14 → Int → Int → Bool → Option R) (x0 : V14) (x1 x2 : Int) : Option R :=
brB (decide (x2 < (x0.2.1.length : Int))) (k0 x0 x1 x2 (decide (x2 < (50 : Int)))) (k0 x0 x1 x2 false)
theorem t8_3 (x0 x1 x2) : exec cl N c8_3 (e3 x0 x1 x2) K = (g8_3 (fun y0 y1 y2 y3 => K .normal (e4 y0 y1 y2 y3)) x0 x1 x2) := by
 kernel_rfl
theorem kp8_1 (x0 x1 x2 x3) : keep [1, 3, 4] (e4 x0 x1 x2 x3) = (e3 x0 x1 x2) := by kernel_rfl
theorem hb8_0 (x0 x1 x2 x3) : boolOf? (ent (e4 x0 x1 x2 x3) (.t 16)) = some x3 := by kernel_rfl
def g8_5 (S26 : V4 → Int → Option (Int)) (k0 : V14 → Int → Int → Option R) (x0 : V14) (x1 x2 : Int) : Option R :=
if 0 ≤ x2 ∧ x2 < (x0.2.1.length : Int) then
(S26 ((x0.2.1.getD x2.toNat ((0 : Int), ((0 : Int), ([], ())))).2.2.1) (1500 : Int)).bind fun r21 =>
k0 x0 (IntKind.i64.wrap (x1 + r21)) x2
else none
theorem t8_5 (S26) (h26 : (ctr26 S26).holds cl) (x0 x1 x2) : exec cl N c8_5 (e3 x0 x1 x2) K = (g8_5 S26 (fun y0 y1 y2 => K .normal (e3 y0 y1 y2)) x0 x1 x2) := by
 rw [← put_eq h26]
 kernel_rfl
def g8_7 (k0 : V14 → Int → Int → Option R) (x0 : V14) (x1 x2 : Int) : Option R :=
k0 x0 x1 (IntKind.i64.wrap (x2 + (1 : Int)))
theorem t8_7 (x0 x1 x2) : exec cl N c8_7 (e3 x0 x1 x2) K = (g8_7 (fun y0 y1 y2 => K .normal (e3 y0 y1 y2)) x0 x1 x2) := by
 kernel_rfl
def g8_8 (S26 : V4 → Int → Option (Int)) (k0 : V14 → Int → Int → Option R) (k1 : V14 → Int → Int → Option R) (x0 : V14) (x1 x2 : Int) : Option R :=
(g8_3 (fun y0 y1 y2 y3 => brB y3 ((g8_5 S26 ((g8_7 k0))) y0 y1 y2) (k1 y0 y1 y2)) x0 x1 x2)
theorem t8_8 (S26) (h26 : (ctr26 S26).holds cl) (x0 x1 x2) : exec cl N c8_8 (e3 x0 x1 x2) K = (g8_8 S26 (fun y0 y1 y2 => K .normal (e3 y0 y1 y2)) (fun y0 y1 y2 => K (.exit 0) (e3 y0 y1 y2)) x0 x1 x2) := by
 simp only [c8_8, exec_seq, seqK_normal, seqK_exit, seqK_ret, t8_3, c8_4, exec_out, exec_cond', hb8_0, Option.bind_some, brB_true, brB_false, exec_skip, exec_exit, kp8_1, c8_6, exec_block, t8_5 S26 h26, blockK_normal, blockK_ret, blockK_eq, kp8_0, t8_7]
 rfl
def l8_9 {R : Type} (S26 : V4 → Int → Option (Int)) (k0 : V14 → Int → Int → Option R) : Nat → V14 → Int → Int → Option R
 | 0, _, _, _ => none
 | m + 1, x0, x1, x2 => (g8_8 S26 (l8_9 S26 k0 m) k0 x0 x1 x2)
theorem lt8_9 (S26) (h26 : (ctr26 S26).holds cl) : ∀ (m) (x0 x1 x2), iter [1, 3, 4] (fun env K => exec cl N c8_8 env K) K m (e3 x0 x1 x2) = l8_9 S26 (fun y0 y1 y2 => K (.exit 0) (e3 y0 y1 y2)) m x0 x1 x2 := by
 intro m
 induction m with
 | zero => intros; rfl
 | succ m ih =>
   intro x0 x1 x2
   simp only [iter_succ, t8_8 S26 h26, loopK_normal, loopK_exit, loopK_ret, kp8_0, ih]
   rfl
theorem kp8_2 (x0 x1 x2) : keep [1, 3] (e3 x0 x1 x2) = (e2 x0 x1) := by kernel_rfl
def g8_9 (N : Nat) (S26 : V4 → Int → Option (Int)) (k0 : V14 → Int → Option R) (x0 : V14) (x1 x2 : Int) : Option R :=
l8_9 S26 (fun y0 y1 y2 => k0 y0 y1) N x0 x1 x2
theorem t8_9 (S26) (h26 : (ctr26 S26).holds cl) (x0 x1 x2) : exec cl N c8_9 (e3 x0 x1 x2) K = (g8_9 N S26 (fun y0 y1 => K (.exit 0) (e2 y0 y1)) x0 x1 x2) := by
 simp only [c8_9, exec_out, exec_loop, kp8_0, lt8_9 S26 h26, kp8_2]
 rfl
theorem kp8_3 (x0 x1) : keep [1, 3] (e2 x0 x1) = (e2 x0 x1) := by kernel_rfl
def g8_11 (k0 : Bool → Option R) (x0 : V14) (x1 : Int) : Option R :=
brB (decide ((x0.2.1.length : Int) ≤ (40 : Int))) (k0 (decide (x1 ≤ (1500 : Int)))) (k0 false)
theorem t8_11 (x0 x1) : exec cl N c8_11 (e2 x0 x1) K = (g8_11 (fun y0 => K .normal [(2, .v .bool y0)]) x0 x1) := by
 kernel_rfl
def g8_12b (N : Nat) (S26 : V4 → Int → Option (Int)) (k0 : Bool → Option R) (x0 : V14) : Option R :=
(g8_12 (g8_2 (g8_9 N S26 ((g8_11 k0)))) x0)
theorem t8_12b (S26) (h26 : (ctr26 S26).holds cl) (x0) : exec cl N c8_12 [(0, .v U17 x0)] K = (g8_12b N S26 (fun y0 => K .ret [(2, .v .bool y0)]) x0) := by
 simp only [exec_seq, seqK_normal, seqK_exit, seqK_ret, t8_12, t8_2, c8_10, exec_out, exec_block, t8_9 S26 h26, blockK_normal, blockK_ret, blockK_eq, kp8_3, t8_11, exec_ret]
 rfl
theorem rk8_0 (y0) : retK d8 .ret [(2, .v .bool y0)] = some [.v .bool y0] := by kernel_rfl
def g8 (N : Nat) (S26 : V4 → Int → Option (Int)) (x0 : V14) (k : Bool → Option R) : Option R :=
(g8_12b N S26 k x0)
theorem gen8 (S26) (h26 : (ctr26 S26).holds cl) (x0) (k : List E → Option R) : exec cl N c8 [(0, .v U17 x0)] (fun e env => (retK d8 e env).bind k) = g8 N S26 x0 (fun r0 => k [.v .bool r0]) := by
 simp only [c8, t8_12b S26 h26, rk8_0, Option.bind_some]
 rfl
def ctr8 (S : V14 → Option (Bool)) : Ctr := cv1 8 U17 S fun b => [.v .bool b]
def S8 (N : Nat) (x0 : V14) : Option (Bool) := g8 N (S26 N) x0 (fun (r0 : Bool) => some (r0))
def g19_14 (S47 : V11 → Option V12) (k0 : V14 → V14 → Option R) (x0 : V14) : Option R :=
(S47 x0.2.1).bind fun r35 =>
k0 (x0.1, (r35, x0.2.2)) ([], ([], ()))
theorem t19_14 (S47) (h47 : (ctr47 S47).holds cl) (x0) : exec cl N c19_14 [(0, .v U17 x0)] K = (g19_14 S47 (fun y0 y1 => exec cl N (.seq (.seq c19_2 c19_12) (.seq c19_13 .ret)) (e5 y0 y1) K) x0) := by
 rw [← put_eq h47]
 kernel_rfl
def g19_2 (k0 : V14 → V14 → Int → Int → Option R) (x0 x1 : V14) : Option R :=
k0 x0 x1 (x0.2.1.length : Int) (0 : Int)
theorem t19_2 (x0 x1) : exec cl N c19_2 (e5 x0 x1) K = (g19_2 (fun y0 y1 y2 y3 => K .normal (e6 y0 y1 y2 y3)) x0 x1) := by
 kernel_rfl
theorem kp19_0 (x0 x1 x2 x3) : keep [1, 2, 10, 11] (e6 x0 x1 x2 x3) = (e6 x0 x1 x2 x3) := by kernel_rfl
def g19_3 (k0 : V14 → V14 → Int → Int → Bool → Option R) (x0 x1 : V14) (x2 x3 : Int) : Option R :=
k0 x0 x1 x2 x3 (decide (x3 < x2))
theorem t19_3 (x0 x1 x2 x3) : exec cl N c19_3 (e6 x0 x1 x2 x3) K = (g19_3 (fun y0 y1 y2 y3 y4 => K .normal (e7 y0 y1 y2 y3 y4)) x0 x1 x2 x3) := by
 kernel_rfl
theorem kp19_1 (x0 x1 x2 x3 x4) : keep [1, 2, 10, 11] (e7 x0 x1 x2 x3 x4) = (e6 x0 x1 x2 x3) := by kernel_rfl
theorem hb19_0 (x0 x1 x2 x3 x4) : boolOf? (ent (e7 x0 x1 x2 x3 x4) (.t 12)) = some x4 := by kernel_rfl
def g19_7 (S48 : V4 → Option V6) (k0 : V14 → V14 → Int → Int → Option R) (x0 x1 : V14) (x2 x3 : Int) : Option R :=
if 0 ≤ x3 ∧ x3 < (x0.2.1.length : Int) then
if x3.toNat < x0.2.1.length then
(S48 ((x0.2.1.getD x3.toNat ((0 : Int), ((0 : Int), ([], ())))).2.2.1)).bind fun r38 =>
if 0 ≤ x3 ∧ x3 < (x0.2.1.length : Int) then
if x3.toNat < x0.2.1.length then
k0 (x0.1, ((x0.2.1.set x3.toNat ((x0.2.1.getD x3.toNat ((0 : Int), ((0 : Int), ([], ())))).1, ((x0.2.1.getD x3.toNat ((0 : Int), ((0 : Int), ([], ())))).2.1, (r38, (x0.2.1.getD x3.toNat ((0 : Int), ((0 : Int), ([], ())))).2.2.2)))), x0.2.2)) x1 x2 x3
else none
else none
else none
else none
theorem t19_7 (S48) (h48 : (ctr48 S48).holds cl) (x0 x1 x2 x3) : exec cl N c19_7 (e6 x0 x1 x2 x3) K = (g19_7 S48 (fun y0 y1 y2 y3 => K .normal (e6 y0 y1 y2 y3)) x0 x1 x2 x3) := by
 rw [← put_eq h48]
 kernel_rfl
def g19_9 (k0 : V14 → V14 → Int → Int → Option R) (x0 x1 : V14) (x2 x3 : Int) : Option R :=
k0 x0 x1 x2 (IntKind.i64.wrap (x3 + (1 : Int)))
theorem t19_9 (x0 x1 x2 x3) : exec cl N c19_9 (e6 x0 x1 x2 x3) K = (g19_9 (fun y0 y1 y2 y3 => K .normal (e6 y0 y1 y2 y3)) x0 x1 x2 x3) := by
 kernel_rfl
def g19_10 (S48 : V4 → Option V6) (k0 : V14 → V14 → Int → Int → Option R) (k1 : V14 → V14 → Int → Int → Option R) (x0 x1 : V14) (x2 x3 : Int) : Option R :=
(g19_3 (fun y0 y1 y2 y3 y4 => brB y4 ((g19_7 S48 ((g19_9 k0))) y0 y1 y2 y3) (k1 y0 y1 y2 y3)) x0 x1 x2 x3)
theorem t19_10 (S48) (h48 : (ctr48 S48).holds cl) (x0 x1 x2 x3) : exec cl N c19_10 (e6 x0 x1 x2 x3) K = (g19_10 S48 (fun y0 y1 y2 y3 => K .normal (e6 y0 y1 y2 y3)) (fun y0 y1 y2 y3 => K (.exit 0) (e6 y0 y1 y2 y3)) x0 x1 x2 x3) := by
 simp only [c19_10, exec_seq, seqK_normal, seqK_exit, seqK_ret, t19_3, c19_4, exec_out, exec_cond', hb19_0, Option.bind_some, brB_true, brB_false, exec_skip, exec_exit, kp19_1, c19_8, exec_block, t19_7 S48 h48, blockK_normal, blockK_ret, blockK_eq, kp19_0, t19_9]
 rfl
def l19_11 {R : Type} (S48 : V4 → Option V6) (k0 : V14 → V14 → Int → Int → Option R) : Nat → V14 → V14 → Int → Int → Option R
 | 0, _, _, _, _ => none
 | m + 1, x0, x1, x2, x3 => (g19_10 S48 (l19_11 S48 k0 m) k0 x0 x1 x2 x3)
theorem lt19_11 (S48) (h48 : (ctr48 S48).holds cl) : ∀ (m) (x0 x1 x2 x3), iter [1, 2, 10, 11] (fun env K => exec cl N c19_10 env K) K m (e6 x0 x1 x2 x3) = l19_11 S48 (fun y0 y1 y2 y3 => K (.exit 0) (e6 y0 y1 y2 y3)) m x0 x1 x2 x3 := by
 intro m
 induction m with
 | zero => intros; rfl
 | succ m ih =>
   intro x0 x1 x2 x3
   simp only [iter_succ, t19_10 S48 h48, loopK_normal, loopK_exit, loopK_ret, kp19_0, ih]
   rfl
theorem kp19_2 (x0 x1 x2 x3) : keep [1, 2] (e6 x0 x1 x2 x3) = (e5 x0 x1) := by kernel_rfl
def g19_11 (N : Nat) (S48 : V4 → Option V6) (k0 : V14 → V14 → Option R) (x0 x1 : V14) (x2 x3 : Int) : Option R :=
l19_11 S48 (fun y0 y1 y2 y3 => k0 y0 y1) N x0 x1 x2 x3
theorem t19_11 (S48) (h48 : (ctr48 S48).holds cl) (x0 x1 x2 x3) : exec cl N c19_11 (e6 x0 x1 x2 x3) K = (g19_11 N S48 (fun y0 y1 => K (.exit 0) (e5 y0 y1)) x0 x1 x2 x3) := by
 simp only [c19_11, exec_out, exec_loop, kp19_0, lt19_11 S48 h48, kp19_2]
 rfl
theorem kp19_3 (x0 x1) : keep [1, 2] (e5 x0 x1) = (e5 x0 x1) := by kernel_rfl
def g19_13 (k0 : V14 → Option R) (x0 x1 : V14) : Option R :=
k0 x0
theorem t19_13 (x0 x1) : exec cl N c19_13 (e5 x0 x1) K = (g19_13 (fun y0 => K .normal [(2, .loc U17 .no y0)]) x0 x1) := by
 kernel_rfl
def g19_14b (N : Nat) (S47 : V11 → Option V12) (S48 : V4 → Option V6) (k0 : V14 → Option R) (x0 : V14) : Option R :=
(g19_14 S47 (g19_2 (g19_11 N S48 ((g19_13 k0)))) x0)
theorem t19_14b (S47) (S48) (h47 : (ctr47 S47).holds cl) (h48 : (ctr48 S48).holds cl) (x0) : exec cl N c19_14 [(0, .v U17 x0)] K = (g19_14b N S47 S48 (fun y0 => K .ret [(2, .loc U17 .no y0)]) x0) := by
 simp only [exec_seq, seqK_normal, seqK_exit, seqK_ret, t19_14 S47 h47, t19_2, c19_12, exec_out, exec_block, t19_11 S48 h48, blockK_normal, blockK_ret, blockK_eq, kp19_3, t19_13, exec_ret]
 rfl
theorem rk19_0 (y0) : retK d19 .ret [(2, .loc U17 .no y0)] = some [.v U17 y0] := by kernel_rfl
def g19 (N : Nat) (S47 : V11 → Option V12) (S48 : V4 → Option V6) (x0 : V14) (k : V14 → Option R) : Option R :=
(g19_14b N S47 S48 k x0)
theorem gen19 (S47) (S48) (h47 : (ctr47 S47).holds cl) (h48 : (ctr48 S48).holds cl) (x0) (k : List E → Option R) : exec cl N c19 [(0, .v U17 x0)] (fun e env => (retK d19 e env).bind k) = g19 N S47 S48 x0 (fun r0 => k [.v U17 r0]) := by
 simp only [c19, t19_14b S47 S48 h47 h48, rk19_0, Option.bind_some]
 rfl
def ctr19 (S : V14 → Option V15) : Ctr := cv1 19 U17 S fun b => [.v U17 b]
def S19 (N : Nat) (x0 : V14) : Option V15 := g19 N (S47 N) (S48 N) x0 (fun (r0 : V14) => some (r0))
def g76_2 (k0 : Bool → Option R) (x0 : Int) : Option R :=
brB (decide (x0 ≥ (97 : Int))) (k0 (decide (x0 ≤ (122 : Int)))) (k0 false)
theorem t76_2 (x0) : exec cl N c76_2 [(0, .v U1 x0)] K = (g76_2 (fun y0 => exec cl N .ret [(2, .v .bool y0)] K) x0) := by
 kernel_rfl
def g76_2b (k0 : Bool → Option R) (x0 : Int) : Option R :=
(g76_2 k0 x0)
theorem t76_2b (x0) : exec cl N c76_2 [(0, .v U1 x0)] K = (g76_2b (fun y0 => K .ret [(2, .v .bool y0)]) x0) := by
 simp only [exec_seq, seqK_normal, seqK_exit, seqK_ret, t76_2, exec_ret]
 rfl
theorem rk76_0 (y0) : retK d76 .ret [(2, .v .bool y0)] = some [.v .bool y0] := by kernel_rfl
def g76 (x0 : Int) (k : Bool → Option R) : Option R :=
(g76_2b k x0)
theorem gen76 (x0) (k : List E → Option R) : exec cl N c76 [(0, .v U1 x0)] (fun e env => (retK d76 e env).bind k) = g76 x0 (fun r0 => k [.v .bool r0]) := by
 simp only [c76, t76_2b, rk76_0, Option.bind_some]
 rfl
def ctr76 (S : Int → Option (Bool)) : Ctr := cv1 76 U1 S fun b => [.v .bool b]
def S76 (N : Nat) (x0 : Int) : Option (Bool) := g76 x0 (fun (r0 : Bool) => some (r0))
def g77_2 (k0 : Bool → Option R) (x0 : Int) : Option R :=
brB (decide (x0 ≥ (48 : Int))) (k0 (decide (x0 ≤ (57 : Int)))) (k0 false)
theorem t77_2 (x0) : exec cl N c77_2 [(0, .v U1 x0)] K = (g77_2 (fun y0 => exec cl N .ret [(2, .v .bool y0)] K) x0) := by
 kernel_rfl
def g77_2b (k0 : Bool → Option R) (x0 : Int) : Option R :=
(g77_2 k0 x0)
theorem t77_2b (x0) : exec cl N c77_2 [(0, .v U1 x0)] K = (g77_2b (fun y0 => K .ret [(2, .v .bool y0)]) x0) := by
 simp only [exec_seq, seqK_normal, seqK_exit, seqK_ret, t77_2, exec_ret]
 rfl
theorem rk77_0 (y0) : retK d77 .ret [(2, .v .bool y0)] = some [.v .bool y0] := by kernel_rfl
def g77 (x0 : Int) (k : Bool → Option R) : Option R :=
(g77_2b k x0)
theorem gen77 (x0) (k : List E → Option R) : exec cl N c77 [(0, .v U1 x0)] (fun e env => (retK d77 e env).bind k) = g77 x0 (fun r0 => k [.v .bool r0]) := by
 simp only [c77, t77_2b, rk77_0, Option.bind_some]
 rfl
def ctr77 (S : Int → Option (Bool)) : Ctr := cv1 77 U1 S fun b => [.v .bool b]
def S77 (N : Nat) (x0 : Int) : Option (Bool) := g77 x0 (fun (r0 : Bool) => some (r0))
def g65_0 (k0 : V1 → Option R) (x0 : V1) : Option R :=
k0 x0
theorem t65_0 (x0) : exec cl N c65_0 [(0, .v .str x0)] K = (g65_0 (fun y0 => K .normal [(0, .v .str y0)]) x0) := by
 kernel_rfl
def g65_1 (S76 : Int → Option (Bool)) (k0 : V1 → Bool → Option R) (x0 : V1) : Option R :=
brB (x0 == ([] : List UInt8)) (k0 x0 true) (if 0 ≤ (0 : Int) ∧ (0 : Int) < (x0.length : Int) then
(S76 ((x0.getD (0 : Int).toNat 0).toNat : Int)).bind fun r72 =>
k0 x0 (!r72)
else none)
theorem t65_1 (S76) (h76 : (ctr76 S76).holds cl) (x0) : exec cl N c65_1 [(0, .v .str x0)] K = (g65_1 S76 (fun y0 y1 => K .normal (e8 y0 y1)) x0) := by
 rw [← put_eq h76]
 kernel_rfl
def g65_2 (k0 : Int → Option R) (x0 : V1) (x1 : Bool) : Option R :=
k0 (0 : Int)
theorem t65_2 (x0 x1) : exec cl N c65_2 (e8 x0 x1) K = (g65_2 (fun y0 => K .normal [(2, .v U2 y0)]) x0 x1) := by
 kernel_rfl
theorem kp65_0 (x0) : keep [0, 2] [(2, .v U2 x0)] = (e9 x0) := by kernel_rfl
theorem kp65_1 (x0 x1) : keep [0, 2] (e8 x0 x1) = (e10 x0) := by kernel_rfl
theorem hb65_0 (x0 x1) : boolOf? (ent (e8 x0 x1) (.t 12)) = some x1 := by kernel_rfl
def g65_4 (k0 : V1 → Int → Option R) (x0 : V1) : Option R :=
k0 x0 (1 : Int)
theorem t65_4 (x0) : exec cl N c65_4 (e10 x0) K = (g65_4 (fun y0 y1 => K .normal (e11 y0 y1)) x0) := by
 kernel_rfl
theorem kp65_2 (x0 x1) : keep [0, 3] (e11 x0 x1) = (e11 x0 x1) := by kernel_rfl
def g65_5 (k0 : V1 → Int → Bool → Option R) (x0 : V1) (x1 : Int) : Option R :=
k0 x0 x1 (decide (x1 < (x0.length : Int)))
theorem t65_5 (x0 x1) : exec cl N c65_5 (e11 x0 x1) K = (g65_5 (fun y0 y1 y2 => K .normal (e12 y0 y1 y2)) x0 x1) := by
 kernel_rfl
theorem kp65_3 (x0 x1 x2) : keep [0, 3] (e12 x0 x1 x2) = (e11 x0 x1) := by kernel_rfl
theorem hb65_1 (x0 x1 x2) : boolOf? (ent (e12 x0 x1 x2) (.t 16)) = some x2 := by kernel_rfl
def g65_7 (k0 : V1 → Int → Int → Option R) (x0 : V1) (x1 : Int) : Option R :=
if 0 ≤ x1 ∧ x1 < (x0.length : Int) then
k0 x0 x1 ((x0.getD x1.toNat 0).toNat : Int)
else none
theorem t65_7 (x0 x1) : exec cl N c65_7 (e11 x0 x1) K = (g65_7 (fun y0 y1 y2 => K .normal [(0, .v .str y0), (3, .v U2 y1), (4, .v U1 y2)]) x0 x1) := by
 kernel_rfl
def g65_8 (S76 : Int → Option (Bool)) (S77 : Int → Option (Bool)) (k0 : V1 → Int → Int → Bool → Option R) (x0 : V1) (x1 x2 : Int) : Option R :=
(S76 x2).bind fun r75 =>
brB r75 (k0 x0 x1 x2 true) ((S77 x2).bind fun r76 =>
k0 x0 x1 x2 r76)
theorem t65_8 (S76) (S77) (h76 : (ctr76 S76).holds cl) (h77 : (ctr77 S77).holds cl) (x0 x1 x2) : exec cl N c65_8 [(0, .v .str x0), (3, .v U2 x1), (4, .v U1 x2)] K = (g65_8 S76 S77 (fun y0 y1 y2 y3 => K .normal (e13 y0 y1 y2 y3)) x0 x1 x2) := by
 rw [← put_eq h76]
 rw [← put_eq h77]
 kernel_rfl
def g65_9 (k0 : V1 → Int → Option R) (x0 : V1) (x1 x2 : Int) (x3 : Bool) : Option R :=
k0 x0 (IntKind.i64.wrap (x1 + (1 : Int)))
theorem t65_9 (x0 x1 x2 x3) : exec cl N c65_9 (e13 x0 x1 x2 x3) K = (g65_9 (fun y0 y1 => K .normal (e11 y0 y1)) x0 x1 x2 x3) := by
 kernel_rfl
theorem kp65_4 (x0 x1) : keep [0, 2, 3] (e11 x0 x1) = (e14 x0 x1) := by kernel_rfl
def g65_10 (S76 : Int → Option (Bool)) (S77 : Int → Option (Bool)) (k0 : V1 → Int → Bool → Option R) (x0 : V1) (x1 x2 : Int) (x3 : Bool) : Option R :=
brB (x2 == (45 : Int)) (brB (decide ((IntKind.i64.wrap (x1 + (1 : Int))) < (x0.length : Int))) (let v81 : Int := (IntKind.i64.wrap (x1 + (1 : Int)))
if 0 ≤ v81 ∧ v81 < (x0.length : Int) then
(S76 ((x0.getD v81.toNat 0).toNat : Int)).bind fun r83 =>
brB r83 (k0 x0 x1 true) (let v84 : Int := (IntKind.i64.wrap (x1 + (1 : Int)))
if 0 ≤ v84 ∧ v84 < (x0.length : Int) then
(S77 ((x0.getD v84.toNat 0).toNat : Int)).bind fun r86 =>
k0 x0 x1 r86
else none)
else none) (k0 x0 x1 false)) (k0 x0 x1 false)
theorem t65_10 (S76) (S77) (h76 : (ctr76 S76).holds cl) (h77 : (ctr77 S77).holds cl) (x0 x1 x2 x3) : exec cl N c65_10 (e13 x0 x1 x2 x3) K = (g65_10 S76 S77 (fun y0 y1 y2 => K .normal (e15 y0 y1 y2)) x0 x1 x2 x3) := by
 rw [← put_eq h76]
 rw [← put_eq h77]
 kernel_rfl
def g65_11 (k0 : V1 → Int → Option R) (x0 : V1) (x1 : Int) (x2 : Bool) : Option R :=
k0 x0 (IntKind.i64.wrap (x1 + (2 : Int)))
theorem t65_11 (x0 x1 x2) : exec cl N c65_11 (e15 x0 x1 x2) K = (g65_11 (fun y0 y1 => K .normal (e11 y0 y1)) x0 x1 x2) := by
 kernel_rfl
def g65_12 (k0 : Int → Option R) (x0 : V1) (x1 : Int) (x2 : Bool) : Option R :=
k0 x1
theorem t65_12 (x0 x1 x2) : exec cl N c65_12 (e15 x0 x1 x2) K = (g65_12 (fun y0 => K .normal [(2, .v U2 y0)]) x0 x1 x2) := by
 kernel_rfl
theorem kp65_5 (x0) : keep [0, 2, 3] [(2, .v U2 x0)] = (e16 x0) := by kernel_rfl
theorem hb65_2 (x0 x1 x2) : boolOf? (ent (e15 x0 x1 x2) (.t 30)) = some x2 := by kernel_rfl
theorem kp65_6 (x0 x1) : keep [0, 2, 3] (e14 x0 x1) = (e14 x0 x1) := by kernel_rfl
theorem kp65_7 (x0) : keep [0, 2, 3] (e16 x0) = (e16 x0) := by kernel_rfl
theorem hb65_3 (x0 x1 x2 x3) : boolOf? (ent (e13 x0 x1 x2 x3) (.t 21)) = some x3 := by kernel_rfl
def g65_17 (S76 : Int → Option (Bool)) (S77 : Int → Option (Bool)) (k0 : V1 → Int → Option R) (k1 : Int → Option R) (k2 : V1 → Int → Option R) (x0 : V1) (x1 : Int) : Option R :=
(g65_5 (fun y0 y1 y2 => brB y2 ((g65_7 (g65_8 S76 S77 (fun y0 y1 y2 y3 => brB y3 (g65_9 k0 y0 y1 y2 y3) (g65_10 S76 S77 (fun y0 y1 y2 => brB y2 (g65_11 k0 y0 y1 y2) (g65_12 k1 y0 y1 y2)) y0 y1 y2 y3)))) y0 y1) (k2 y0 y1)) x0 x1)
theorem t65_17 (S76) (S77) (h76 : (ctr76 S76).holds cl) (h77 : (ctr77 S77).holds cl) (x0 x1) : exec cl N c65_17 (e11 x0 x1) K = (g65_17 S76 S77 (fun y0 y1 => K .normal (e14 y0 y1)) (fun y0 => K .ret (e16 y0)) (fun y0 y1 => K (.exit 0) (e11 y0 y1)) x0 x1) := by
 simp only [c65_17, exec_seq, seqK_normal, seqK_exit, seqK_ret, t65_5, c65_6, exec_out, exec_cond', hb65_1, Option.bind_some, brB_true, brB_false, exec_skip, exec_exit, kp65_3, c65_16, exec_block, t65_7, c65_15, t65_8 S76 S77 h76 h77, c65_14, hb65_3, t65_9, t65_10 S76 S77 h76 h77, c65_13, hb65_2, t65_11, t65_12, exec_ret, kp65_4, kp65_5, kp65_6, kp65_7, blockK_normal, blockK_ret, blockK_eq]
 rfl
theorem kp65_8 (x0 x1) : keep [0, 3] (e14 x0 x1) = (e11 x0 x1) := by kernel_rfl
def l65_18 {R : Type} (S76 : Int → Option (Bool)) (S77 : Int → Option (Bool)) (k0 : Int → Option R) (k1 : V1 → Int → Option R) : Nat → V1 → Int → Option R
 | 0, _, _ => none
 | m + 1, x0, x1 => (g65_17 S76 S77 (l65_18 S76 S77 k0 k1 m) k0 k1 x0 x1)
theorem lt65_18 (S76) (S77) (h76 : (ctr76 S76).holds cl) (h77 : (ctr77 S77).holds cl) : ∀ (m) (x0 x1), iter [0, 3] (fun env K => exec cl N c65_17 env K) K m (e11 x0 x1) = l65_18 S76 S77 (fun y0 => K .ret (e16 y0)) (fun y0 y1 => K (.exit 0) (e11 y0 y1)) m x0 x1 := by
 intro m
 induction m with
 | zero => intros; rfl
 | succ m ih =>
   intro x0 x1
   simp only [iter_succ, t65_17 S76 S77 h76 h77, loopK_normal, loopK_exit, loopK_ret, kp65_8, ih]
   rfl
theorem kp65_9 (x0) : keep [2, 3] (e16 x0) = (e17 x0) := by kernel_rfl
theorem kp65_10 (x0 x1) : keep [2, 3] (e11 x0 x1) = (e18 x1) := by kernel_rfl
def g65_18 (N : Nat) (S76 : Int → Option (Bool)) (S77 : Int → Option (Bool)) (k0 : Int → Option R) (k1 : Int → Option R) (x0 : V1) (x1 : Int) : Option R :=
l65_18 S76 S77 k0 (fun y0 y1 => k1 y1) N x0 x1
theorem t65_18 (S76) (S77) (h76 : (ctr76 S76).holds cl) (h77 : (ctr77 S77).holds cl) (x0 x1) : exec cl N c65_18 (e11 x0 x1) K = (g65_18 N S76 S77 (fun y0 => K .ret (e17 y0)) (fun y0 => K (.exit 0) (e18 y0)) x0 x1) := by
 simp only [c65_18, exec_out, exec_loop, kp65_2, lt65_18 S76 S77 h76 h77, kp65_10, kp65_9]
 rfl
theorem kp65_11 (x0) : keep [2, 3] (e17 x0) = (e17 x0) := by kernel_rfl
theorem kp65_12 (x0) : keep [2, 3] (e18 x0) = (e18 x0) := by kernel_rfl
def g65_20 (k0 : Int → Option R) (x0 : Int) : Option R :=
k0 x0
theorem t65_20 (x0) : exec cl N c65_20 (e18 x0) K = (g65_20 (fun y0 => K .normal [(2, .v U2 y0)]) x0) := by
 kernel_rfl
def g65_21 (N : Nat) (S76 : Int → Option (Bool)) (S77 : Int → Option (Bool)) (k0 : Int → Option R) (k1 : Int → Option R) (k2 : Int → Option R) (x0 : V1) : Option R :=
(g65_0 (g65_1 S76 (fun y0 y1 => brB y1 (g65_2 k0 y0 y1) ((g65_4 (g65_18 N S76 S77 k1 ((g65_20 k2)))) y0))) x0)
theorem t65_21 (S76) (S77) (h76 : (ctr76 S76).holds cl) (h77 : (ctr77 S77).holds cl) (x0) : exec cl N c65_21 [(0, .v .str x0)] K = (g65_21 N S76 S77 (fun y0 => K .ret (e9 y0)) (fun y0 => K .ret (e17 y0)) (fun y0 => K .ret [(2, .v U2 y0)]) x0) := by
 simp only [c65_21, exec_seq, seqK_normal, seqK_exit, seqK_ret, t65_0, t65_1 S76 h76, c65_3, exec_out, exec_cond', hb65_0, Option.bind_some, brB_true, brB_false, t65_2, exec_ret, exec_skip, kp65_0, kp65_1, t65_4, c65_19, exec_block, t65_18 S76 S77 h76 h77, blockK_normal, blockK_ret, blockK_eq, kp65_11, kp65_12, t65_20]
 rfl
theorem rk65_0 (y0) : retK d65 .ret (e9 y0) = some [.v U2 y0] := by kernel_rfl
theorem rk65_1 (y0) : retK d65 .ret (e17 y0) = some [.v U2 y0] := by kernel_rfl
theorem rk65_2 (y0) : retK d65 .ret [(2, .v U2 y0)] = some [.v U2 y0] := by kernel_rfl
def g65 (N : Nat) (S76 : Int → Option (Bool)) (S77 : Int → Option (Bool)) (x0 : V1) (k : Int → Option R) : Option R :=
(g65_21 N S76 S77 k k k x0)
theorem gen65 (S76) (S77) (h76 : (ctr76 S76).holds cl) (h77 : (ctr77 S77).holds cl) (x0) (k : List E → Option R) : exec cl N c65 [(0, .v .str x0)] (fun e env => (retK d65 e env).bind k) = g65 N S76 S77 x0 (fun r0 => k [.v U2 r0]) := by
 simp only [c65, t65_21 S76 S77 h76 h77, rk65_0, rk65_1, rk65_2, Option.bind_some]
 rfl
def ctr65 (S : V1 → Option (Int)) : Ctr := cv1 65 .str S fun b => [.v U2 b]
def S65 (N : Nat) (x0 : V1) : Option (Int) := g65 N (S76 N) (S77 N) x0 (fun (r0 : Int) => some (r0))
def g42_2 (S65 : V1 → Option (Int)) (k0 : Bool → Option R) (x0 : V1) : Option R :=
brB (x0 != ([] : List UInt8)) (brB (decide ((x0.length : Int) ≤ (20 : Int))) ((S65 x0).bind fun r92 =>
k0 (r92 == (x0.length : Int))) (k0 false)) (k0 false)
theorem t42_2 (S65) (h65 : (ctr65 S65).holds cl) (x0) : exec cl N c42_2 [(0, .v .str x0)] K = (g42_2 S65 (fun y0 => exec cl N .ret [(2, .v .bool y0)] K) x0) := by
 rw [← put_eq h65]
 kernel_rfl
def g42_2b (S65 : V1 → Option (Int)) (k0 : Bool → Option R) (x0 : V1) : Option R :=
(g42_2 S65 k0 x0)
theorem t42_2b (S65) (h65 : (ctr65 S65).holds cl) (x0) : exec cl N c42_2 [(0, .v .str x0)] K = (g42_2b S65 (fun y0 => K .ret [(2, .v .bool y0)]) x0) := by
 simp only [exec_seq, seqK_normal, seqK_exit, seqK_ret, t42_2 S65 h65, exec_ret]
 rfl
theorem rk42_0 (y0) : retK d42 .ret [(2, .v .bool y0)] = some [.v .bool y0] := by kernel_rfl
def g42 (S65 : V1 → Option (Int)) (x0 : V1) (k : Bool → Option R) : Option R :=
(g42_2b S65 k x0)
theorem gen42 (S65) (h65 : (ctr65 S65).holds cl) (x0) (k : List E → Option R) : exec cl N c42 [(0, .v .str x0)] (fun e env => (retK d42 e env).bind k) = g42 S65 x0 (fun r0 => k [.v .bool r0]) := by
 simp only [c42, t42_2b S65 h65, rk42_0, Option.bind_some]
 rfl
def ctr42 (S : V1 → Option (Bool)) : Ctr := cv1 42 .str S fun b => [.v .bool b]
def S42 (N : Nat) (x0 : V1) : Option (Bool) := g42 (S65 N) x0 (fun (r0 : Bool) => some (r0))
def g80_2 (S86 : V1 → Int → Option (Int)) (k0 : Int → Option R) (x0 : V1) (x1 : Int) : Option R :=
(S86 x0 x1).bind fun r109 =>
k0 r109
theorem t80_2 (S86) (h86 : (ctr86 S86).holds cl) (x0 x1) : exec cl N c80_2 [(0, .v .str x0), (1, .v U1 x1)] K = (g80_2 S86 (fun y0 => exec cl N .ret [(4, .v U2 y0)] K) x0 x1) := by
 rw [← put_eq h86]
 kernel_rfl
def g80_2b (S86 : V1 → Int → Option (Int)) (k0 : Int → Option R) (x0 : V1) (x1 : Int) : Option R :=
(g80_2 S86 k0 x0 x1)
theorem t80_2b (S86) (h86 : (ctr86 S86).holds cl) (x0 x1) : exec cl N c80_2 [(0, .v .str x0), (1, .v U1 x1)] K = (g80_2b S86 (fun y0 => K .ret [(4, .v U2 y0)]) x0 x1) := by
 simp only [exec_seq, seqK_normal, seqK_exit, seqK_ret, t80_2 S86 h86, exec_ret]
 rfl
theorem rk80_0 (y0) : retK d80 .ret [(4, .v U2 y0)] = some [.v U2 y0] := by kernel_rfl
def g80 (S86 : V1 → Int → Option (Int)) (x0 : V1) (x1 : Int) (k : Int → Option R) : Option R :=
(g80_2b S86 k x0 x1)
theorem gen80 (S86) (h86 : (ctr86 S86).holds cl) (x0 x1) (k : List E → Option R) : exec cl N c80 [(0, .v .str x0), (1, .v U1 x1)] (fun e env => (retK d80 e env).bind k) = g80 S86 x0 x1 (fun r0 => k [.v U2 r0]) := by
 simp only [c80, t80_2b S86 h86, rk80_0, Option.bind_some]
 rfl
def ctr80 (S : V1 → Int → Option (Int)) : Ctr := cv2 80 .str U1 S fun b => [.v U2 b]
def S80 (N : Nat) (x0 : V1) (x1 : Int) : Option (Int) := g80 (S86 N) x0 x1 (fun (r0 : Int) => some (r0))
def g89_2 (S80 : V1 → Int → Option (Int)) (k0 : Bool → Option R) (x0 : Int) : Option R :=
brB (decide (x0 ≥ (32 : Int))) (brB (decide (x0 ≤ (126 : Int))) ((S80 ([32, 46, 44, 59, 58, 33, 63, 34, 45, 91, 93, 60, 62, 123, 125] : List UInt8) x0).bind fun r114 =>
k0 (decide (r114 < (0 : Int)))) (k0 false)) (k0 false)
theorem t89_2 (S80) (h80 : (ctr80 S80).holds cl) (x0) : exec cl N c89_2 [(0, .v U1 x0)] K = (g89_2 S80 (fun y0 => exec cl N .ret [(2, .v .bool y0)] K) x0) := by
 rw [← put_eq h80]
 kernel_rfl
def g89_2b (S80 : V1 → Int → Option (Int)) (k0 : Bool → Option R) (x0 : Int) : Option R :=
(g89_2 S80 k0 x0)
theorem t89_2b (S80) (h80 : (ctr80 S80).holds cl) (x0) : exec cl N c89_2 [(0, .v U1 x0)] K = (g89_2b S80 (fun y0 => K .ret [(2, .v .bool y0)]) x0) := by
 simp only [exec_seq, seqK_normal, seqK_exit, seqK_ret, t89_2 S80 h80, exec_ret]
 rfl
theorem rk89_0 (y0) : retK d89 .ret [(2, .v .bool y0)] = some [.v .bool y0] := by kernel_rfl
def g89 (S80 : V1 → Int → Option (Int)) (x0 : Int) (k : Bool → Option R) : Option R :=
(g89_2b S80 k x0)
theorem gen89 (S80) (h80 : (ctr80 S80).holds cl) (x0) (k : List E → Option R) : exec cl N c89 [(0, .v U1 x0)] (fun e env => (retK d89 e env).bind k) = g89 S80 x0 (fun r0 => k [.v .bool r0]) := by
 simp only [c89, t89_2b S80 h80, rk89_0, Option.bind_some]
 rfl
def ctr89 (S : Int → Option (Bool)) : Ctr := cv1 89 U1 S fun b => [.v .bool b]
def S89 (N : Nat) (x0 : Int) : Option (Bool) := g89 (S80 N) x0 (fun (r0 : Bool) => some (r0))
def g88_2 (S89 : Int → Option (Bool)) (k0 : Bool → Option R) (x0 : Int) : Option R :=
(S89 x0).bind fun r117 =>
k0 (!r117)
theorem t88_2 (S89) (h89 : (ctr89 S89).holds cl) (x0) : exec cl N c88_2 [(0, .v U1 x0)] K = (g88_2 S89 (fun y0 => exec cl N .ret [(2, .v .bool y0)] K) x0) := by
 rw [← put_eq h89]
 kernel_rfl
def g88_2b (S89 : Int → Option (Bool)) (k0 : Bool → Option R) (x0 : Int) : Option R :=
(g88_2 S89 k0 x0)
theorem t88_2b (S89) (h89 : (ctr89 S89).holds cl) (x0) : exec cl N c88_2 [(0, .v U1 x0)] K = (g88_2b S89 (fun y0 => K .ret [(2, .v .bool y0)]) x0) := by
 simp only [exec_seq, seqK_normal, seqK_exit, seqK_ret, t88_2 S89 h89, exec_ret]
 rfl
theorem rk88_0 (y0) : retK d88 .ret [(2, .v .bool y0)] = some [.v .bool y0] := by kernel_rfl
def g88 (S89 : Int → Option (Bool)) (x0 : Int) (k : Bool → Option R) : Option R :=
(g88_2b S89 k x0)
theorem gen88 (S89) (h89 : (ctr89 S89).holds cl) (x0) (k : List E → Option R) : exec cl N c88 [(0, .v U1 x0)] (fun e env => (retK d88 e env).bind k) = g88 S89 x0 (fun r0 => k [.v .bool r0]) := by
 simp only [c88, t88_2b S89 h89, rk88_0, Option.bind_some]
 rfl
def ctr88 (S : Int → Option (Bool)) : Ctr := cv1 88 U1 S fun b => [.v .bool b]
def S88 (N : Nat) (x0 : Int) : Option (Bool) := g88 (S89 N) x0 (fun (r0 : Bool) => some (r0))
def g92_0 (k0 : V0 → V8 → Option R) (x0 : V0) (x1 : V8) : Option R :=
k0 x0 x1
theorem t92_0 (x0 x1) : exec cl N c92_0 (e19 x0 x1) K = (g92_0 (fun y0 y1 => K .normal (e19 y0 y1)) x0 x1) := by
 kernel_rfl
def g92_1 (k0 : V0 → V8 → Int → Int → Option R) (x0 : V0) (x1 : V8) : Option R :=
k0 x0 x1 (x0.length : Int) (0 : Int)
theorem t92_1 (x0 x1) : exec cl N c92_1 (e19 x0 x1) K = (g92_1 (fun y0 y1 y2 y3 => K .normal (e20 y0 y1 y2 y3)) x0 x1) := by
 kernel_rfl
theorem kp92_0 (x0 x1 x2 x3) : keep [0, 1, 7, 8] (e20 x0 x1 x2 x3) = (e20 x0 x1 x2 x3) := by kernel_rfl
def g92_2 (k0 : V0 → V8 → Int → Int → Bool → Option R) (x0 : V0) (x1 : V8) (x2 x3 : Int) : Option R :=
k0 x0 x1 x2 x3 (decide (x3 < x2))
theorem t92_2 (x0 x1 x2 x3) : exec cl N c92_2 (e20 x0 x1 x2 x3) K = (g92_2 (fun y0 y1 y2 y3 y4 => K .normal (e21 y0 y1 y2 y3 y4)) x0 x1 x2 x3) := by
 kernel_rfl
theorem kp92_1 (x0 x1 x2 x3 x4) : keep [0, 1, 7, 8] (e21 x0 x1 x2 x3 x4) = (e20 x0 x1 x2 x3) := by kernel_rfl
theorem hb92_0 (x0 x1 x2 x3 x4) : boolOf? (ent (e21 x0 x1 x2 x3 x4) (.t 9)) = some x4 := by kernel_rfl
def g92_8 (k0 : V0 → V8 → Int → Int → Int → Bool → Option R) (x0 : V0) (x1 : V8) (x2 x3 : Int) : Option R :=
if 0 ≤ x3 ∧ x3 < (x0.length : Int) then
(x1 ((x0.getD x3.toNat (0 : Int)), ())).bind fun r124 =>
k0 x0 x1 x3 x2 x3 r124
else none
theorem t92_8 (x0 x1 x2 x3) : exec cl N c92_8 (e20 x0 x1 x2 x3) K = (g92_8 (fun y0 y1 y2 y3 y4 y5 => exec cl N c92_7 (e22 y0 y1 y2 y3 y4 y5) K) x0 x1 x2 x3) := by
 kernel_rfl
def g92_6 (k0 : Int → Option R) (x0 : V0) (x1 : V8) (x2 x3 x4 : Int) (x5 : Bool) : Option R :=
k0 x2
theorem t92_6 (x0 x1 x2 x3 x4 x5) : exec cl N c92_6 (e22 x0 x1 x2 x3 x4 x5) K = (g92_6 (fun y0 => K .normal [(4, .v U2 y0)]) x0 x1 x2 x3 x4 x5) := by
 kernel_rfl
theorem kp92_2 (x0) : keep [0, 1, 4, 7, 8] [(4, .v U2 x0)] = (e23 x0) := by kernel_rfl
theorem kp92_3 (x0 x1 x2 x3 x4 x5) : keep [0, 1, 4, 7, 8] (e22 x0 x1 x2 x3 x4 x5) = (e24 x0 x1 x3 x4) := by kernel_rfl
theorem hb92_1 (x0 x1 x2 x3 x4 x5) : boolOf? (ent (e22 x0 x1 x2 x3 x4 x5) (.t 16)) = some x5 := by kernel_rfl
theorem kp92_4 (x0) : keep [0, 1, 4, 7, 8] (e23 x0) = (e23 x0) := by kernel_rfl
theorem kp92_5 (x0 x1 x2 x3) : keep [0, 1, 4, 7, 8] (e24 x0 x1 x2 x3) = (e24 x0 x1 x2 x3) := by kernel_rfl
def g92_10 (k0 : V0 → V8 → Int → Int → Option R) (x0 : V0) (x1 : V8) (x2 x3 : Int) : Option R :=
k0 x0 x1 x2 (IntKind.i64.wrap (x3 + (1 : Int)))
theorem t92_10 (x0 x1 x2 x3) : exec cl N c92_10 (e24 x0 x1 x2 x3) K = (g92_10 (fun y0 y1 y2 y3 => K .normal (e20 y0 y1 y2 y3)) x0 x1 x2 x3) := by
 kernel_rfl
def g92_11 (k0 : Int → Option R) (k1 : V0 → V8 → Int → Int → Option R) (k2 : V0 → V8 → Int → Int → Option R) (x0 : V0) (x1 : V8) (x2 x3 : Int) : Option R :=
(g92_2 (fun y0 y1 y2 y3 y4 => brB y4 ((g92_8 (fun y0 y1 y2 y3 y4 y5 => brB y5 (g92_6 k0 y0 y1 y2 y3 y4 y5) (((g92_10 k1)) y0 y1 y3 y4))) y0 y1 y2 y3) (k2 y0 y1 y2 y3)) x0 x1 x2 x3)
theorem t92_11 (x0 x1 x2 x3) : exec cl N c92_11 (e20 x0 x1 x2 x3) K = (g92_11 (fun y0 => K .ret (e23 y0)) (fun y0 y1 y2 y3 => K .normal (e20 y0 y1 y2 y3)) (fun y0 y1 y2 y3 => K (.exit 0) (e20 y0 y1 y2 y3)) x0 x1 x2 x3) := by
 simp only [c92_11, exec_seq, seqK_normal, seqK_exit, seqK_ret, t92_2, c92_3, exec_out, exec_cond', hb92_0, Option.bind_some, brB_true, brB_false, exec_skip, exec_exit, kp92_1, c92_9, exec_block, t92_8, c92_7, hb92_1, t92_6, exec_ret, kp92_2, kp92_3, blockK_normal, blockK_ret, blockK_eq, kp92_4, kp92_5, t92_10]
 rfl
def l92_12 {R : Type} (k0 : Int → Option R) (k1 : V0 → V8 → Int → Int → Option R) : Nat → V0 → V8 → Int → Int → Option R
 | 0, _, _, _, _ => none
 | m + 1, x0, x1, x2, x3 => (g92_11 k0 (l92_12 k0 k1 m) k1 x0 x1 x2 x3)
theorem lt92_12 : ∀ (m) (x0 x1 x2 x3), iter [0, 1, 7, 8] (fun env K => exec cl N c92_11 env K) K m (e20 x0 x1 x2 x3) = l92_12 (fun y0 => K .ret (e23 y0)) (fun y0 y1 y2 y3 => K (.exit 0) (e20 y0 y1 y2 y3)) m x0 x1 x2 x3 := by
 intro m
 induction m with
 | zero => intros; rfl
 | succ m ih =>
   intro x0 x1 x2 x3
   simp only [iter_succ, t92_11, loopK_normal, loopK_exit, loopK_ret, kp92_0, ih]
   rfl
theorem kp92_6 (x0) : keep [4] (e23 x0) = [(4, .v U2 x0)] := by kernel_rfl
theorem kp92_7 (x0 x1 x2 x3) : keep [4] (e20 x0 x1 x2 x3) = [(4, .dead)] := by kernel_rfl
def g92_12 (N : Nat) (k0 : Int → Option R) (k1 : Option R) (x0 : V0) (x1 : V8) (x2 x3 : Int) : Option R :=
l92_12 k0 (fun y0 y1 y2 y3 => k1) N x0 x1 x2 x3
theorem t92_12 (x0 x1 x2 x3) : exec cl N c92_12 (e20 x0 x1 x2 x3) K = (g92_12 N (fun y0 => K .ret [(4, .v U2 y0)]) (K (.exit 0) [(4, .dead)]) x0 x1 x2 x3) := by
 simp only [c92_12, exec_out, exec_loop, kp92_0, lt92_12, kp92_6, kp92_7]
 rfl
theorem kp92_8 (x0) : keep [4] [(4, .v U2 x0)] = [(4, .v U2 x0)] := by kernel_rfl
theorem kp92_9 : keep [4] [(4, .dead)] = [(4, .dead)] := by kernel_rfl
def g92_14 (k0 : Int → Option R) : Option R :=
k0 (-1 : Int)
theorem t92_14 : exec cl N c92_14 [(4, .dead)] K = (g92_14 (fun y0 => K .normal [(4, .v U2 y0)])) := by
 kernel_rfl
def g92_15 (N : Nat) (k0 : Int → Option R) (x0 : V0) (x1 : V8) : Option R :=
(g92_0 (g92_1 (g92_12 N k0 (g92_14 k0))) x0 x1)
theorem t92_15 (x0 x1) : exec cl N c92_15 (e19 x0 x1) K = (g92_15 N (fun y0 => K .ret [(4, .v U2 y0)]) x0 x1) := by
 simp only [c92_15, exec_seq, seqK_normal, seqK_exit, seqK_ret, t92_0, t92_1, c92_13, exec_out, exec_block, t92_12, blockK_normal, blockK_ret, blockK_eq, kp92_8, kp92_9, t92_14, exec_ret]
 rfl
theorem rk92_0 (y0) : retK d92 .ret [(4, .v U2 y0)] = some [.v U2 y0] := by kernel_rfl
def g92 (N : Nat) (x0 : V0) (x1 : V8) (k : Int → Option R) : Option R :=
(g92_15 N k x0 x1)
theorem gen92 (x0 x1) (k : List E → Option R) : exec cl N c92 (e19 x0 x1) (fun e env => (retK d92 e env).bind k) = g92 N x0 x1 (fun r0 => k [.v U2 r0]) := by
 simp only [c92, t92_15, rk92_0, Option.bind_some]
 rfl
def ctr92 (S : V0 → V8 → Option (Int)) : Ctr := cv2 92 U3 U8 S fun b => [.v U2 b]
def S92 (N : Nat) (x0 : V0) (x1 : V8) : Option (Int) := g92 N x0 x1 (fun (r0 : Int) => some (r0))
def g87_2 (S92 : V0 → V8 → Option (Int)) (k0 : Bool → Option R) (x0 : V0) (x1 : V8) : Option R :=
(S92 x0 x1).bind fun r128 =>
k0 (decide (r128 ≥ (0 : Int)))
theorem t87_2 (S92) (h92 : (ctr92 S92).holds cl) (x0 x1) : exec cl N c87_2 (e19 x0 x1) K = (g87_2 S92 (fun y0 => exec cl N .ret [(4, .v .bool y0)] K) x0 x1) := by
 rw [← put_eq h92]
 kernel_rfl
def g87_2b (S92 : V0 → V8 → Option (Int)) (k0 : Bool → Option R) (x0 : V0) (x1 : V8) : Option R :=
(g87_2 S92 k0 x0 x1)
theorem t87_2b (S92) (h92 : (ctr92 S92).holds cl) (x0 x1) : exec cl N c87_2 (e19 x0 x1) K = (g87_2b S92 (fun y0 => K .ret [(4, .v .bool y0)]) x0 x1) := by
 simp only [exec_seq, seqK_normal, seqK_exit, seqK_ret, t87_2 S92 h92, exec_ret]
 rfl
theorem rk87_0 (y0) : retK d87 .ret [(4, .v .bool y0)] = some [.v .bool y0] := by kernel_rfl
def g87 (S92 : V0 → V8 → Option (Int)) (x0 : V0) (x1 : V8) (k : Bool → Option R) : Option R :=
(g87_2b S92 k x0 x1)
theorem gen87 (S92) (h92 : (ctr92 S92).holds cl) (x0 x1) (k : List E → Option R) : exec cl N c87 (e19 x0 x1) (fun e env => (retK d87 e env).bind k) = g87 S92 x0 x1 (fun r0 => k [.v .bool r0]) := by
 simp only [c87, t87_2b S92 h92, rk87_0, Option.bind_some]
 rfl
def ctr87 (S : V0 → V8 → Option (Bool)) : Ctr := cv2 87 U3 U8 S fun b => [.v .bool b]
def S87 (N : Nat) (x0 : V0) (x1 : V8) : Option (Bool) := g87 (S92 N) x0 x1 (fun (r0 : Bool) => some (r0))
def g90_0 (k0 : V4 → V1 → Option R) (x0 : V4) (x1 : V1) : Option R :=
k0 x0 x1
theorem t90_0 (x0 x1) : exec cl N c90_0 (e25 x0 x1) K = (g90_0 (fun y0 y1 => K .normal (e25 y0 y1)) x0 x1) := by
 kernel_rfl
def g90_1 (k0 : V4 → V1 → Int → Option R) (x0 : V4) (x1 : V1) : Option R :=
k0 x0 x1 (x0.length : Int)
theorem t90_1 (x0 x1) : exec cl N c90_1 (e25 x0 x1) K = (g90_1 (fun y0 y1 y2 => K .normal [(0, .v U0 y0), (1, .v .str y1), (12, .v U2 y2)]) x0 x1) := by
 kernel_rfl
def g90_2 (k0 : V4 → V1 → Int → Bool → Option R) (x0 : V4) (x1 : V1) (x2 : Int) : Option R :=
k0 x0 x1 x2 (x2 == (0 : Int))
theorem t90_2 (x0 x1 x2) : exec cl N c90_2 [(0, .v U0 x0), (1, .v .str x1), (12, .v U2 x2)] K = (g90_2 (fun y0 y1 y2 y3 => K .normal (e26 y0 y1 y2 y3)) x0 x1 x2) := by
 kernel_rfl
def g90_3 (k0 : V1 → Option R) (x0 : V4) (x1 : V1) (x2 : Int) (x3 : Bool) : Option R :=
k0 ([] : List UInt8)
theorem t90_3 (x0 x1 x2 x3) : exec cl N c90_3 (e26 x0 x1 x2 x3) K = (g90_3 (fun y0 => K .normal [(4, .v .str y0)]) x0 x1 x2 x3) := by
 kernel_rfl
theorem kp90_0 (x0) : keep [0, 1, 4] [(4, .v .str x0)] = (e27 x0) := by kernel_rfl
def g90_4 (k0 : V4 → V1 → Bool → Option R) (x0 : V4) (x1 : V1) (x2 : Int) (x3 : Bool) : Option R :=
k0 x0 x1 (x2 == (1 : Int))
theorem t90_4 (x0 x1 x2 x3) : exec cl N c90_4 (e26 x0 x1 x2 x3) K = (g90_4 (fun y0 y1 y2 => K .normal (e28 y0 y1 y2)) x0 x1 x2 x3) := by
 kernel_rfl
def g90_5 (k0 : V1 → Option R) (x0 : V4) (x1 : V1) (x2 : Bool) : Option R :=
if 0 ≤ (0 : Int) ∧ (0 : Int) < (x0.length : Int) then
k0 (x0.getD (0 : Int).toNat [])
else none
theorem t90_5 (x0 x1 x2) : exec cl N c90_5 (e28 x0 x1 x2) K = (g90_5 (fun y0 => K .normal [(4, .v .str y0)]) x0 x1 x2) := by
 kernel_rfl
theorem kp90_1 (x0 x1 x2) : keep [0, 1, 4] (e28 x0 x1 x2) = (e29 x0 x1) := by kernel_rfl
theorem hb90_0 (x0 x1 x2) : boolOf? (ent (e28 x0 x1 x2) (.t 15)) = some x2 := by kernel_rfl
theorem kp90_2 (x0) : keep [0, 1, 4] (e27 x0) = (e27 x0) := by kernel_rfl
theorem kp90_3 (x0 x1) : keep [0, 1, 4] (e29 x0 x1) = (e29 x0 x1) := by kernel_rfl
theorem hb90_1 (x0 x1 x2 x3) : boolOf? (ent (e26 x0 x1 x2 x3) (.t 13)) = some x3 := by kernel_rfl
def g90_9 (k0 : V4 → V1 → Int → Option R) (x0 : V4) (x1 : V1) : Option R :=
k0 x0 x1 (0 : Int)
theorem t90_9 (x0 x1) : exec cl N c90_9 (e29 x0 x1) K = (g90_9 (fun y0 y1 y2 => K .normal (e30 y0 y1 y2)) x0 x1) := by
 kernel_rfl
def g90_10 (k0 : V4 → V1 → Int → Bool → Option R) (x0 : V4) (x1 : V1) (x2 : Int) : Option R :=
k0 x0 x1 x2 (decide ((x1.length : Int) > (0 : Int)))
theorem t90_10 (x0 x1 x2) : exec cl N c90_10 (e30 x0 x1 x2) K = (g90_10 (fun y0 y1 y2 y3 => K .normal (e31 y0 y1 y2 y3)) x0 x1 x2) := by
 kernel_rfl
def g90_11 (k0 : V4 → V1 → Int → Bool → Option R) (x0 : V4) (x1 : V1) (x2 : Int) (x3 : Bool) : Option R :=
let v149 : Int := (IntKind.i64.wrap ((x0.length : Int) - (1 : Int)))
if v149 = 0 then none else
k0 x0 x1 x2 (decide ((x1.length : Int) ≥ (IntKind.i64.wrap (Int.tdiv (9223372036854775807 : Int) v149))))
theorem t90_11 (x0 x1 x2 x3) : exec cl N c90_11 (e31 x0 x1 x2 x3) K = (g90_11 (fun y0 y1 y2 y3 => K .normal (e32 y0 y1 y2 y3)) x0 x1 x2 x3) := by
 kernel_rfl
def g90_12 (x0 : V4) (x1 : V1) (x2 : Int) (x3 : Bool) : Option R :=
none /- operation makeInterface -/
theorem t90_12 (x0 x1 x2 x3) : exec cl N c90_12 (e32 x0 x1 x2 x3) K = (g90_12 x0 x1 x2 x3) := by
 kernel_rfl
theorem kp90_4 (x0 x1 x2 x3) : keep [0, 1, 5] (e32 x0 x1 x2 x3) = (e30 x0 x1 x2) := by kernel_rfl
theorem hb90_2 (x0 x1 x2 x3) : boolOf? (ent (e32 x0 x1 x2 x3) (.t 29)) = some x3 := by kernel_rfl
def g90_14 (k0 : V4 → V1 → Int → Option R) (x0 : V4) (x1 : V1) (x2 : Int) : Option R :=
k0 x0 x1 (IntKind.i64.wrap (x2 + (IntKind.i64.wrap ((x1.length : Int) * (IntKind.i64.wrap ((x0.length : Int) - (1 : Int)))))))
theorem t90_14 (x0 x1 x2) : exec cl N c90_14 (e30 x0 x1 x2) K = (g90_14 (fun y0 y1 y2 => K .normal (e30 y0 y1 y2)) x0 x1 x2) := by
 kernel_rfl
theorem kp90_5 (x0 x1 x2) : keep [0, 1, 5] (e30 x0 x1 x2) = (e30 x0 x1 x2) := by kernel_rfl
theorem kp90_6 (x0 x1 x2 x3) : keep [0, 1, 5] (e31 x0 x1 x2 x3) = (e30 x0 x1 x2) := by kernel_rfl
theorem hb90_3 (x0 x1 x2 x3) : boolOf? (ent (e31 x0 x1 x2 x3) (.t 22)) = some x3 := by kernel_rfl
def g90_16 (k0 : V4 → V1 → Int → Option R) (x0 : V4) (x1 : V1) (x2 : Int) : Option R :=
(g90_10 (fun y0 y1 y2 y3 => brB y3 (g90_11 (fun y0 y1 y2 y3 => brB y3 (g90_12 y0 y1 y2 y3) ((g90_14 k0) y0 y1 y2)) y0 y1 y2 y3) (k0 y0 y1 y2)) x0 x1 x2)
theorem t90_16 (x0 x1 x2) : exec cl N c90_16 (e30 x0 x1 x2) K = (g90_16 (fun y0 y1 y2 => K .normal (e30 y0 y1 y2)) x0 x1 x2) := by
 simp only [c90_16, exec_seq, seqK_normal, seqK_exit, seqK_ret, t90_10, c90_15, exec_out, exec_cond', hb90_3, Option.bind_some, brB_true, brB_false, t90_11, c90_13, hb90_2, t90_12, exec_skip, kp90_4, t90_14, kp90_5, kp90_6]
 rfl
def g90_17 (k0 : V4 → V1 → Int → V4 → Int → Int → Option R) (x0 : V4) (x1 : V1) (x2 : Int) : Option R :=
k0 x0 x1 x2 x0 (x0.length : Int) (0 : Int)
theorem t90_17 (x0 x1 x2) : exec cl N c90_17 (e30 x0 x1 x2) K = (g90_17 (fun y0 y1 y2 y3 y4 y5 => K .normal (e33 y0 y1 y2 y3 y4 y5)) x0 x1 x2) := by
 kernel_rfl
theorem kp90_7 (x0 x1 x2 x3 x4 x5) : keep [0, 1, 5, 39, 40, 41] (e33 x0 x1 x2 x3 x4 x5) = (e33 x0 x1 x2 x3 x4 x5) := by kernel_rfl
def g90_18 (k0 : V4 → V1 → Int → V4 → Int → Int → Bool → Option R) (x0 : V4) (x1 : V1) (x2 : Int) (x3 : V4) (x4 x5 : Int) : Option R :=
k0 x0 x1 x2 x3 x4 x5 (decide (x5 < x4))
theorem t90_18 (x0 x1 x2 x3 x4 x5) : exec cl N c90_18 (e33 x0 x1 x2 x3 x4 x5) K = (g90_18 (fun y0 y1 y2 y3 y4 y5 y6 => K .normal (e34 y0 y1 y2 y3 y4 y5 y6)) x0 x1 x2 x3 x4 x5) := by
 kernel_rfl
theorem kp90_8 (x0 x1 x2 x3 x4 x5 x6) : keep [0, 1, 5, 39, 40, 41] (e34 x0 x1 x2 x3 x4 x5 x6) = (e33 x0 x1 x2 x3 x4 x5) := by kernel_rfl
theorem hb90_4 (x0 x1 x2 x3 x4 x5 x6) : boolOf? (ent (e34 x0 x1 x2 x3 x4 x5 x6) (.t 42)) = some x6 := by kernel_rfl
def g90_20 (k0 : V4 → V1 → Int → V1 → V4 → Int → Int → Option R) (x0 : V4) (x1 : V1) (x2 : Int) (x3 : V4) (x4 x5 : Int) : Option R :=
if 0 ≤ x5 ∧ x5 < (x3.length : Int) then
k0 x0 x1 x2 (x3.getD x5.toNat []) x3 x4 x5
else none
theorem t90_20 (x0 x1 x2 x3 x4 x5) : exec cl N c90_20 (e33 x0 x1 x2 x3 x4 x5) K = (g90_20 (fun y0 y1 y2 y3 y4 y5 y6 => K .normal (e35 y0 y1 y2 y3 y4 y5 y6)) x0 x1 x2 x3 x4 x5) := by
 kernel_rfl
def g90_21 (k0 : V4 → V1 → Int → V1 → V4 → Int → Int → Bool → Option R) (x0 : V4) (x1 : V1) (x2 : Int) (x3 : V1) (x4 : V4) (x5 x6 : Int) : Option R :=
k0 x0 x1 x2 x3 x4 x5 x6 (decide ((x3.length : Int) > (IntKind.i64.wrap ((9223372036854775807 : Int) - x2))))
theorem t90_21 (x0 x1 x2 x3 x4 x5 x6) : exec cl N c90_21 (e35 x0 x1 x2 x3 x4 x5 x6) K = (g90_21 (fun y0 y1 y2 y3 y4 y5 y6 y7 => K .normal (e36 y0 y1 y2 y3 y4 y5 y6 y7)) x0 x1 x2 x3 x4 x5 x6) := by
 kernel_rfl
def g90_22 (x0 : V4) (x1 : V1) (x2 : Int) (x3 : V1) (x4 : V4) (x5 x6 : Int) (x7 : Bool) : Option R :=
none /- operation makeInterface -/
theorem t90_22 (x0 x1 x2 x3 x4 x5 x6 x7) : exec cl N c90_22 (e36 x0 x1 x2 x3 x4 x5 x6 x7) K = (g90_22 x0 x1 x2 x3 x4 x5 x6 x7) := by
 kernel_rfl
theorem kp90_9 (x0 x1 x2 x3 x4 x5 x6 x7) : keep [0, 1, 5, 7, 39, 40, 41] (e36 x0 x1 x2 x3 x4 x5 x6 x7) = (e35 x0 x1 x2 x3 x4 x5 x6) := by kernel_rfl
theorem hb90_5 (x0 x1 x2 x3 x4 x5 x6 x7) : boolOf? (ent (e36 x0 x1 x2 x3 x4 x5 x6 x7) (.t 49)) = some x7 := by kernel_rfl
def g90_24 (k0 : V4 → V1 → Int → V4 → Int → Int → Option R) (x0 : V4) (x1 : V1) (x2 : Int) (x3 : V1) (x4 : V4) (x5 x6 : Int) : Option R :=
k0 x0 x1 (IntKind.i64.wrap (x2 + (x3.length : Int))) x4 x5 x6
theorem t90_24 (x0 x1 x2 x3 x4 x5 x6) : exec cl N c90_24 (e35 x0 x1 x2 x3 x4 x5 x6) K = (g90_24 (fun y0 y1 y2 y3 y4 y5 => K .normal (e33 y0 y1 y2 y3 y4 y5)) x0 x1 x2 x3 x4 x5 x6) := by
 kernel_rfl
def g90_26 (k0 : V4 → V1 → Int → V4 → Int → Int → Option R) (x0 : V4) (x1 : V1) (x2 : Int) (x3 : V4) (x4 x5 : Int) : Option R :=
k0 x0 x1 x2 x3 x4 (IntKind.i64.wrap (x5 + (1 : Int)))
theorem t90_26 (x0 x1 x2 x3 x4 x5) : exec cl N c90_26 (e33 x0 x1 x2 x3 x4 x5) K = (g90_26 (fun y0 y1 y2 y3 y4 y5 => K .normal (e33 y0 y1 y2 y3 y4 y5)) x0 x1 x2 x3 x4 x5) := by
 kernel_rfl
def g90_27 (k0 : V4 → V1 → Int → V4 → Int → Int → Option R) (k1 : V4 → V1 → Int → V4 → Int → Int → Option R) (x0 : V4) (x1 : V1) (x2 : Int) (x3 : V4) (x4 x5 : Int) : Option R :=
(g90_18 (fun y0 y1 y2 y3 y4 y5 y6 => brB y6 ((g90_20 (g90_21 (fun y0 y1 y2 y3 y4 y5 y6 y7 => brB y7 (g90_22 y0 y1 y2 y3 y4 y5 y6 y7) ((g90_24 ((g90_26 k0))) y0 y1 y2 y3 y4 y5 y6)))) y0 y1 y2 y3 y4 y5) (k1 y0 y1 y2 y3 y4 y5)) x0 x1 x2 x3 x4 x5)
theorem t90_27 (x0 x1 x2 x3 x4 x5) : exec cl N c90_27 (e33 x0 x1 x2 x3 x4 x5) K = (g90_27 (fun y0 y1 y2 y3 y4 y5 => K .normal (e33 y0 y1 y2 y3 y4 y5)) (fun y0 y1 y2 y3 y4 y5 => K (.exit 1) (e33 y0 y1 y2 y3 y4 y5)) x0 x1 x2 x3 x4 x5) := by
 simp only [c90_27, exec_seq, seqK_normal, seqK_exit, seqK_ret, t90_18, c90_19, exec_out, exec_cond', hb90_4, Option.bind_some, brB_true, brB_false, exec_skip, exec_exit, kp90_8, c90_25, exec_block, t90_20, t90_21, c90_23, hb90_5, t90_22, kp90_9, t90_24, blockK_normal, blockK_ret, blockK_eq, kp90_7, t90_26]
 rfl
def l90_28 {R : Type} (k0 : V4 → V1 → Int → V4 → Int → Int → Option R) : Nat → V4 → V1 → Int → V4 → Int → Int → Option R
 | 0, _, _, _, _, _, _ => none
 | m + 1, x0, x1, x2, x3, x4, x5 => (g90_27 (l90_28 k0 m) k0 x0 x1 x2 x3 x4 x5)
theorem lt90_28 : ∀ (m) (x0 x1 x2 x3 x4 x5), iter [0, 1, 5, 39, 40, 41] (fun env K => exec cl N c90_27 env K) K m (e33 x0 x1 x2 x3 x4 x5) = l90_28 (fun y0 y1 y2 y3 y4 y5 => K (.exit 1) (e33 y0 y1 y2 y3 y4 y5)) m x0 x1 x2 x3 x4 x5 := by
 intro m
 induction m with
 | zero => intros; rfl
 | succ m ih =>
   intro x0 x1 x2 x3 x4 x5
   simp only [iter_succ, t90_27, loopK_normal, loopK_exit, loopK_ret, kp90_7, ih]
   rfl
theorem kp90_10 (x0 x1 x2 x3 x4 x5) : keep [0, 1, 5] (e33 x0 x1 x2 x3 x4 x5) = (e30 x0 x1 x2) := by kernel_rfl
def g90_28 (N : Nat) (k0 : V4 → V1 → Int → Option R) (x0 : V4) (x1 : V1) (x2 : Int) (x3 : V4) (x4 x5 : Int) : Option R :=
l90_28 (fun y0 y1 y2 y3 y4 y5 => k0 y0 y1 y2) N x0 x1 x2 x3 x4 x5
theorem t90_28 (x0 x1 x2 x3 x4 x5) : exec cl N c90_28 (e33 x0 x1 x2 x3 x4 x5) K = (g90_28 N (fun y0 y1 y2 => K (.exit 1) (e30 y0 y1 y2)) x0 x1 x2 x3 x4 x5) := by
 simp only [c90_28, exec_out, exec_loop, kp90_7, lt90_28, kp90_10]
 rfl
def g90_46 (x0 : V4) (x1 : V1) (x2 : Int) : Option R :=
none /- type ptr -/
theorem t90_46 (x0 x1 x2) : exec cl N c90_46 (e30 x0 x1 x2) K = (g90_46 x0 x1 x2) := by
 kernel_rfl
def g90_47 (N : Nat) (k0 : V1 → Option R) (x0 : V4) (x1 : V1) : Option R :=
(g90_0 (g90_1 (g90_2 (fun y0 y1 y2 y3 => brB y3 (g90_3 k0 y0 y1 y2 y3) (g90_4 (fun y0 y1 y2 => brB y2 (g90_5 k0 y0 y1 y2) ((((g90_9 (g90_16 (g90_17 (g90_28 N g90_46)))))) y0 y1)) y0 y1 y2 y3)))) x0 x1)
theorem t90_47 (x0 x1) : exec cl N c90_47 (e25 x0 x1) K = (g90_47 N (fun y0 => K .ret (e27 y0)) x0 x1) := by
 simp only [c90_47, exec_seq, seqK_normal, seqK_exit, seqK_ret, t90_0, t90_1, c90_8, exec_out, exec_block, t90_2, c90_7, exec_cond', hb90_1, Option.bind_some, brB_true, brB_false, t90_3, exec_ret, t90_4, c90_6, hb90_0, t90_5, exec_skip, kp90_0, kp90_1, kp90_2, kp90_3, blockK_normal, blockK_ret, blockK_eq, t90_9, t90_16, t90_17, c90_29, t90_28, kp90_5, t90_46]
 rfl
theorem rk90_0 (y0) : retK d90 .ret (e27 y0) = some [.v .str y0] := by kernel_rfl
def g90 (N : Nat) (x0 : V4) (x1 : V1) (k : V1 → Option R) : Option R :=
(g90_47 N k x0 x1)
theorem gen90 (x0 x1) (k : List E → Option R) : exec cl N c90 (e25 x0 x1) (fun e env => (retK d90 e env).bind k) = g90 N x0 x1 (fun r0 => k [.v .str r0]) := by
 simp only [c90, t90_47, rk90_0, Option.bind_some]
 rfl
def ctr90 (S : V4 → V1 → Option V3) : Ctr := cv2 90 U0 .str S fun b => [.v .str b]
def S90 (N : Nat) (x0 : V4) (x1 : V1) : Option V3 := g90 N x0 x1 (fun (r0 : V1) => some (r0))
def g83_0 (k0 : V4 → Option R) (x0 : V4) : Option R :=
k0 x0
theorem t83_0 (x0) : exec cl N c83_0 [(0, .v U0 x0)] K = (g83_0 (fun y0 => K .normal [(0, .v U0 y0)]) x0) := by
 kernel_rfl
def g83_1 (k0 : V4 → V4 → Int → Int → Option R) (x0 : V4) : Option R :=
k0 x0 x0 (x0.length : Int) (0 : Int)
theorem t83_1 (x0) : exec cl N c83_1 [(0, .v U0 x0)] K = (g83_1 (fun y0 y1 y2 y3 => K .normal (e37 y0 y1 y2 y3)) x0) := by
 kernel_rfl
theorem kp83_0 (x0 x1 x2 x3) : keep [0, 7, 8, 9] (e37 x0 x1 x2 x3) = (e37 x0 x1 x2 x3) := by kernel_rfl
def g83_2 (k0 : V4 → V4 → Int → Int → Bool → Option R) (x0 x1 : V4) (x2 x3 : Int) : Option R :=
k0 x0 x1 x2 x3 (decide (x3 < x2))
theorem t83_2 (x0 x1 x2 x3) : exec cl N c83_2 (e37 x0 x1 x2 x3) K = (g83_2 (fun y0 y1 y2 y3 y4 => K .normal (e38 y0 y1 y2 y3 y4)) x0 x1 x2 x3) := by
 kernel_rfl
theorem kp83_1 (x0 x1 x2 x3 x4) : keep [0, 7, 8, 9] (e38 x0 x1 x2 x3 x4) = (e37 x0 x1 x2 x3) := by kernel_rfl
theorem hb83_0 (x0 x1 x2 x3 x4) : boolOf? (ent (e38 x0 x1 x2 x3 x4) (.t 10)) = some x4 := by kernel_rfl
def g83_4 (k0 : V4 → V1 → V4 → Int → Int → Option R) (x0 x1 : V4) (x2 x3 : Int) : Option R :=
if 0 ≤ x3 ∧ x3 < (x1.length : Int) then
k0 x0 (x1.getD x3.toNat []) x1 x2 x3
else none
theorem t83_4 (x0 x1 x2 x3) : exec cl N c83_4 (e37 x0 x1 x2 x3) K = (g83_4 (fun y0 y1 y2 y3 y4 => K .normal [(0, .v U0 y0), (5, .v .str y1), (7, .v U0 y2), (8, .v U2 y3), (9, .v U2 y4)]) x0 x1 x2 x3) := by
 kernel_rfl
def g83_5 (k0 : V4 → V1 → V4 → Int → Int → Bool → Option R) (x0 : V4) (x1 : V1) (x2 : V4) (x3 x4 : Int) : Option R :=
k0 x0 x1 x2 x3 x4 (x1 == ([] : List UInt8))
theorem t83_5 (x0 x1 x2 x3 x4) : exec cl N c83_5 [(0, .v U0 x0), (5, .v .str x1), (7, .v U0 x2), (8, .v U2 x3), (9, .v U2 x4)] K = (g83_5 (fun y0 y1 y2 y3 y4 y5 => K .normal (e39 y0 y1 y2 y3 y4 y5)) x0 x1 x2 x3 x4) := by
 kernel_rfl
def g83_6 (k0 : V1 → Int → Option R) (x0 : V4) (x1 : V1) (x2 : V4) (x3 x4 : Int) (x5 : Bool) : Option R :=
k0 ([] : List UInt8) (7 : Int)
theorem t83_6 (x0 x1 x2 x3 x4 x5) : exec cl N c83_6 (e39 x0 x1 x2 x3 x4 x5) K = (g83_6 (fun y0 y1 => K .normal (e40 y0 y1)) x0 x1 x2 x3 x4 x5) := by
 kernel_rfl
theorem kp83_2 (x0 x1) : keep [0, 2, 3, 5, 7, 8, 9] (e40 x0 x1) = (e41 x0 x1) := by kernel_rfl
theorem kp83_3 (x0 x1 x2 x3 x4 x5) : keep [0, 2, 3, 5, 7, 8, 9] (e39 x0 x1 x2 x3 x4 x5) = (e42 x0 x1 x2 x3 x4) := by kernel_rfl
theorem hb83_1 (x0 x1 x2 x3 x4 x5) : boolOf? (ent (e39 x0 x1 x2 x3 x4 x5) (.t 14)) = some x5 := by kernel_rfl
def g83_8 (S87 : V0 → V8 → Option (Bool)) (S88 : Int → Option (Bool)) (k0 : V4 → V4 → Int → Int → Bool → Option R) (x0 : V4) (x1 : V1) (x2 : V4) (x3 x4 : Int) : Option R :=
(S87 (x1.map fun b => (b.toNat : Int)) (fun (x164 : (Int × Unit)) => ((S88 x164.1).bind fun b165 => some [.v .bool b165]).bind (unE .bool))).bind fun r166 =>
k0 x0 x2 x3 x4 r166
theorem t83_8 (S87) (S88) (h87 : (ctr87 S87).holds cl) (h88 : (ctr88 S88).holds cl) (x0 x1 x2 x3 x4) : exec cl N c83_8 (e42 x0 x1 x2 x3 x4) K = (g83_8 S87 S88 (fun y0 y1 y2 y3 y4 => K .normal (e43 y0 y1 y2 y3 y4)) x0 x1 x2 x3 x4) := by
 rw [← put_eq h87]
 rw [← put_eq h88]
 kernel_rfl
def g83_9 (k0 : V1 → Int → Option R) (x0 x1 : V4) (x2 x3 : Int) (x4 : Bool) : Option R :=
k0 ([] : List UInt8) (2 : Int)
theorem t83_9 (x0 x1 x2 x3 x4) : exec cl N c83_9 (e43 x0 x1 x2 x3 x4) K = (g83_9 (fun y0 y1 => K .normal (e40 y0 y1)) x0 x1 x2 x3 x4) := by
 kernel_rfl
theorem kp83_4 (x0 x1) : keep [0, 2, 3, 7, 8, 9] (e40 x0 x1) = (e44 x0 x1) := by kernel_rfl
theorem kp83_5 (x0 x1 x2 x3 x4) : keep [0, 2, 3, 7, 8, 9] (e43 x0 x1 x2 x3 x4) = (e45 x0 x1 x2 x3) := by kernel_rfl
theorem hb83_2 (x0 x1 x2 x3 x4) : boolOf? (ent (e43 x0 x1 x2 x3 x4) (.t 17)) = some x4 := by kernel_rfl
theorem kp83_6 (x0 x1) : keep [0, 2, 3, 7, 8, 9] (e41 x0 x1) = (e44 x0 x1) := by kernel_rfl
theorem kp83_7 (x0 x1) : keep [0, 2, 3, 7, 8, 9] (e44 x0 x1) = (e44 x0 x1) := by kernel_rfl
theorem kp83_8 (x0 x1 x2 x3) : keep [0, 2, 3, 7, 8, 9] (e45 x0 x1 x2 x3) = (e45 x0 x1 x2 x3) := by kernel_rfl
def g83_12 (k0 : V4 → V4 → Int → Int → Option R) (x0 x1 : V4) (x2 x3 : Int) : Option R :=
k0 x0 x1 x2 (IntKind.i64.wrap (x3 + (1 : Int)))
theorem t83_12 (x0 x1 x2 x3) : exec cl N c83_12 (e45 x0 x1 x2 x3) K = (g83_12 (fun y0 y1 y2 y3 => K .normal (e37 y0 y1 y2 y3)) x0 x1 x2 x3) := by
 kernel_rfl
def g83_13 (S87 : V0 → V8 → Option (Bool)) (S88 : Int → Option (Bool)) (k0 : V1 → Int → Option R) (k1 : V4 → V4 → Int → Int → Option R) (k2 : V4 → V4 → Int → Int → Option R) (x0 x1 : V4) (x2 x3 : Int) : Option R :=
(g83_2 (fun y0 y1 y2 y3 y4 => brB y4 ((g83_4 (g83_5 (fun y0 y1 y2 y3 y4 y5 => brB y5 (g83_6 k0 y0 y1 y2 y3 y4 y5) ((g83_8 S87 S88 (fun y0 y1 y2 y3 y4 => brB y4 (g83_9 k0 y0 y1 y2 y3 y4) (((g83_12 k1)) y0 y1 y2 y3))) y0 y1 y2 y3 y4)))) y0 y1 y2 y3) (k2 y0 y1 y2 y3)) x0 x1 x2 x3)
theorem t83_13 (S87) (S88) (h87 : (ctr87 S87).holds cl) (h88 : (ctr88 S88).holds cl) (x0 x1 x2 x3) : exec cl N c83_13 (e37 x0 x1 x2 x3) K = (g83_13 S87 S88 (fun y0 y1 => K .ret (e44 y0 y1)) (fun y0 y1 y2 y3 => K .normal (e37 y0 y1 y2 y3)) (fun y0 y1 y2 y3 => K (.exit 0) (e37 y0 y1 y2 y3)) x0 x1 x2 x3) := by
 simp only [c83_13, exec_seq, seqK_normal, seqK_exit, seqK_ret, t83_2, c83_3, exec_out, exec_cond', hb83_0, Option.bind_some, brB_true, brB_false, exec_skip, exec_exit, kp83_1, c83_11, exec_block, t83_4, t83_5, c83_7, hb83_1, t83_6, exec_ret, kp83_2, kp83_3, t83_8 S87 S88 h87 h88, c83_10, hb83_2, t83_9, kp83_4, kp83_5, blockK_normal, blockK_ret, blockK_eq, kp83_6, kp83_7, kp83_8, t83_12]
 rfl
def l83_14 {R : Type} (S87 : V0 → V8 → Option (Bool)) (S88 : Int → Option (Bool)) (k0 : V1 → Int → Option R) (k1 : V4 → V4 → Int → Int → Option R) : Nat → V4 → V4 → Int → Int → Option R
 | 0, _, _, _, _ => none
 | m + 1, x0, x1, x2, x3 => (g83_13 S87 S88 k0 (l83_14 S87 S88 k0 k1 m) k1 x0 x1 x2 x3)
theorem lt83_14 (S87) (S88) (h87 : (ctr87 S87).holds cl) (h88 : (ctr88 S88).holds cl) : ∀ (m) (x0 x1 x2 x3), iter [0, 7, 8, 9] (fun env K => exec cl N c83_13 env K) K m (e37 x0 x1 x2 x3) = l83_14 S87 S88 (fun y0 y1 => K .ret (e44 y0 y1)) (fun y0 y1 y2 y3 => K (.exit 0) (e37 y0 y1 y2 y3)) m x0 x1 x2 x3 := by
 intro m
 induction m with
 | zero => intros; rfl
 | succ m ih =>
   intro x0 x1 x2 x3
   simp only [iter_succ, t83_13 S87 S88 h87 h88, loopK_normal, loopK_exit, loopK_ret, kp83_0, ih]
   rfl
theorem kp83_9 (x0 x1) : keep [0, 2, 3] (e44 x0 x1) = (e46 x0 x1) := by kernel_rfl
theorem kp83_10 (x0 x1 x2 x3) : keep [0, 2, 3] (e37 x0 x1 x2 x3) = (e47 x0) := by kernel_rfl
def g83_14 (N : Nat) (S87 : V0 → V8 → Option (Bool)) (S88 : Int → Option (Bool)) (k0 : V1 → Int → Option R) (k1 : V4 → Option R) (x0 x1 : V4) (x2 x3 : Int) : Option R :=
l83_14 S87 S88 k0 (fun y0 y1 y2 y3 => k1 y0) N x0 x1 x2 x3
theorem t83_14 (S87) (S88) (h87 : (ctr87 S87).holds cl) (h88 : (ctr88 S88).holds cl) (x0 x1 x2 x3) : exec cl N c83_14 (e37 x0 x1 x2 x3) K = (g83_14 N S87 S88 (fun y0 y1 => K .ret (e46 y0 y1)) (fun y0 => K (.exit 0) (e47 y0)) x0 x1 x2 x3) := by
 simp only [c83_14, exec_out, exec_loop, kp83_0, lt83_14 S87 S88 h87 h88, kp83_10, kp83_9]
 rfl
theorem kp83_11 (x0 x1) : keep [0, 2, 3] (e46 x0 x1) = (e46 x0 x1) := by kernel_rfl
theorem kp83_12 (x0) : keep [0, 2, 3] (e47 x0) = (e47 x0) := by kernel_rfl
def g83_16 (S90 : V4 → V1 → Option V3) (k0 : V1 → Option R) (x0 : V4) : Option R :=
(S90 x0 ([32] : List UInt8)).bind fun r168 =>
k0 r168
theorem t83_16 (S90) (h90 : (ctr90 S90).holds cl) (x0) : exec cl N c83_16 (e47 x0) K = (g83_16 S90 (fun y0 => K .normal [(6, .v .str y0)]) x0) := by
 rw [← put_eq h90]
 kernel_rfl
def g83_17 (k0 : V1 → Bool → Option R) (x0 : V1) : Option R :=
k0 x0 (decide ((x0.length : Int) > (120 : Int)))
theorem t83_17 (x0) : exec cl N c83_17 [(6, .v .str x0)] K = (g83_17 (fun y0 y1 => K .normal (e48 y0 y1)) x0) := by
 kernel_rfl
def g83_18 (k0 : V1 → Int → Option R) (x0 : V1) (x1 : Bool) : Option R :=
k0 ([] : List UInt8) (3 : Int)
theorem t83_18 (x0 x1) : exec cl N c83_18 (e48 x0 x1) K = (g83_18 (fun y0 y1 => K .normal (e40 y0 y1)) x0 x1) := by
 kernel_rfl
theorem kp83_13 (x0 x1) : keep [2, 3, 6] (e40 x0 x1) = (e49 x0 x1) := by kernel_rfl
theorem kp83_14 (x0 x1) : keep [2, 3, 6] (e48 x0 x1) = [(2, .dead), (3, .dead), (6, .v .str x0)] := by kernel_rfl
theorem hb83_3 (x0 x1) : boolOf? (ent (e48 x0 x1) (.t 23)) = some x1 := by kernel_rfl
def g83_20 (k0 : V1 → Int → Option R) (x0 : V1) : Option R :=
k0 x0 (0 : Int)
theorem t83_20 (x0) : exec cl N c83_20 [(2, .dead), (3, .dead), (6, .v .str x0)] K = (g83_20 (fun y0 y1 => K .normal (e40 y0 y1)) x0) := by
 kernel_rfl
def g83_21 (N : Nat) (S87 : V0 → V8 → Option (Bool)) (S88 : Int → Option (Bool)) (S90 : V4 → V1 → Option V3) (k0 : V1 → Int → Option R) (k1 : V1 → Int → Option R) (k2 : V1 → Int → Option R) (x0 : V4) : Option R :=
(g83_0 (g83_1 (g83_14 N S87 S88 k0 ((g83_16 S90 (g83_17 (fun y0 y1 => brB y1 (g83_18 k1 y0 y1) ((g83_20 k2) y0))))))) x0)
theorem t83_21 (S87) (S88) (S90) (h87 : (ctr87 S87).holds cl) (h88 : (ctr88 S88).holds cl) (h90 : (ctr90 S90).holds cl) (x0) : exec cl N c83_21 [(0, .v U0 x0)] K = (g83_21 N S87 S88 S90 (fun y0 y1 => K .ret (e46 y0 y1)) (fun y0 y1 => K .ret (e49 y0 y1)) (fun y0 y1 => K .ret (e40 y0 y1)) x0) := by
 simp only [c83_21, exec_seq, seqK_normal, seqK_exit, seqK_ret, t83_0, t83_1, c83_15, exec_out, exec_block, t83_14 S87 S88 h87 h88, blockK_normal, blockK_ret, blockK_eq, kp83_11, kp83_12, t83_16 S90 h90, t83_17, c83_19, exec_cond', hb83_3, Option.bind_some, brB_true, brB_false, t83_18, exec_ret, exec_skip, kp83_13, kp83_14, t83_20]
 rfl
theorem rk83_0 (y0 y1) : retK d83 .ret (e46 y0 y1) = some [.v .str y0, .v U2 y1] := by kernel_rfl
theorem rk83_1 (y0 y1) : retK d83 .ret (e49 y0 y1) = some [.v .str y0, .v U2 y1] := by kernel_rfl
theorem rk83_2 (y0 y1) : retK d83 .ret (e40 y0 y1) = some [.v .str y0, .v U2 y1] := by kernel_rfl
def g83 (N : Nat) (S87 : V0 → V8 → Option (Bool)) (S88 : Int → Option (Bool)) (S90 : V4 → V1 → Option V3) (x0 : V4) (k : V1 → Int → Option R) : Option R :=
(g83_21 N S87 S88 S90 k k k x0)
theorem gen83 (S87) (S88) (S90) (h87 : (ctr87 S87).holds cl) (h88 : (ctr88 S88).holds cl) (h90 : (ctr90 S90).holds cl) (x0) (k : List E → Option R) : exec cl N c83 [(0, .v U0 x0)] (fun e env => (retK d83 e env).bind k) = g83 N S87 S88 S90 x0 (fun r0 r1 => k [.v .str r0, .v U2 r1]) := by
 simp only [c83, t83_21 S87 S88 S90 h87 h88 h90, rk83_0, rk83_1, rk83_2, Option.bind_some]
 rfl
def ctr83 (S : V4 → Option V5) : Ctr := cv1 83 U0 S fun b => [.v .str b.1, .v U2 b.2]
def S83 (N : Nat) (x0 : V4) : Option V5 := g83 N (S87 N) (S88 N) (S90 N) x0 (fun (r0 : V1) (r1 : Int) => some (r0, r1))
def g44_16 (k0 : V0 → Option R) (x0 : V1) : Option R :=
k0 (x0.map fun b => (b.toNat : Int))
theorem t44_16 (x0) : exec cl N c44_16 [(0, .v .str x0)] K = (g44_16 (fun y0 => exec cl N (.seq (.seq c44_2 c44_14) (.seq c44_15 .ret)) (e50 y0) K) x0) := by
 kernel_rfl
def g44_2 (k0 : V0 → Int → Int → Option R) (x0 : V0) : Option R :=
k0 x0 (x0.length : Int) (0 : Int)
theorem t44_2 (x0) : exec cl N c44_2 (e50 x0) K = (g44_2 (fun y0 y1 y2 => K .normal (e51 y0 y1 y2)) x0) := by
 kernel_rfl
theorem kp44_0 (x0 x1 x2) : keep [3, 8, 9, 10] (e51 x0 x1 x2) = (e51 x0 x1 x2) := by kernel_rfl
def g44_3 (k0 : V0 → Int → Int → Bool → Option R) (x0 : V0) (x1 x2 : Int) : Option R :=
k0 x0 x1 x2 (decide (x2 < x1))
theorem t44_3 (x0 x1 x2) : exec cl N c44_3 (e51 x0 x1 x2) K = (g44_3 (fun y0 y1 y2 y3 => K .normal (e52 y0 y1 y2 y3)) x0 x1 x2) := by
 kernel_rfl
theorem kp44_1 (x0 x1 x2 x3) : keep [3, 8, 9, 10] (e52 x0 x1 x2 x3) = (e51 x0 x1 x2) := by kernel_rfl
theorem hb44_0 (x0 x1 x2 x3) : boolOf? (ent (e52 x0 x1 x2 x3) (.t 11)) = some x3 := by kernel_rfl
def g44_9 (k0 : V0 → Int → Int → Int → Int → Bool → Option R) (x0 : V0) (x1 x2 : Int) : Option R :=
if 0 ≤ x2 ∧ x2 < (x0.length : Int) then
if x2.toNat < x0.length then
let v184 : Int := (x0.getD x2.toNat (0 : Int))
brB (decide (v184 ≥ (65 : Int))) (k0 x0 x2 v184 x1 x2 (decide (v184 ≤ (90 : Int)))) (k0 x0 x2 v184 x1 x2 false)
else none
else none
theorem t44_9 (x0 x1 x2) : exec cl N c44_9 (e51 x0 x1 x2) K = (g44_9 (fun y0 y1 y2 y3 y4 y5 => exec cl N c44_8 (e53 y0 y1 y2 y3 y4 y5) K) x0 x1 x2) := by
 kernel_rfl
def g44_7 (k0 : V0 → Int → Int → Option R) (x0 : V0) (x1 x2 x3 x4 : Int) (x5 : Bool) : Option R :=
if 0 ≤ x1 ∧ x1 < (x0.length : Int) then
if x1.toNat < x0.length then
k0 (x0.set x1.toNat (IntKind.u8.wrap ((IntKind.u8.wrap (x2 - (65 : Int))) + (97 : Int)))) x3 x4
else none
else none
theorem t44_7 (x0 x1 x2 x3 x4 x5) : exec cl N c44_7 (e53 x0 x1 x2 x3 x4 x5) K = (g44_7 (fun y0 y1 y2 => K .normal (e51 y0 y1 y2)) x0 x1 x2 x3 x4 x5) := by
 kernel_rfl
theorem kp44_2 (x0 x1 x2 x3 x4 x5) : keep [3, 8, 9, 10] (e53 x0 x1 x2 x3 x4 x5) = (e51 x0 x3 x4) := by kernel_rfl
theorem hb44_1 (x0 x1 x2 x3 x4 x5) : boolOf? (ent (e53 x0 x1 x2 x3 x4 x5) (.t 20)) = some x5 := by kernel_rfl
def g44_10 (k0 : V0 → Int → Int → Option R) (x0 : V0) (x1 x2 : Int) : Option R :=
(g44_9 (fun y0 y1 y2 y3 y4 y5 => brB y5 (g44_7 k0 y0 y1 y2 y3 y4 y5) (k0 y0 y3 y4)) x0 x1 x2)
theorem t44_10 (x0 x1 x2) : exec cl N c44_10 (e51 x0 x1 x2) K = (g44_10 (fun y0 y1 y2 => K .normal (e51 y0 y1 y2)) x0 x1 x2) := by
 simp only [c44_10, exec_out, exec_block, exec_seq, seqK_normal, seqK_exit, seqK_ret, t44_9, c44_8, exec_cond', hb44_1, Option.bind_some, brB_true, brB_false, t44_7, exec_skip, kp44_0, kp44_2, blockK_normal, blockK_ret, blockK_eq]
 rfl
def g44_11 (k0 : V0 → Int → Int → Option R) (x0 : V0) (x1 x2 : Int) : Option R :=
k0 x0 x1 (IntKind.i64.wrap (x2 + (1 : Int)))
theorem t44_11 (x0 x1 x2) : exec cl N c44_11 (e51 x0 x1 x2) K = (g44_11 (fun y0 y1 y2 => K .normal (e51 y0 y1 y2)) x0 x1 x2) := by
 kernel_rfl
def g44_12 (k0 : V0 → Int → Int → Option R) (k1 : V0 → Int → Int → Option R) (x0 : V0) (x1 x2 : Int) : Option R :=
(g44_3 (fun y0 y1 y2 y3 => brB y3 ((g44_10 (g44_11 k0)) y0 y1 y2) (k1 y0 y1 y2)) x0 x1 x2)
theorem t44_12 (x0 x1 x2) : exec cl N c44_12 (e51 x0 x1 x2) K = (g44_12 (fun y0 y1 y2 => K .normal (e51 y0 y1 y2)) (fun y0 y1 y2 => K (.exit 0) (e51 y0 y1 y2)) x0 x1 x2) := by
 simp only [c44_12, exec_seq, seqK_normal, seqK_exit, seqK_ret, t44_3, c44_4, exec_out, exec_cond', hb44_0, Option.bind_some, brB_true, brB_false, exec_skip, exec_exit, kp44_1, t44_10, t44_11]
 rfl
def l44_13 {R : Type} (k0 : V0 → Int → Int → Option R) : Nat → V0 → Int → Int → Option R
 | 0, _, _, _ => none
 | m + 1, x0, x1, x2 => (g44_12 (l44_13 k0 m) k0 x0 x1 x2)
theorem lt44_13 : ∀ (m) (x0 x1 x2), iter [3, 8, 9, 10] (fun env K => exec cl N c44_12 env K) K m (e51 x0 x1 x2) = l44_13 (fun y0 y1 y2 => K (.exit 0) (e51 y0 y1 y2)) m x0 x1 x2 := by
 intro m
 induction m with
 | zero => intros; rfl
 | succ m ih =>
   intro x0 x1 x2
   simp only [iter_succ, t44_12, loopK_normal, loopK_exit, loopK_ret, kp44_0, ih]
   rfl
theorem kp44_3 (x0 x1 x2) : keep [3] (e51 x0 x1 x2) = (e50 x0) := by kernel_rfl
def g44_13 (N : Nat) (k0 : V0 → Option R) (x0 : V0) (x1 x2 : Int) : Option R :=
l44_13 (fun y0 y1 y2 => k0 y0) N x0 x1 x2
theorem t44_13 (x0 x1 x2) : exec cl N c44_13 (e51 x0 x1 x2) K = (g44_13 N (fun y0 => K (.exit 0) (e50 y0)) x0 x1 x2) := by
 simp only [c44_13, exec_out, exec_loop, kp44_0, lt44_13, kp44_3]
 rfl
theorem kp44_4 (x0) : keep [3] (e50 x0) = (e50 x0) := by kernel_rfl
def g44_15 (k0 : V1 → Option R) (x0 : V0) : Option R :=
k0 (x0.map fun n => UInt8.ofNat n.toNat)
theorem t44_15 (x0) : exec cl N c44_15 (e50 x0) K = (g44_15 (fun y0 => K .normal [(2, .v .str y0)]) x0) := by
 kernel_rfl
def g44_16b (N : Nat) (k0 : V1 → Option R) (x0 : V1) : Option R :=
(g44_16 (g44_2 (g44_13 N ((g44_15 k0)))) x0)
theorem t44_16b (x0) : exec cl N c44_16 [(0, .v .str x0)] K = (g44_16b N (fun y0 => K .ret [(2, .v .str y0)]) x0) := by
 simp only [exec_seq, seqK_normal, seqK_exit, seqK_ret, t44_16, t44_2, c44_14, exec_out, exec_block, t44_13, blockK_normal, blockK_ret, blockK_eq, kp44_4, t44_15, exec_ret]
 rfl
theorem rk44_0 (y0) : retK d44 .ret [(2, .v .str y0)] = some [.v .str y0] := by kernel_rfl
def g44 (N : Nat) (x0 : V1) (k : V1 → Option R) : Option R :=
(g44_16b N k x0)
theorem gen44 (x0) (k : List E → Option R) : exec cl N c44 [(0, .v .str x0)] (fun e env => (retK d44 e env).bind k) = g44 N x0 (fun r0 => k [.v .str r0]) := by
 simp only [c44, t44_16b, rk44_0, Option.bind_some]
 rfl
def ctr44 (S : V1 → Option V3) : Ctr := cv1 44 .str S fun b => [.v .str b]
def S44 (N : Nat) (x0 : V1) : Option V3 := g44 N x0 (fun (r0 : V1) => some (r0))
def g66_0 (k0 : V1 → Option R) (x0 : V1) : Option R :=
k0 x0
theorem t66_0 (x0) : exec cl N c66_0 [(0, .v .str x0)] K = (g66_0 (fun y0 => K .normal [(0, .v .str y0)]) x0) := by
 kernel_rfl
def g66_1 (k0 : V1 → Bool → Option R) (x0 : V1) : Option R :=
k0 x0 (decide ((x0.length : Int) > (16 : Int)))
theorem t66_1 (x0) : exec cl N c66_1 [(0, .v .str x0)] K = (g66_1 (fun y0 y1 => K .normal (e54 y0 y1)) x0) := by
 kernel_rfl
def g66_2 (k0 : Int → Option R) (x0 : V1) (x1 : Bool) : Option R :=
k0 (3 : Int)
theorem t66_2 (x0 x1) : exec cl N c66_2 (e54 x0 x1) K = (g66_2 (fun y0 => K .normal [(2, .v U2 y0)]) x0 x1) := by
 kernel_rfl
theorem kp66_0 (x0) : keep [0, 2] [(2, .v U2 x0)] = (e9 x0) := by kernel_rfl
theorem kp66_1 (x0 x1) : keep [0, 2] (e54 x0 x1) = (e10 x0) := by kernel_rfl
theorem hb66_0 (x0 x1) : boolOf? (ent (e54 x0 x1) (.t 7)) = some x1 := by kernel_rfl
def g66_8 (S44 : V1 → Option V3) (S83 : V4 → Option V5) (k0 : Bool → Option R) (x0 : V1) : Option R :=
(S83 [x0]).bind fun r194 =>
brB (r194.2 != (0 : Int)) (k0 true) ((S44 x0).bind fun r196 =>
k0 (r196 != x0))
theorem t66_8 (S44) (S83) (h44 : (ctr44 S44).holds cl) (h83 : (ctr83 S83).holds cl) (x0) : exec cl N c66_8 (e10 x0) K = (g66_8 S44 S83 (fun y0 => exec cl N c66_7 [(21, .v .bool y0)] K) x0) := by
 rw [← put_eq h44]
 rw [← put_eq h83]
 kernel_rfl
def g66_6 (k0 : Int → Option R) (x0 : Bool) : Option R :=
k0 (2 : Int)
theorem t66_6 (x0) : exec cl N c66_6 [(21, .v .bool x0)] K = (g66_6 (fun y0 => K .normal [(2, .v U2 y0)]) x0) := by
 kernel_rfl
theorem kp66_2 (x0) : keep [2] [(2, .v U2 x0)] = [(2, .v U2 x0)] := by kernel_rfl
theorem kp66_3 (x0) : keep [2] [(21, .v .bool x0)] = [(2, .dead)] := by kernel_rfl
theorem hb66_1 (x0) : boolOf? (ent [(21, .v .bool x0)] (.t 21)) = some x0 := by kernel_rfl
def g66_9 (k0 : Int → Option R) : Option R :=
k0 (0 : Int)
theorem t66_9 : exec cl N c66_9 [(2, .dead)] K = (g66_9 (fun y0 => K .normal [(2, .v U2 y0)])) := by
 kernel_rfl
def g66_10 (S44 : V1 → Option V3) (S83 : V4 → Option V5) (k0 : Int → Option R) (k1 : Int → Option R) (x0 : V1) : Option R :=
(g66_0 (g66_1 (fun y0 y1 => brB y1 (g66_2 k0 y0 y1) ((g66_8 S44 S83 (fun y0 => brB y0 (g66_6 k1 y0) (g66_9 k1))) y0))) x0)
theorem t66_10 (S44) (S83) (h44 : (ctr44 S44).holds cl) (h83 : (ctr83 S83).holds cl) (x0) : exec cl N c66_10 [(0, .v .str x0)] K = (g66_10 S44 S83 (fun y0 => K .ret (e9 y0)) (fun y0 => K .ret [(2, .v U2 y0)]) x0) := by
 simp only [c66_10, exec_seq, seqK_normal, seqK_exit, seqK_ret, t66_0, t66_1, c66_3, exec_out, exec_cond', hb66_0, Option.bind_some, brB_true, brB_false, t66_2, exec_ret, exec_skip, kp66_0, kp66_1, t66_8 S44 S83 h44 h83, c66_7, hb66_1, t66_6, kp66_2, kp66_3, t66_9]
 rfl
theorem rk66_0 (y0) : retK d66 .ret (e9 y0) = some [.v U2 y0] := by kernel_rfl
theorem rk66_1 (y0) : retK d66 .ret [(2, .v U2 y0)] = some [.v U2 y0] := by kernel_rfl
def g66 (S44 : V1 → Option V3) (S83 : V4 → Option V5) (x0 : V1) (k : Int → Option R) : Option R :=
(g66_10 S44 S83 k k x0)
theorem gen66 (S44) (S83) (h44 : (ctr44 S44).holds cl) (h83 : (ctr83 S83).holds cl) (x0) (k : List E → Option R) : exec cl N c66 [(0, .v .str x0)] (fun e env => (retK d66 e env).bind k) = g66 S44 S83 x0 (fun r0 => k [.v U2 r0]) := by
 simp only [c66, t66_10 S44 S83 h44 h83, rk66_0, rk66_1, Option.bind_some]
 rfl
def ctr66 (S : V1 → Option (Int)) : Ctr := cv1 66 .str S fun b => [.v U2 b]
def S66 (N : Nat) (x0 : V1) : Option (Int) := g66 (S44 N) (S83 N) x0 (fun (r0 : Int) => some (r0))
def g84_0 (k0 : V4 → V1 → Option R) (x0 : V4) (x1 : V1) : Option R :=
k0 x0 x1
theorem t84_0 (x0 x1) : exec cl N c84_0 (e25 x0 x1) K = (g84_0 (fun y0 y1 => K .normal (e25 y0 y1)) x0 x1) := by
 kernel_rfl
def g84_1 (k0 : V4 → V1 → Int → Int → Option R) (x0 : V4) (x1 : V1) : Option R :=
k0 x0 x1 (x0.length : Int) (0 : Int)
theorem t84_1 (x0 x1) : exec cl N c84_1 (e25 x0 x1) K = (g84_1 (fun y0 y1 y2 y3 => K .normal (e55 y0 y1 y2 y3)) x0 x1) := by
 kernel_rfl
theorem kp84_0 (x0 x1 x2 x3) : keep [0, 1, 7, 8] (e55 x0 x1 x2 x3) = (e55 x0 x1 x2 x3) := by kernel_rfl
def g84_2 (k0 : V4 → V1 → Int → Int → Bool → Option R) (x0 : V4) (x1 : V1) (x2 x3 : Int) : Option R :=
k0 x0 x1 x2 x3 (decide (x3 < x2))
theorem t84_2 (x0 x1 x2 x3) : exec cl N c84_2 (e55 x0 x1 x2 x3) K = (g84_2 (fun y0 y1 y2 y3 y4 => K .normal (e56 y0 y1 y2 y3 y4)) x0 x1 x2 x3) := by
 kernel_rfl
theorem kp84_1 (x0 x1 x2 x3 x4) : keep [0, 1, 7, 8] (e56 x0 x1 x2 x3 x4) = (e55 x0 x1 x2 x3) := by kernel_rfl
theorem hb84_0 (x0 x1 x2 x3 x4) : boolOf? (ent (e56 x0 x1 x2 x3 x4) (.t 9)) = some x4 := by kernel_rfl
def g84_8 (k0 : V4 → V1 → Int → Int → Int → Bool → Option R) (x0 : V4) (x1 : V1) (x2 x3 : Int) : Option R :=
if 0 ≤ x3 ∧ x3 < (x0.length : Int) then
k0 x0 x1 x3 x2 x3 (x1 == (x0.getD x3.toNat []))
else none
theorem t84_8 (x0 x1 x2 x3) : exec cl N c84_8 (e55 x0 x1 x2 x3) K = (g84_8 (fun y0 y1 y2 y3 y4 y5 => exec cl N c84_7 (e57 y0 y1 y2 y3 y4 y5) K) x0 x1 x2 x3) := by
 kernel_rfl
def g84_6 (k0 : Int → Option R) (x0 : V4) (x1 : V1) (x2 x3 x4 : Int) (x5 : Bool) : Option R :=
k0 x2
theorem t84_6 (x0 x1 x2 x3 x4 x5) : exec cl N c84_6 (e57 x0 x1 x2 x3 x4 x5) K = (g84_6 (fun y0 => K .normal [(4, .v U2 y0)]) x0 x1 x2 x3 x4 x5) := by
 kernel_rfl
theorem kp84_2 (x0) : keep [0, 1, 4, 7, 8] [(4, .v U2 x0)] = (e23 x0) := by kernel_rfl
theorem kp84_3 (x0 x1 x2 x3 x4 x5) : keep [0, 1, 4, 7, 8] (e57 x0 x1 x2 x3 x4 x5) = (e58 x0 x1 x3 x4) := by kernel_rfl
theorem hb84_1 (x0 x1 x2 x3 x4 x5) : boolOf? (ent (e57 x0 x1 x2 x3 x4 x5) (.t 16)) = some x5 := by kernel_rfl
theorem kp84_4 (x0) : keep [0, 1, 4, 7, 8] (e23 x0) = (e23 x0) := by kernel_rfl
theorem kp84_5 (x0 x1 x2 x3) : keep [0, 1, 4, 7, 8] (e58 x0 x1 x2 x3) = (e58 x0 x1 x2 x3) := by kernel_rfl
def g84_10 (k0 : V4 → V1 → Int → Int → Option R) (x0 : V4) (x1 : V1) (x2 x3 : Int) : Option R :=
k0 x0 x1 x2 (IntKind.i64.wrap (x3 + (1 : Int)))
theorem t84_10 (x0 x1 x2 x3) : exec cl N c84_10 (e58 x0 x1 x2 x3) K = (g84_10 (fun y0 y1 y2 y3 => K .normal (e55 y0 y1 y2 y3)) x0 x1 x2 x3) := by
 kernel_rfl
def g84_11 (k0 : Int → Option R) (k1 : V4 → V1 → Int → Int → Option R) (k2 : V4 → V1 → Int → Int → Option R) (x0 : V4) (x1 : V1) (x2 x3 : Int) : Option R :=
(g84_2 (fun y0 y1 y2 y3 y4 => brB y4 ((g84_8 (fun y0 y1 y2 y3 y4 y5 => brB y5 (g84_6 k0 y0 y1 y2 y3 y4 y5) (((g84_10 k1)) y0 y1 y3 y4))) y0 y1 y2 y3) (k2 y0 y1 y2 y3)) x0 x1 x2 x3)
theorem t84_11 (x0 x1 x2 x3) : exec cl N c84_11 (e55 x0 x1 x2 x3) K = (g84_11 (fun y0 => K .ret (e23 y0)) (fun y0 y1 y2 y3 => K .normal (e55 y0 y1 y2 y3)) (fun y0 y1 y2 y3 => K (.exit 0) (e55 y0 y1 y2 y3)) x0 x1 x2 x3) := by
 simp only [c84_11, exec_seq, seqK_normal, seqK_exit, seqK_ret, t84_2, c84_3, exec_out, exec_cond', hb84_0, Option.bind_some, brB_true, brB_false, exec_skip, exec_exit, kp84_1, c84_9, exec_block, t84_8, c84_7, hb84_1, t84_6, exec_ret, kp84_2, kp84_3, blockK_normal, blockK_ret, blockK_eq, kp84_4, kp84_5, t84_10]
 rfl
def l84_12 {R : Type} (k0 : Int → Option R) (k1 : V4 → V1 → Int → Int → Option R) : Nat → V4 → V1 → Int → Int → Option R
 | 0, _, _, _, _ => none
 | m + 1, x0, x1, x2, x3 => (g84_11 k0 (l84_12 k0 k1 m) k1 x0 x1 x2 x3)
theorem lt84_12 : ∀ (m) (x0 x1 x2 x3), iter [0, 1, 7, 8] (fun env K => exec cl N c84_11 env K) K m (e55 x0 x1 x2 x3) = l84_12 (fun y0 => K .ret (e23 y0)) (fun y0 y1 y2 y3 => K (.exit 0) (e55 y0 y1 y2 y3)) m x0 x1 x2 x3 := by
 intro m
 induction m with
 | zero => intros; rfl
 | succ m ih =>
   intro x0 x1 x2 x3
   simp only [iter_succ, t84_11, loopK_normal, loopK_exit, loopK_ret, kp84_0, ih]
   rfl
theorem kp84_6 (x0) : keep [4] (e23 x0) = [(4, .v U2 x0)] := by kernel_rfl
theorem kp84_7 (x0 x1 x2 x3) : keep [4] (e55 x0 x1 x2 x3) = [(4, .dead)] := by kernel_rfl
def g84_12 (N : Nat) (k0 : Int → Option R) (k1 : Option R) (x0 : V4) (x1 : V1) (x2 x3 : Int) : Option R :=
l84_12 k0 (fun y0 y1 y2 y3 => k1) N x0 x1 x2 x3
theorem t84_12 (x0 x1 x2 x3) : exec cl N c84_12 (e55 x0 x1 x2 x3) K = (g84_12 N (fun y0 => K .ret [(4, .v U2 y0)]) (K (.exit 0) [(4, .dead)]) x0 x1 x2 x3) := by
 simp only [c84_12, exec_out, exec_loop, kp84_0, lt84_12, kp84_6, kp84_7]
 rfl
theorem kp84_8 (x0) : keep [4] [(4, .v U2 x0)] = [(4, .v U2 x0)] := by kernel_rfl
theorem kp84_9 : keep [4] [(4, .dead)] = [(4, .dead)] := by kernel_rfl
def g84_14 (k0 : Int → Option R) : Option R :=
k0 (-1 : Int)
theorem t84_14 : exec cl N c84_14 [(4, .dead)] K = (g84_14 (fun y0 => K .normal [(4, .v U2 y0)])) := by
 kernel_rfl
def g84_15 (N : Nat) (k0 : Int → Option R) (x0 : V4) (x1 : V1) : Option R :=
(g84_0 (g84_1 (g84_12 N k0 (g84_14 k0))) x0 x1)
theorem t84_15 (x0 x1) : exec cl N c84_15 (e25 x0 x1) K = (g84_15 N (fun y0 => K .ret [(4, .v U2 y0)]) x0 x1) := by
 simp only [c84_15, exec_seq, seqK_normal, seqK_exit, seqK_ret, t84_0, t84_1, c84_13, exec_out, exec_block, t84_12, blockK_normal, blockK_ret, blockK_eq, kp84_8, kp84_9, t84_14, exec_ret]
 rfl
theorem rk84_0 (y0) : retK d84 .ret [(4, .v U2 y0)] = some [.v U2 y0] := by kernel_rfl
def g84 (N : Nat) (x0 : V4) (x1 : V1) (k : Int → Option R) : Option R :=
(g84_15 N k x0 x1)
theorem gen84 (x0 x1) (k : List E → Option R) : exec cl N c84 (e25 x0 x1) (fun e env => (retK d84 e env).bind k) = g84 N x0 x1 (fun r0 => k [.v U2 r0]) := by
 simp only [c84, t84_15, rk84_0, Option.bind_some]
 rfl
def ctr84 (S : V4 → V1 → Option (Int)) : Ctr := cv2 84 U0 .str S fun b => [.v U2 b]
def S84 (N : Nat) (x0 : V4) (x1 : V1) : Option (Int) := g84 N x0 x1 (fun (r0 : Int) => some (r0))
def g67_2 (S84 : V4 → V1 → Option (Int)) (k0 : Bool → Option R) (x0 : V4) (x1 : V1) : Option R :=
(S84 x0 x1).bind fun r209 =>
k0 (decide (r209 ≥ (0 : Int)))
theorem t67_2 (S84) (h84 : (ctr84 S84).holds cl) (x0 x1) : exec cl N c67_2 (e25 x0 x1) K = (g67_2 S84 (fun y0 => exec cl N .ret [(4, .v .bool y0)] K) x0 x1) := by
 rw [← put_eq h84]
 kernel_rfl
def g67_2b (S84 : V4 → V1 → Option (Int)) (k0 : Bool → Option R) (x0 : V4) (x1 : V1) : Option R :=
(g67_2 S84 k0 x0 x1)
theorem t67_2b (S84) (h84 : (ctr84 S84).holds cl) (x0 x1) : exec cl N c67_2 (e25 x0 x1) K = (g67_2b S84 (fun y0 => K .ret [(4, .v .bool y0)]) x0 x1) := by
 simp only [exec_seq, seqK_normal, seqK_exit, seqK_ret, t67_2 S84 h84, exec_ret]
 rfl
theorem rk67_0 (y0) : retK d67 .ret [(4, .v .bool y0)] = some [.v .bool y0] := by kernel_rfl
def g67 (S84 : V4 → V1 → Option (Int)) (x0 : V4) (x1 : V1) (k : Bool → Option R) : Option R :=
(g67_2b S84 k x0 x1)
theorem gen67 (S84) (h84 : (ctr84 S84).holds cl) (x0 x1) (k : List E → Option R) : exec cl N c67 (e25 x0 x1) (fun e env => (retK d67 e env).bind k) = g67 S84 x0 x1 (fun r0 => k [.v .bool r0]) := by
 simp only [c67, t67_2b S84 h84, rk67_0, Option.bind_some]
 rfl
def ctr67 (S : V4 → V1 → Option (Bool)) : Ctr := cv2 67 U0 .str S fun b => [.v .bool b]
def S67 (N : Nat) (x0 : V4) (x1 : V1) : Option (Bool) := g67 (S84 N) x0 x1 (fun (r0 : Bool) => some (r0))
def g43_0 (k0 : V10 → Option R) (x0 : V10) : Option R :=
k0 x0
theorem t43_0 (x0) : exec cl N c43_0 [(0, .v U13 x0)] K = (g43_0 (fun y0 => K .normal [(1, .loc U13 .no y0)]) x0) := by
 kernel_rfl
def g43_1 (k0 : V10 → Bool → Option R) (x0 : V10) : Option R :=
brB (decide (x0.1 < (1 : Int))) (k0 x0 true) (brB (decide (x0.1 > (12 : Int))) (k0 x0 true) (brB (decide (x0.2.1 < (0 : Int))) (k0 x0 true) (k0 x0 (decide (x0.2.1 > (999 : Int))))))
theorem t43_1 (x0) : exec cl N c43_1 [(1, .loc U13 .no x0)] K = (g43_1 (fun y0 y1 => K .normal (e59 y0 y1)) x0) := by
 kernel_rfl
def g43_2 (k0 : Int → Option R) (x0 : V10) (x1 : Bool) : Option R :=
k0 (6 : Int)
theorem t43_2 (x0 x1) : exec cl N c43_2 (e59 x0 x1) K = (g43_2 (fun y0 => K .normal [(2, .v U2 y0)]) x0 x1) := by
 kernel_rfl
theorem kp43_0 (x0) : keep [1, 2] [(2, .v U2 x0)] = (e60 x0) := by kernel_rfl
def g43_3 (k0 : V10 → Bool → Option R) (x0 : V10) (x1 : Bool) : Option R :=
k0 x0 (decide ((x0.2.2.1.length : Int) > (20 : Int)))
theorem t43_3 (x0 x1) : exec cl N c43_3 (e59 x0 x1) K = (g43_3 (fun y0 y1 => K .normal (e61 y0 y1)) x0 x1) := by
 kernel_rfl
def g43_4 (k0 : Int → Option R) (x0 : V10) (x1 : Bool) : Option R :=
k0 (3 : Int)
theorem t43_4 (x0 x1) : exec cl N c43_4 (e61 x0 x1) K = (g43_4 (fun y0 => K .normal [(2, .v U2 y0)]) x0 x1) := by
 kernel_rfl
theorem kp43_1 (x0 x1) : keep [1, 2] (e61 x0 x1) = (e62 x0) := by kernel_rfl
theorem hb43_0 (x0 x1) : boolOf? (ent (e61 x0 x1) (.t 25)) = some x1 := by kernel_rfl
theorem kp43_2 (x0) : keep [1, 2] (e60 x0) = (e60 x0) := by kernel_rfl
theorem kp43_3 (x0) : keep [1, 2] (e62 x0) = (e62 x0) := by kernel_rfl
theorem hb43_1 (x0 x1) : boolOf? (ent (e59 x0 x1) (.t 6)) = some x1 := by kernel_rfl
def g43_8 (k0 : V10 → V4 → Int → Int → Option R) (x0 : V10) : Option R :=
k0 x0 x0.2.2.1 (x0.2.2.1.length : Int) (0 : Int)
theorem t43_8 (x0) : exec cl N c43_8 (e62 x0) K = (g43_8 (fun y0 y1 y2 y3 => K .normal (e63 y0 y1 y2 y3)) x0) := by
 kernel_rfl
theorem kp43_4 (x0 x1 x2 x3) : keep [1, 31, 32, 33] (e63 x0 x1 x2 x3) = (e63 x0 x1 x2 x3) := by kernel_rfl
def g43_9 (k0 : V10 → V4 → Int → Int → Bool → Option R) (x0 : V10) (x1 : V4) (x2 x3 : Int) : Option R :=
k0 x0 x1 x2 x3 (decide (x3 < x2))
theorem t43_9 (x0 x1 x2 x3) : exec cl N c43_9 (e63 x0 x1 x2 x3) K = (g43_9 (fun y0 y1 y2 y3 y4 => K .normal (e64 y0 y1 y2 y3 y4)) x0 x1 x2 x3) := by
 kernel_rfl
theorem kp43_5 (x0 x1 x2 x3 x4) : keep [1, 31, 32, 33] (e64 x0 x1 x2 x3 x4) = (e63 x0 x1 x2 x3) := by kernel_rfl
theorem hb43_2 (x0 x1 x2 x3 x4) : boolOf? (ent (e64 x0 x1 x2 x3 x4) (.t 34)) = some x4 := by kernel_rfl
def g43_11 (k0 : V10 → Int → V1 → V4 → Int → Int → Option R) (x0 : V10) (x1 : V4) (x2 x3 : Int) : Option R :=
if 0 ≤ x3 ∧ x3 < (x1.length : Int) then
k0 x0 x3 (x1.getD x3.toNat []) x1 x2 x3
else none
theorem t43_11 (x0 x1 x2 x3) : exec cl N c43_11 (e63 x0 x1 x2 x3) K = (g43_11 (fun y0 y1 y2 y3 y4 y5 => K .normal (e65 y0 y1 y2 y3 y4 y5)) x0 x1 x2 x3) := by
 kernel_rfl
def g43_16 (S66 : V1 → Option (Int)) (k0 : V10 → Int → V1 → Int → V4 → Int → Int → Bool → Option R) (x0 : V10) (x1 : Int) (x2 : V1) (x3 : V4) (x4 x5 : Int) : Option R :=
(S66 x2).bind fun r220 =>
k0 x0 x1 x2 r220 x3 x4 x5 (r220 != (0 : Int))
theorem t43_16 (S66) (h66 : (ctr66 S66).holds cl) (x0 x1 x2 x3 x4 x5) : exec cl N c43_16 (e65 x0 x1 x2 x3 x4 x5) K = (g43_16 S66 (fun y0 y1 y2 y3 y4 y5 y6 y7 => exec cl N c43_15 (e66 y0 y1 y2 y3 y4 y5 y6 y7) K) x0 x1 x2 x3 x4 x5) := by
 rw [← put_eq h66]
 kernel_rfl
def g43_14 (k0 : Int → Option R) (x0 : V10) (x1 : Int) (x2 : V1) (x3 : Int) (x4 : V4) (x5 x6 : Int) (x7 : Bool) : Option R :=
k0 x3
theorem t43_14 (x0 x1 x2 x3 x4 x5 x6 x7) : exec cl N c43_14 (e66 x0 x1 x2 x3 x4 x5 x6 x7) K = (g43_14 (fun y0 => K .normal [(2, .v U2 y0)]) x0 x1 x2 x3 x4 x5 x6 x7) := by
 kernel_rfl
theorem kp43_6 (x0) : keep [1, 2, 3, 4, 31, 32, 33] [(2, .v U2 x0)] = (e67 x0) := by kernel_rfl
theorem kp43_7 (x0 x1 x2 x3 x4 x5 x6 x7) : keep [1, 2, 3, 4, 31, 32, 33] (e66 x0 x1 x2 x3 x4 x5 x6 x7) = (e68 x0 x1 x2 x4 x5 x6) := by kernel_rfl
theorem hb43_3 (x0 x1 x2 x3 x4 x5 x6 x7) : boolOf? (ent (e66 x0 x1 x2 x3 x4 x5 x6 x7) (.t 41)) = some x7 := by kernel_rfl
def g43_17 (S67 : V4 → V1 → Option (Bool)) (k0 : V10 → V4 → Int → Int → Bool → Option R) (x0 : V10) (x1 : Int) (x2 : V1) (x3 : V4) (x4 x5 : Int) : Option R :=
if 0 ≤ (0 : Int) ∧ (0 : Int) ≤ x1 ∧ x1 ≤ (x0.2.2.1.length : Int) ∧ (x0.2.2.1.length : Int) ≤ (x0.2.2.1.length : Int) then
(S67 ((x0.2.2.1.drop (0 : Int).toNat).take (x1.toNat - (0 : Int).toNat)) x2).bind fun r223 =>
k0 x0 x3 x4 x5 r223
else none
theorem t43_17 (S67) (h67 : (ctr67 S67).holds cl) (x0 x1 x2 x3 x4 x5) : exec cl N c43_17 (e68 x0 x1 x2 x3 x4 x5) K = (g43_17 S67 (fun y0 y1 y2 y3 y4 => K .normal (e69 y0 y1 y2 y3 y4)) x0 x1 x2 x3 x4 x5) := by
 rw [← put_eq h67]
 kernel_rfl
def g43_18 (k0 : Int → Option R) (x0 : V10) (x1 : V4) (x2 x3 : Int) (x4 : Bool) : Option R :=
k0 (5 : Int)
theorem t43_18 (x0 x1 x2 x3 x4) : exec cl N c43_18 (e69 x0 x1 x2 x3 x4) K = (g43_18 (fun y0 => K .normal [(2, .v U2 y0)]) x0 x1 x2 x3 x4) := by
 kernel_rfl
theorem kp43_8 (x0) : keep [1, 2, 31, 32, 33] [(2, .v U2 x0)] = (e70 x0) := by kernel_rfl
theorem kp43_9 (x0 x1 x2 x3 x4) : keep [1, 2, 31, 32, 33] (e69 x0 x1 x2 x3 x4) = (e71 x0 x1 x2 x3) := by kernel_rfl
theorem hb43_4 (x0 x1 x2 x3 x4) : boolOf? (ent (e69 x0 x1 x2 x3 x4) (.t 48)) = some x4 := by kernel_rfl
theorem kp43_10 (x0) : keep [1, 2, 31, 32, 33] (e67 x0) = (e70 x0) := by kernel_rfl
theorem kp43_11 (x0) : keep [1, 2, 31, 32, 33] (e70 x0) = (e70 x0) := by kernel_rfl
theorem kp43_12 (x0 x1 x2 x3) : keep [1, 2, 31, 32, 33] (e71 x0 x1 x2 x3) = (e71 x0 x1 x2 x3) := by kernel_rfl
def g43_21 (k0 : V10 → V4 → Int → Int → Option R) (x0 : V10) (x1 : V4) (x2 x3 : Int) : Option R :=
k0 x0 x1 x2 (IntKind.i64.wrap (x3 + (1 : Int)))
theorem t43_21 (x0 x1 x2 x3) : exec cl N c43_21 (e71 x0 x1 x2 x3) K = (g43_21 (fun y0 y1 y2 y3 => K .normal (e63 y0 y1 y2 y3)) x0 x1 x2 x3) := by
 kernel_rfl
def g43_22 (S66 : V1 → Option (Int)) (S67 : V4 → V1 → Option (Bool)) (k0 : Int → Option R) (k1 : V10 → V4 → Int → Int → Option R) (k2 : V10 → V4 → Int → Int → Option R) (x0 : V10) (x1 : V4) (x2 x3 : Int) : Option R :=
(g43_9 (fun y0 y1 y2 y3 y4 => brB y4 ((g43_11 (g43_16 S66 (fun y0 y1 y2 y3 y4 y5 y6 y7 => brB y7 (g43_14 k0 y0 y1 y2 y3 y4 y5 y6 y7) ((g43_17 S67 (fun y0 y1 y2 y3 y4 => brB y4 (g43_18 k0 y0 y1 y2 y3 y4) (((g43_21 k1)) y0 y1 y2 y3))) y0 y1 y2 y4 y5 y6)))) y0 y1 y2 y3) (k2 y0 y1 y2 y3)) x0 x1 x2 x3)
theorem t43_22 (S66) (S67) (h66 : (ctr66 S66).holds cl) (h67 : (ctr67 S67).holds cl) (x0 x1 x2 x3) : exec cl N c43_22 (e63 x0 x1 x2 x3) K = (g43_22 S66 S67 (fun y0 => K .ret (e70 y0)) (fun y0 y1 y2 y3 => K .normal (e63 y0 y1 y2 y3)) (fun y0 y1 y2 y3 => K (.exit 1) (e63 y0 y1 y2 y3)) x0 x1 x2 x3) := by
 simp only [c43_22, exec_seq, seqK_normal, seqK_exit, seqK_ret, t43_9, c43_10, exec_out, exec_cond', hb43_2, Option.bind_some, brB_true, brB_false, exec_skip, exec_exit, kp43_5, c43_20, exec_block, t43_11, t43_16 S66 h66, c43_15, hb43_3, t43_14, exec_ret, kp43_6, kp43_7, t43_17 S67 h67, c43_19, hb43_4, t43_18, kp43_8, kp43_9, blockK_normal, blockK_ret, blockK_eq, kp43_10, kp43_11, kp43_12, t43_21]
 rfl
def l43_23 {R : Type} (S66 : V1 → Option (Int)) (S67 : V4 → V1 → Option (Bool)) (k0 : Int → Option R) (k1 : V10 → V4 → Int → Int → Option R) : Nat → V10 → V4 → Int → Int → Option R
 | 0, _, _, _, _ => none
 | m + 1, x0, x1, x2, x3 => (g43_22 S66 S67 k0 (l43_23 S66 S67 k0 k1 m) k1 x0 x1 x2 x3)
theorem lt43_23 (S66) (S67) (h66 : (ctr66 S66).holds cl) (h67 : (ctr67 S67).holds cl) : ∀ (m) (x0 x1 x2 x3), iter [1, 31, 32, 33] (fun env K => exec cl N c43_22 env K) K m (e63 x0 x1 x2 x3) = l43_23 S66 S67 (fun y0 => K .ret (e70 y0)) (fun y0 y1 y2 y3 => K (.exit 1) (e63 y0 y1 y2 y3)) m x0 x1 x2 x3 := by
 intro m
 induction m with
 | zero => intros; rfl
 | succ m ih =>
   intro x0 x1 x2 x3
   simp only [iter_succ, t43_22 S66 S67 h66 h67, loopK_normal, loopK_exit, loopK_ret, kp43_4, ih]
   rfl
theorem kp43_13 (x0) : keep [2] (e70 x0) = [(2, .v U2 x0)] := by kernel_rfl
theorem kp43_14 (x0 x1 x2 x3) : keep [2] (e63 x0 x1 x2 x3) = [(2, .dead)] := by kernel_rfl
def g43_23 (N : Nat) (S66 : V1 → Option (Int)) (S67 : V4 → V1 → Option (Bool)) (k0 : Int → Option R) (k1 : Option R) (x0 : V10) (x1 : V4) (x2 x3 : Int) : Option R :=
l43_23 S66 S67 k0 (fun y0 y1 y2 y3 => k1) N x0 x1 x2 x3
theorem t43_23 (S66) (S67) (h66 : (ctr66 S66).holds cl) (h67 : (ctr67 S67).holds cl) (x0 x1 x2 x3) : exec cl N c43_23 (e63 x0 x1 x2 x3) K = (g43_23 N S66 S67 (fun y0 => K .ret [(2, .v U2 y0)]) (K (.exit 1) [(2, .dead)]) x0 x1 x2 x3) := by
 simp only [c43_23, exec_out, exec_loop, kp43_4, lt43_23 S66 S67 h66 h67, kp43_13, kp43_14]
 rfl
theorem kp43_15 (x0) : keep [2] [(2, .v U2 x0)] = [(2, .v U2 x0)] := by kernel_rfl
theorem kp43_16 : keep [2] [(2, .dead)] = [(2, .dead)] := by kernel_rfl
def g43_25 (k0 : Int → Option R) : Option R :=
k0 (0 : Int)
theorem t43_25 : exec cl N c43_25 [(2, .dead)] K = (g43_25 (fun y0 => K .normal [(2, .v U2 y0)])) := by
 kernel_rfl
def g43_26 (N : Nat) (S66 : V1 → Option (Int)) (S67 : V4 → V1 → Option (Bool)) (k0 : Int → Option R) (k1 : Int → Option R) (x0 : V10) : Option R :=
(g43_0 (g43_1 (fun y0 y1 => brB y1 (g43_2 k0 y0 y1) (g43_3 (fun y0 y1 => brB y1 (g43_4 k0 y0 y1) ((((g43_8 (g43_23 N S66 S67 k1 (g43_25 k1))))) y0)) y0 y1))) x0)
theorem t43_26 (S66) (S67) (h66 : (ctr66 S66).holds cl) (h67 : (ctr67 S67).holds cl) (x0) : exec cl N c43_26 [(0, .v U13 x0)] K = (g43_26 N S66 S67 (fun y0 => K .ret (e60 y0)) (fun y0 => K .ret [(2, .v U2 y0)]) x0) := by
 simp only [c43_26, exec_seq, seqK_normal, seqK_exit, seqK_ret, t43_0, c43_7, exec_out, exec_block, t43_1, c43_6, exec_cond', hb43_1, Option.bind_some, brB_true, brB_false, t43_2, exec_ret, t43_3, c43_5, hb43_0, t43_4, exec_skip, kp43_0, kp43_1, kp43_2, kp43_3, blockK_normal, blockK_ret, blockK_eq, t43_8, c43_24, t43_23 S66 S67 h66 h67, kp43_15, kp43_16, t43_25]
 rfl
theorem rk43_0 (y0) : retK d43 .ret (e60 y0) = some [.v U2 y0] := by kernel_rfl
theorem rk43_1 (y0) : retK d43 .ret [(2, .v U2 y0)] = some [.v U2 y0] := by kernel_rfl
def g43 (N : Nat) (S66 : V1 → Option (Int)) (S67 : V4 → V1 → Option (Bool)) (x0 : V10) (k : Int → Option R) : Option R :=
(g43_26 N S66 S67 k k x0)
theorem gen43 (S66) (S67) (h66 : (ctr66 S66).holds cl) (h67 : (ctr67 S67).holds cl) (x0) (k : List E → Option R) : exec cl N c43 [(0, .v U13 x0)] (fun e env => (retK d43 e env).bind k) = g43 N S66 S67 x0 (fun r0 => k [.v U2 r0]) := by
 simp only [c43, t43_26 S66 S67 h66 h67, rk43_0, rk43_1, Option.bind_some]
 rfl
def ctr43 (S : V10 → Option (Int)) : Ctr := cv1 43 U13 S fun b => [.v U2 b]
def S43 (N : Nat) (x0 : V10) : Option (Int) := g43 N (S66 N) (S67 N) x0 (fun (r0 : Int) => some (r0))
def g16_0 (k0 : V14 → Option R) (x0 : V14) : Option R :=
k0 x0
theorem t16_0 (x0) : exec cl N c16_0 [(0, .v U17 x0)] K = (g16_0 (fun y0 => K .normal [(1, .loc U17 .no y0)]) x0) := by
 kernel_rfl
def g16_1 (S42 : V1 → Option (Bool)) (k0 : V14 → Bool → Option R) (x0 : V14) : Option R :=
(S42 x0.1).bind fun r229 =>
k0 x0 (!r229)
theorem t16_1 (S42) (h42 : (ctr42 S42).holds cl) (x0) : exec cl N c16_1 [(1, .loc U17 .no x0)] K = (g16_1 S42 (fun y0 y1 => K .normal (e72 y0 y1)) x0) := by
 rw [← put_eq h42]
 kernel_rfl
def g16_2 (k0 : Int → Option R) (x0 : V14) (x1 : Bool) : Option R :=
k0 (2 : Int)
theorem t16_2 (x0 x1) : exec cl N c16_2 (e72 x0 x1) K = (g16_2 (fun y0 => K .normal [(2, .v U2 y0)]) x0 x1) := by
 kernel_rfl
theorem kp16_0 (x0) : keep [1, 2] [(2, .v U2 x0)] = (e60 x0) := by kernel_rfl
def g16_3 (k0 : V14 → Bool → Option R) (x0 : V14) (x1 : Bool) : Option R :=
k0 x0 (decide ((x0.2.1.length : Int) > (30 : Int)))
theorem t16_3 (x0 x1) : exec cl N c16_3 (e72 x0 x1) K = (g16_3 (fun y0 y1 => K .normal (e73 y0 y1)) x0 x1) := by
 kernel_rfl
def g16_4 (k0 : Int → Option R) (x0 : V14) (x1 : Bool) : Option R :=
k0 (3 : Int)
theorem t16_4 (x0 x1) : exec cl N c16_4 (e73 x0 x1) K = (g16_4 (fun y0 => K .normal [(2, .v U2 y0)]) x0 x1) := by
 kernel_rfl
theorem kp16_1 (x0 x1) : keep [1, 2] (e73 x0 x1) = (e74 x0) := by kernel_rfl
theorem hb16_0 (x0 x1) : boolOf? (ent (e73 x0 x1) (.t 11)) = some x1 := by kernel_rfl
theorem kp16_2 (x0) : keep [1, 2] (e60 x0) = (e60 x0) := by kernel_rfl
theorem kp16_3 (x0) : keep [1, 2] (e74 x0) = (e74 x0) := by kernel_rfl
theorem hb16_1 (x0 x1) : boolOf? (ent (e72 x0 x1) (.t 6)) = some x1 := by kernel_rfl
def g16_8 (k0 : V11 → Int → Int → Option R) (x0 : V14) : Option R :=
k0 x0.2.1 (x0.2.1.length : Int) (0 : Int)
theorem t16_8 (x0) : exec cl N c16_8 (e74 x0) K = (g16_8 (fun y0 y1 y2 => K .normal (e75 y0 y1 y2)) x0) := by
 kernel_rfl
theorem kp16_4 (x0 x1 x2) : keep [17, 18, 19] (e75 x0 x1 x2) = (e75 x0 x1 x2) := by kernel_rfl
def g16_9 (k0 : V11 → Int → Int → Bool → Option R) (x0 : V11) (x1 x2 : Int) : Option R :=
k0 x0 x1 x2 (decide (x2 < x1))
theorem t16_9 (x0 x1 x2) : exec cl N c16_9 (e75 x0 x1 x2) K = (g16_9 (fun y0 y1 y2 y3 => K .normal (e76 y0 y1 y2 y3)) x0 x1 x2) := by
 kernel_rfl
theorem kp16_5 (x0 x1 x2 x3) : keep [17, 18, 19] (e76 x0 x1 x2 x3) = (e75 x0 x1 x2) := by kernel_rfl
theorem hb16_2 (x0 x1 x2 x3) : boolOf? (ent (e76 x0 x1 x2 x3) (.t 20)) = some x3 := by kernel_rfl
def g16_16 (S43 : V10 → Option (Int)) (k0 : Int → V11 → Int → Int → Bool → Option R) (x0 : V11) (x1 x2 : Int) : Option R :=
if 0 ≤ x2 ∧ x2 < (x0.length : Int) then
(S43 (x0.getD x2.toNat ((0 : Int), ((0 : Int), ([], ()))))).bind fun r233 =>
k0 r233 x0 x1 x2 (r233 != (0 : Int))
else none
theorem t16_16 (S43) (h43 : (ctr43 S43).holds cl) (x0 x1 x2) : exec cl N c16_16 (e75 x0 x1 x2) K = (g16_16 S43 (fun y0 y1 y2 y3 y4 => exec cl N c16_15 (e77 y0 y1 y2 y3 y4) K) x0 x1 x2) := by
 rw [← put_eq h43]
 kernel_rfl
def g16_14 (k0 : Int → Option R) (x0 : Int) (x1 : V11) (x2 x3 : Int) (x4 : Bool) : Option R :=
k0 x0
theorem t16_14 (x0 x1 x2 x3 x4) : exec cl N c16_14 (e77 x0 x1 x2 x3 x4) K = (g16_14 (fun y0 => K .normal [(2, .v U2 y0)]) x0 x1 x2 x3 x4) := by
 kernel_rfl
theorem kp16_6 (x0) : keep [2, 17, 18, 19] [(2, .v U2 x0)] = (e78 x0) := by kernel_rfl
theorem kp16_7 (x0 x1 x2 x3 x4) : keep [2, 17, 18, 19] (e77 x0 x1 x2 x3 x4) = (e79 x1 x2 x3) := by kernel_rfl
theorem hb16_3 (x0 x1 x2 x3 x4) : boolOf? (ent (e77 x0 x1 x2 x3 x4) (.t 26)) = some x4 := by kernel_rfl
theorem kp16_8 (x0) : keep [2, 17, 18, 19] (e78 x0) = (e78 x0) := by kernel_rfl
theorem kp16_9 (x0 x1 x2) : keep [2, 17, 18, 19] (e79 x0 x1 x2) = (e79 x0 x1 x2) := by kernel_rfl
def g16_18 (k0 : V11 → Int → Int → Option R) (x0 : V11) (x1 x2 : Int) : Option R :=
k0 x0 x1 (IntKind.i64.wrap (x2 + (1 : Int)))
theorem t16_18 (x0 x1 x2) : exec cl N c16_18 (e79 x0 x1 x2) K = (g16_18 (fun y0 y1 y2 => K .normal (e75 y0 y1 y2)) x0 x1 x2) := by
 kernel_rfl
def g16_19 (S43 : V10 → Option (Int)) (k0 : Int → Option R) (k1 : V11 → Int → Int → Option R) (k2 : V11 → Int → Int → Option R) (x0 : V11) (x1 x2 : Int) : Option R :=
(g16_9 (fun y0 y1 y2 y3 => brB y3 ((g16_16 S43 (fun y0 y1 y2 y3 y4 => brB y4 (g16_14 k0 y0 y1 y2 y3 y4) (((g16_18 k1)) y1 y2 y3))) y0 y1 y2) (k2 y0 y1 y2)) x0 x1 x2)
theorem t16_19 (S43) (h43 : (ctr43 S43).holds cl) (x0 x1 x2) : exec cl N c16_19 (e75 x0 x1 x2) K = (g16_19 S43 (fun y0 => K .ret (e78 y0)) (fun y0 y1 y2 => K .normal (e75 y0 y1 y2)) (fun y0 y1 y2 => K (.exit 1) (e75 y0 y1 y2)) x0 x1 x2) := by
 simp only [c16_19, exec_seq, seqK_normal, seqK_exit, seqK_ret, t16_9, c16_10, exec_out, exec_cond', hb16_2, Option.bind_some, brB_true, brB_false, exec_skip, exec_exit, kp16_5, c16_17, exec_block, t16_16 S43 h43, c16_15, hb16_3, t16_14, exec_ret, kp16_6, kp16_7, blockK_normal, blockK_ret, blockK_eq, kp16_8, kp16_9, t16_18]
 rfl
def l16_20 {R : Type} (S43 : V10 → Option (Int)) (k0 : Int → Option R) (k1 : V11 → Int → Int → Option R) : Nat → V11 → Int → Int → Option R
 | 0, _, _, _ => none
 | m + 1, x0, x1, x2 => (g16_19 S43 k0 (l16_20 S43 k0 k1 m) k1 x0 x1 x2)
theorem lt16_20 (S43) (h43 : (ctr43 S43).holds cl) : ∀ (m) (x0 x1 x2), iter [17, 18, 19] (fun env K => exec cl N c16_19 env K) K m (e75 x0 x1 x2) = l16_20 S43 (fun y0 => K .ret (e78 y0)) (fun y0 y1 y2 => K (.exit 1) (e75 y0 y1 y2)) m x0 x1 x2 := by
 intro m
 induction m with
 | zero => intros; rfl
 | succ m ih =>
   intro x0 x1 x2
   simp only [iter_succ, t16_19 S43 h43, loopK_normal, loopK_exit, loopK_ret, kp16_4, ih]
   rfl
theorem kp16_10 (x0) : keep [2] (e78 x0) = [(2, .v U2 x0)] := by kernel_rfl
theorem kp16_11 (x0 x1 x2) : keep [2] (e75 x0 x1 x2) = [(2, .dead)] := by kernel_rfl
def g16_20 (N : Nat) (S43 : V10 → Option (Int)) (k0 : Int → Option R) (k1 : Option R) (x0 : V11) (x1 x2 : Int) : Option R :=
l16_20 S43 k0 (fun y0 y1 y2 => k1) N x0 x1 x2
theorem t16_20 (S43) (h43 : (ctr43 S43).holds cl) (x0 x1 x2) : exec cl N c16_20 (e75 x0 x1 x2) K = (g16_20 N S43 (fun y0 => K .ret [(2, .v U2 y0)]) (K (.exit 1) [(2, .dead)]) x0 x1 x2) := by
 simp only [c16_20, exec_out, exec_loop, kp16_4, lt16_20 S43 h43, kp16_10, kp16_11]
 rfl
theorem kp16_12 (x0) : keep [2] [(2, .v U2 x0)] = [(2, .v U2 x0)] := by kernel_rfl
theorem kp16_13 : keep [2] [(2, .dead)] = [(2, .dead)] := by kernel_rfl
def g16_22 (k0 : Int → Option R) : Option R :=
k0 (0 : Int)
theorem t16_22 : exec cl N c16_22 [(2, .dead)] K = (g16_22 (fun y0 => K .normal [(2, .v U2 y0)])) := by
 kernel_rfl
def g16_23 (N : Nat) (S42 : V1 → Option (Bool)) (S43 : V10 → Option (Int)) (k0 : Int → Option R) (k1 : Int → Option R) (x0 : V14) : Option R :=
(g16_0 (g16_1 S42 (fun y0 y1 => brB y1 (g16_2 k0 y0 y1) (g16_3 (fun y0 y1 => brB y1 (g16_4 k0 y0 y1) ((((g16_8 (g16_20 N S43 k1 (g16_22 k1))))) y0)) y0 y1))) x0)
theorem t16_23 (S42) (S43) (h42 : (ctr42 S42).holds cl) (h43 : (ctr43 S43).holds cl) (x0) : exec cl N c16_23 [(0, .v U17 x0)] K = (g16_23 N S42 S43 (fun y0 => K .ret (e60 y0)) (fun y0 => K .ret [(2, .v U2 y0)]) x0) := by
 simp only [c16_23, exec_seq, seqK_normal, seqK_exit, seqK_ret, t16_0, c16_7, exec_out, exec_block, t16_1 S42 h42, c16_6, exec_cond', hb16_1, Option.bind_some, brB_true, brB_false, t16_2, exec_ret, t16_3, c16_5, hb16_0, t16_4, exec_skip, kp16_0, kp16_1, kp16_2, kp16_3, blockK_normal, blockK_ret, blockK_eq, t16_8, c16_21, t16_20 S43 h43, kp16_12, kp16_13, t16_22]
 rfl
theorem rk16_0 (y0) : retK d16 .ret (e60 y0) = some [.v U2 y0] := by kernel_rfl
theorem rk16_1 (y0) : retK d16 .ret [(2, .v U2 y0)] = some [.v U2 y0] := by kernel_rfl
def g16 (N : Nat) (S42 : V1 → Option (Bool)) (S43 : V10 → Option (Int)) (x0 : V14) (k : Int → Option R) : Option R :=
(g16_23 N S42 S43 k k x0)
theorem gen16 (S42) (S43) (h42 : (ctr42 S42).holds cl) (h43 : (ctr43 S43).holds cl) (x0) (k : List E → Option R) : exec cl N c16 [(0, .v U17 x0)] (fun e env => (retK d16 e env).bind k) = g16 N S42 S43 x0 (fun r0 => k [.v U2 r0]) := by
 simp only [c16, t16_23 S42 S43 h42 h43, rk16_0, rk16_1, Option.bind_some]
 rfl
def ctr16 (S : V14 → Option (Int)) : Ctr := cv1 16 U17 S fun b => [.v U2 b]
def S16 (N : Nat) (x0 : V14) : Option (Int) := g16 N (S42 N) (S43 N) x0 (fun (r0 : Int) => some (r0))
def g46_15 (k0 : V11 → V11 → Option R) (x0 : V11) : Option R :=
k0 x0 []
theorem t46_15 (x0) : exec cl N c46_15 [(0, .v U15 x0)] K = (g46_15 (fun y0 y1 => exec cl N (.seq (.seq c46_2 c46_13) (.seq c46_14 .ret)) [(0, .v U15 y0), (3, .own true 57 U13 .no y1)] K) x0) := by
 kernel_rfl
def g46_2 (k0 : V11 → V11 → Int → Int → Option R) (x0 x1 : V11) : Option R :=
k0 x1 x0 (x0.length : Int) (0 : Int)
theorem t46_2 (x0 x1) : exec cl N c46_2 [(0, .v U15 x0), (3, .own true 57 U13 .no x1)] K = (g46_2 (fun y0 y1 y2 y3 => K .normal (e80 y0 y1 y2 y3)) x0 x1) := by
 kernel_rfl
theorem kp46_0 (x0 x1 x2 x3) : keep [3, 6, 7, 8] (e80 x0 x1 x2 x3) = (e80 x0 x1 x2 x3) := by kernel_rfl
def g46_3 (k0 : V11 → V11 → Int → Int → Bool → Option R) (x0 x1 : V11) (x2 x3 : Int) : Option R :=
k0 x0 x1 x2 x3 (decide (x3 < x2))
theorem t46_3 (x0 x1 x2 x3) : exec cl N c46_3 (e80 x0 x1 x2 x3) K = (g46_3 (fun y0 y1 y2 y3 y4 => K .normal (e81 y0 y1 y2 y3 y4)) x0 x1 x2 x3) := by
 kernel_rfl
theorem kp46_1 (x0 x1 x2 x3 x4) : keep [3, 6, 7, 8] (e81 x0 x1 x2 x3 x4) = (e80 x0 x1 x2 x3) := by kernel_rfl
theorem hb46_0 (x0 x1 x2 x3 x4) : boolOf? (ent (e81 x0 x1 x2 x3 x4) (.t 9)) = some x4 := by kernel_rfl
def g46_8 (S48 : V4 → Option V6) (k0 : V11 → V11 → Int → Int → Option R) (x0 x1 : V11) (x2 x3 : Int) : Option R :=
if 0 ≤ x3 ∧ x3 < (x1.length : Int) then
(S48 ((x1.getD x3.toNat ((0 : Int), ((0 : Int), ([], ())))).2.2.1)).bind fun r250 =>
if x0.length + [((x1.getD x3.toNat ((0 : Int), ((0 : Int), ([], ())))).1, ((x1.getD x3.toNat ((0 : Int), ((0 : Int), ([], ())))).2.1, (r250, (x1.getD x3.toNat ((0 : Int), ((0 : Int), ([], ())))).2.2.2)))].length ≤ 3518437208883 then
k0 (x0 ++ [((x1.getD x3.toNat ((0 : Int), ((0 : Int), ([], ())))).1, ((x1.getD x3.toNat ((0 : Int), ((0 : Int), ([], ())))).2.1, (r250, (x1.getD x3.toNat ((0 : Int), ((0 : Int), ([], ())))).2.2.2)))]) x1 x2 x3
else none
else none
theorem t46_8 (S48) (h48 : (ctr48 S48).holds cl) (x0 x1 x2 x3) : exec cl N c46_8 (e80 x0 x1 x2 x3) K = (g46_8 S48 (fun y0 y1 y2 y3 => K .normal (e80 y0 y1 y2 y3)) x0 x1 x2 x3) := by
 rw [← put_eq h48]
 kernel_rfl
def g46_10 (k0 : V11 → V11 → Int → Int → Option R) (x0 x1 : V11) (x2 x3 : Int) : Option R :=
k0 x0 x1 x2 (IntKind.i64.wrap (x3 + (1 : Int)))
theorem t46_10 (x0 x1 x2 x3) : exec cl N c46_10 (e80 x0 x1 x2 x3) K = (g46_10 (fun y0 y1 y2 y3 => K .normal (e80 y0 y1 y2 y3)) x0 x1 x2 x3) := by
 kernel_rfl
def g46_11 (S48 : V4 → Option V6) (k0 : V11 → V11 → Int → Int → Option R) (k1 : V11 → V11 → Int → Int → Option R) (x0 x1 : V11) (x2 x3 : Int) : Option R :=
(g46_3 (fun y0 y1 y2 y3 y4 => brB y4 ((g46_8 S48 ((g46_10 k0))) y0 y1 y2 y3) (k1 y0 y1 y2 y3)) x0 x1 x2 x3)
theorem t46_11 (S48) (h48 : (ctr48 S48).holds cl) (x0 x1 x2 x3) : exec cl N c46_11 (e80 x0 x1 x2 x3) K = (g46_11 S48 (fun y0 y1 y2 y3 => K .normal (e80 y0 y1 y2 y3)) (fun y0 y1 y2 y3 => K (.exit 0) (e80 y0 y1 y2 y3)) x0 x1 x2 x3) := by
 simp only [c46_11, exec_seq, seqK_normal, seqK_exit, seqK_ret, t46_3, c46_4, exec_out, exec_cond', hb46_0, Option.bind_some, brB_true, brB_false, exec_skip, exec_exit, kp46_1, c46_9, exec_block, t46_8 S48 h48, blockK_normal, blockK_ret, blockK_eq, kp46_0, t46_10]
 rfl
def l46_12 {R : Type} (S48 : V4 → Option V6) (k0 : V11 → V11 → Int → Int → Option R) : Nat → V11 → V11 → Int → Int → Option R
 | 0, _, _, _, _ => none
 | m + 1, x0, x1, x2, x3 => (g46_11 S48 (l46_12 S48 k0 m) k0 x0 x1 x2 x3)
theorem lt46_12 (S48) (h48 : (ctr48 S48).holds cl) : ∀ (m) (x0 x1 x2 x3), iter [3, 6, 7, 8] (fun env K => exec cl N c46_11 env K) K m (e80 x0 x1 x2 x3) = l46_12 S48 (fun y0 y1 y2 y3 => K (.exit 0) (e80 y0 y1 y2 y3)) m x0 x1 x2 x3 := by
 intro m
 induction m with
 | zero => intros; rfl
 | succ m ih =>
   intro x0 x1 x2 x3
   simp only [iter_succ, t46_11 S48 h48, loopK_normal, loopK_exit, loopK_ret, kp46_0, ih]
   rfl
theorem kp46_2 (x0 x1 x2 x3) : keep [3] (e80 x0 x1 x2 x3) = (e82 x0) := by kernel_rfl
def g46_12 (N : Nat) (S48 : V4 → Option V6) (k0 : V11 → Option R) (x0 x1 : V11) (x2 x3 : Int) : Option R :=
l46_12 S48 (fun y0 y1 y2 y3 => k0 y0) N x0 x1 x2 x3
theorem t46_12 (S48) (h48 : (ctr48 S48).holds cl) (x0 x1 x2 x3) : exec cl N c46_12 (e80 x0 x1 x2 x3) K = (g46_12 N S48 (fun y0 => K (.exit 0) (e82 y0)) x0 x1 x2 x3) := by
 simp only [c46_12, exec_out, exec_loop, kp46_0, lt46_12 S48 h48, kp46_2]
 rfl
theorem kp46_3 (x0) : keep [3] (e82 x0) = (e82 x0) := by kernel_rfl
def g46_14 (k0 : V11 → Option R) (x0 : V11) : Option R :=
k0 x0
theorem t46_14 (x0) : exec cl N c46_14 (e82 x0) K = (g46_14 (fun y0 => K .normal (e83 y0)) x0) := by
 kernel_rfl
def g46_15b (N : Nat) (S48 : V4 → Option V6) (k0 : V11 → Option R) (x0 : V11) : Option R :=
(g46_15 (g46_2 (g46_12 N S48 ((g46_14 k0)))) x0)
theorem t46_15b (S48) (h48 : (ctr48 S48).holds cl) (x0) : exec cl N c46_15 [(0, .v U15 x0)] K = (g46_15b N S48 (fun y0 => K .ret (e83 y0)) x0) := by
 simp only [exec_seq, seqK_normal, seqK_exit, seqK_ret, t46_15, t46_2, c46_13, exec_out, exec_block, t46_12 S48 h48, blockK_normal, blockK_ret, blockK_eq, kp46_3, t46_14, exec_ret]
 rfl
theorem rk46_0 (y0) : retK d46 .ret (e83 y0) = some [.own true 57 U13 .no y0] := by kernel_rfl
def g46 (N : Nat) (S48 : V4 → Option V6) (x0 : V11) (k : V11 → Option R) : Option R :=
(g46_15b N S48 k x0)
theorem gen46 (S48) (h48 : (ctr48 S48).holds cl) (x0) (k : List E → Option R) : exec cl N c46 [(0, .v U15 x0)] (fun e env => (retK d46 e env).bind k) = g46 N S48 x0 (fun r0 => k [.own true 57 U13 .no r0]) := by
 simp only [c46, t46_15b S48 h48, rk46_0, Option.bind_some]
 rfl
def ctr46 (S : V11 → Option V12) : Ctr := cv1 46 U15 S fun b => [.own true 57 U13 .no b]
def S46 (N : Nat) (x0 : V11) : Option V12 := g46 N (S48 N) x0 (fun (r0 : V11) => some (r0))
def g18_0 (k0 : V14 → V14 → V14 → Option R) (x0 x1 : V14) : Option R :=
k0 x0 x1 ([], ([], ()))
theorem t18_0 (x0 x1) : exec cl N c18_0 (e84 x0 x1) K = (g18_0 (fun y0 y1 y2 => K .normal (e85 y0 y1 y2)) x0 x1) := by
 kernel_rfl
def g18_5 (S16 : V14 → Option (Int)) (k0 : V14 → V14 → V14 → Int → Bool → Option R) (x0 x1 x2 : V14) : Option R :=
(S16 x0).bind fun r256 =>
k0 x0 x1 x2 r256 (r256 != (0 : Int))
theorem t18_5 (S16) (h16 : (ctr16 S16).holds cl) (x0 x1 x2) : exec cl N c18_5 (e85 x0 x1 x2) K = (g18_5 S16 (fun y0 y1 y2 y3 y4 => exec cl N c18_4 (e86 y0 y1 y2 y3 y4) K) x0 x1 x2) := by
 rw [← put_eq h16]
 kernel_rfl
def g18_3 (k0 : V14 → Int → Option R) (x0 x1 x2 : V14) (x3 : Int) (x4 : Bool) : Option R :=
k0 ([], [], ()) x3
theorem t18_3 (x0 x1 x2 x3 x4) : exec cl N c18_3 (e86 x0 x1 x2 x3 x4) K = (g18_3 (fun y0 y1 => K .normal (e87 y0 y1)) x0 x1 x2 x3 x4) := by
 kernel_rfl
theorem kp18_0 (x0 x1) : keep [2, 3, 4, 5] (e87 x0 x1) = (e88 x0 x1) := by kernel_rfl
theorem kp18_1 (x0 x1 x2 x3 x4) : keep [2, 3, 4, 5] (e86 x0 x1 x2 x3 x4) = (e89 x0 x1 x2) := by kernel_rfl
theorem hb18_0 (x0 x1 x2 x3 x4) : boolOf? (ent (e86 x0 x1 x2 x3 x4) (.t 11)) = some x4 := by kernel_rfl
def g18_10 (S16 : V14 → Option (Int)) (k0 : V14 → V14 → V14 → Int → Bool → Option R) (x0 x1 x2 : V14) : Option R :=
(S16 x1).bind fun r259 =>
k0 x0 x1 x2 r259 (r259 != (0 : Int))
theorem t18_10 (S16) (h16 : (ctr16 S16).holds cl) (x0 x1 x2) : exec cl N c18_10 (e89 x0 x1 x2) K = (g18_10 S16 (fun y0 y1 y2 y3 y4 => exec cl N c18_9 (e90 y0 y1 y2 y3 y4) K) x0 x1 x2) := by
 rw [← put_eq h16]
 kernel_rfl
def g18_8 (k0 : V14 → Int → Option R) (x0 x1 x2 : V14) (x3 : Int) (x4 : Bool) : Option R :=
k0 ([], [], ()) x3
theorem t18_8 (x0 x1 x2 x3 x4) : exec cl N c18_8 (e90 x0 x1 x2 x3 x4) K = (g18_8 (fun y0 y1 => K .normal (e87 y0 y1)) x0 x1 x2 x3 x4) := by
 kernel_rfl
theorem kp18_2 (x0 x1 x2 x3 x4) : keep [2, 3, 4, 5] (e90 x0 x1 x2 x3 x4) = (e89 x0 x1 x2) := by kernel_rfl
theorem hb18_1 (x0 x1 x2 x3 x4) : boolOf? (ent (e90 x0 x1 x2 x3 x4) (.t 17)) = some x4 := by kernel_rfl
def g18_11 (k0 : V14 → V14 → V14 → Bool → Option R) (x0 x1 x2 : V14) : Option R :=
k0 x0 x1 x2 (decide ((IntKind.i64.wrap ((x0.2.1.length : Int) + (x1.2.1.length : Int))) > (30 : Int)))
theorem t18_11 (x0 x1 x2) : exec cl N c18_11 (e89 x0 x1 x2) K = (g18_11 (fun y0 y1 y2 y3 => K .normal (e91 y0 y1 y2 y3)) x0 x1 x2) := by
 kernel_rfl
def g18_12 (k0 : V14 → Int → Option R) (x0 x1 x2 : V14) (x3 : Bool) : Option R :=
k0 ([], [], ()) (3 : Int)
theorem t18_12 (x0 x1 x2 x3) : exec cl N c18_12 (e91 x0 x1 x2 x3) K = (g18_12 (fun y0 y1 => K .normal (e87 y0 y1)) x0 x1 x2 x3) := by
 kernel_rfl
theorem kp18_3 (x0 x1 x2 x3) : keep [2, 3, 4, 5] (e91 x0 x1 x2 x3) = (e89 x0 x1 x2) := by kernel_rfl
theorem hb18_2 (x0 x1 x2 x3) : boolOf? (ent (e91 x0 x1 x2 x3) (.t 27)) = some x3 := by kernel_rfl
def g18_14 (S46 : V11 → Option V12) (k0 : V14 → Int → Option R) (x0 x1 x2 : V14) : Option R :=
(S46 x0.2.1).bind fun r263 =>
(S46 x1.2.1).bind fun r264 =>
if r263.length + r264.length ≤ 3518437208883 then
k0 (x0.1, (r263 ++ r264), ()) (0 : Int)
else none
theorem t18_14 (S46) (h46 : (ctr46 S46).holds cl) (x0 x1 x2) : exec cl N c18_14 (e89 x0 x1 x2) K = (g18_14 S46 (fun y0 y1 => K .normal (e92 y0 y1)) x0 x1 x2) := by
 rw [← put_eq h46]
 kernel_rfl
def g18_15 (S16 : V14 → Option (Int)) (S46 : V11 → Option V12) (k0 : V14 → Int → Option R) (k1 : V14 → Int → Option R) (x0 x1 : V14) : Option R :=
(g18_0 (g18_5 S16 (fun y0 y1 y2 y3 y4 => brB y4 (g18_3 k0 y0 y1 y2 y3 y4) ((g18_10 S16 (fun y0 y1 y2 y3 y4 => brB y4 (g18_8 k0 y0 y1 y2 y3 y4) ((g18_11 (fun y0 y1 y2 y3 => brB y3 (g18_12 k0 y0 y1 y2 y3) ((g18_14 S46 k1) y0 y1 y2))) y0 y1 y2))) y0 y1 y2))) x0 x1)
theorem t18_15 (S16) (S46) (h16 : (ctr16 S16).holds cl) (h46 : (ctr46 S46).holds cl) (x0 x1) : exec cl N c18_15 (e84 x0 x1) K = (g18_15 S16 S46 (fun y0 y1 => K .ret (e88 y0 y1)) (fun y0 y1 => K .ret (e92 y0 y1)) x0 x1) := by
 simp only [c18_15, exec_seq, seqK_normal, seqK_exit, seqK_ret, t18_0, t18_5 S16 h16, c18_4, exec_out, exec_cond', hb18_0, Option.bind_some, brB_true, brB_false, t18_3, exec_ret, exec_skip, kp18_0, kp18_1, t18_10 S16 h16, c18_9, hb18_1, t18_8, kp18_2, t18_11, c18_13, hb18_2, t18_12, kp18_3, t18_14 S46 h46]
 rfl
theorem rk18_0 (y0 y1) : retK d18 .ret (e88 y0 y1) = some [.v U17 y0, .v U2 y1] := by kernel_rfl
theorem rk18_1 (y0 y1) : retK d18 .ret (e92 y0 y1) = some [.v U17 y0, .v U2 y1] := by kernel_rfl
def g18 (S16 : V14 → Option (Int)) (S46 : V11 → Option V12) (x0 x1 : V14) (k : V14 → Int → Option R) : Option R :=
(g18_15 S16 S46 k k x0 x1)
theorem gen18 (S16) (S46) (h16 : (ctr16 S16).holds cl) (h46 : (ctr46 S46).holds cl) (x0 x1) (k : List E → Option R) : exec cl N c18 (e84 x0 x1) (fun e env => (retK d18 e env).bind k) = g18 S16 S46 x0 x1 (fun r0 r1 => k [.v U17 r0, .v U2 r1]) := by
 simp only [c18, t18_15 S16 S46 h16 h46, rk18_0, rk18_1, Option.bind_some]
 rfl
def ctr18 (S : V14 → V14 → Option V16) : Ctr := cv2 18 U17 U17 S fun b => [.v U17 b.1, .v U2 b.2]
def S18 (N : Nat) (x0 : V14) (x1 : V14) : Option V16 := g18 (S16 N) (S46 N) x0 x1 (fun (r0 : V14) (r1 : Int) => some (r0, r1))
def g72_2 (k0 : Bool → Option R) (x0 : Int) : Option R :=
brB (decide (x0 ≥ (97 : Int))) (k0 (decide (x0 ≤ (122 : Int)))) (k0 false)
theorem t72_2 (x0) : exec cl N c72_2 [(0, .v U1 x0)] K = (g72_2 (fun y0 => exec cl N .ret [(2, .v .bool y0)] K) x0) := by
 kernel_rfl
def g72_2b (k0 : Bool → Option R) (x0 : Int) : Option R :=
(g72_2 k0 x0)
theorem t72_2b (x0) : exec cl N c72_2 [(0, .v U1 x0)] K = (g72_2b (fun y0 => K .ret [(2, .v .bool y0)]) x0) := by
 simp only [exec_seq, seqK_normal, seqK_exit, seqK_ret, t72_2, exec_ret]
 rfl
theorem rk72_0 (y0) : retK d72 .ret [(2, .v .bool y0)] = some [.v .bool y0] := by kernel_rfl
def g72 (x0 : Int) (k : Bool → Option R) : Option R :=
(g72_2b k x0)
theorem gen72 (x0) (k : List E → Option R) : exec cl N c72 [(0, .v U1 x0)] (fun e env => (retK d72 e env).bind k) = g72 x0 (fun r0 => k [.v .bool r0]) := by
 simp only [c72, t72_2b, rk72_0, Option.bind_some]
 rfl
def ctr72 (S : Int → Option (Bool)) : Ctr := cv1 72 U1 S fun b => [.v .bool b]
def S72 (N : Nat) (x0 : Int) : Option (Bool) := g72 x0 (fun (r0 : Bool) => some (r0))
def g73_2 (k0 : Bool → Option R) (x0 : Int) : Option R :=
brB (decide (x0 ≥ (48 : Int))) (k0 (decide (x0 ≤ (57 : Int)))) (k0 false)
theorem t73_2 (x0) : exec cl N c73_2 [(0, .v U1 x0)] K = (g73_2 (fun y0 => exec cl N .ret [(2, .v .bool y0)] K) x0) := by
 kernel_rfl
def g73_2b (k0 : Bool → Option R) (x0 : Int) : Option R :=
(g73_2 k0 x0)
theorem t73_2b (x0) : exec cl N c73_2 [(0, .v U1 x0)] K = (g73_2b (fun y0 => K .ret [(2, .v .bool y0)]) x0) := by
 simp only [exec_seq, seqK_normal, seqK_exit, seqK_ret, t73_2, exec_ret]
 rfl
theorem rk73_0 (y0) : retK d73 .ret [(2, .v .bool y0)] = some [.v .bool y0] := by kernel_rfl
def g73 (x0 : Int) (k : Bool → Option R) : Option R :=
(g73_2b k x0)
theorem gen73 (x0) (k : List E → Option R) : exec cl N c73 [(0, .v U1 x0)] (fun e env => (retK d73 e env).bind k) = g73 x0 (fun r0 => k [.v .bool r0]) := by
 simp only [c73, t73_2b, rk73_0, Option.bind_some]
 rfl
def ctr73 (S : Int → Option (Bool)) : Ctr := cv1 73 U1 S fun b => [.v .bool b]
def S73 (N : Nat) (x0 : Int) : Option (Bool) := g73 x0 (fun (r0 : Bool) => some (r0))
def g54_0 (k0 : V1 → Option R) (x0 : V1) : Option R :=
k0 x0
theorem t54_0 (x0) : exec cl N c54_0 [(0, .v .str x0)] K = (g54_0 (fun y0 => K .normal [(0, .v .str y0)]) x0) := by
 kernel_rfl
def g54_1 (S72 : Int → Option (Bool)) (k0 : V1 → Bool → Option R) (x0 : V1) : Option R :=
brB (x0 == ([] : List UInt8)) (k0 x0 true) (if 0 ≤ (0 : Int) ∧ (0 : Int) < (x0.length : Int) then
(S72 ((x0.getD (0 : Int).toNat 0).toNat : Int)).bind fun r302 =>
k0 x0 (!r302)
else none)
theorem t54_1 (S72) (h72 : (ctr72 S72).holds cl) (x0) : exec cl N c54_1 [(0, .v .str x0)] K = (g54_1 S72 (fun y0 y1 => K .normal (e93 y0 y1)) x0) := by
 rw [← put_eq h72]
 kernel_rfl
def g54_2 (k0 : Int → Option R) (x0 : V1) (x1 : Bool) : Option R :=
k0 (0 : Int)
theorem t54_2 (x0 x1) : exec cl N c54_2 (e93 x0 x1) K = (g54_2 (fun y0 => K .normal [(2, .v U2 y0)]) x0 x1) := by
 kernel_rfl
theorem kp54_0 (x0) : keep [0, 2] [(2, .v U2 x0)] = (e9 x0) := by kernel_rfl
theorem kp54_1 (x0 x1) : keep [0, 2] (e93 x0 x1) = (e10 x0) := by kernel_rfl
theorem hb54_0 (x0 x1) : boolOf? (ent (e93 x0 x1) (.t 11)) = some x1 := by kernel_rfl
def g54_4 (k0 : V1 → Int → Option R) (x0 : V1) : Option R :=
k0 x0 (1 : Int)
theorem t54_4 (x0) : exec cl N c54_4 (e10 x0) K = (g54_4 (fun y0 y1 => K .normal (e11 y0 y1)) x0) := by
 kernel_rfl
theorem kp54_2 (x0 x1) : keep [0, 3] (e11 x0 x1) = (e11 x0 x1) := by kernel_rfl
def g54_5 (k0 : V1 → Int → Bool → Option R) (x0 : V1) (x1 : Int) : Option R :=
k0 x0 x1 (decide (x1 < (x0.length : Int)))
theorem t54_5 (x0 x1) : exec cl N c54_5 (e11 x0 x1) K = (g54_5 (fun y0 y1 y2 => K .normal (e94 y0 y1 y2)) x0 x1) := by
 kernel_rfl
theorem kp54_3 (x0 x1 x2) : keep [0, 3] (e94 x0 x1 x2) = (e11 x0 x1) := by kernel_rfl
theorem hb54_1 (x0 x1 x2) : boolOf? (ent (e94 x0 x1 x2) (.t 15)) = some x2 := by kernel_rfl
def g54_7 (S72 : Int → Option (Bool)) (S73 : Int → Option (Bool)) (k0 : V1 → Int → Bool → Option R) (x0 : V1) (x1 : Int) : Option R :=
if 0 ≤ x1 ∧ x1 < (x0.length : Int) then
(S72 ((x0.getD x1.toNat 0).toNat : Int)).bind fun r305 =>
brB r305 (k0 x0 x1 true) (if 0 ≤ x1 ∧ x1 < (x0.length : Int) then
(S73 ((x0.getD x1.toNat 0).toNat : Int)).bind fun r307 =>
k0 x0 x1 r307
else none)
else none
theorem t54_7 (S72) (S73) (h72 : (ctr72 S72).holds cl) (h73 : (ctr73 S73).holds cl) (x0 x1) : exec cl N c54_7 (e11 x0 x1) K = (g54_7 S72 S73 (fun y0 y1 y2 => K .normal (e95 y0 y1 y2)) x0 x1) := by
 rw [← put_eq h72]
 rw [← put_eq h73]
 kernel_rfl
def g54_8 (k0 : V1 → Int → Option R) (x0 : V1) (x1 : Int) (x2 : Bool) : Option R :=
k0 x0 (IntKind.i64.wrap (x1 + (1 : Int)))
theorem t54_8 (x0 x1 x2) : exec cl N c54_8 (e95 x0 x1 x2) K = (g54_8 (fun y0 y1 => K .normal (e11 y0 y1)) x0 x1 x2) := by
 kernel_rfl
theorem kp54_4 (x0 x1 x2) : keep [0, 3] (e95 x0 x1 x2) = (e11 x0 x1) := by kernel_rfl
theorem hb54_2 (x0 x1 x2) : boolOf? (ent (e95 x0 x1 x2) (.t 25)) = some x2 := by kernel_rfl
def g54_10 (S72 : Int → Option (Bool)) (S73 : Int → Option (Bool)) (k0 : V1 → Int → Bool → Option R) (x0 : V1) (x1 : Int) : Option R :=
if 0 ≤ x1 ∧ x1 < (x0.length : Int) then
brB (((x0.getD x1.toNat 0).toNat : Int) != (45 : Int)) (k0 x0 x1 true) (brB ((IntKind.i64.wrap (x1 + (1 : Int))) == (x0.length : Int)) (k0 x0 x1 true) (let v313 : Int := (IntKind.i64.wrap (x1 + (1 : Int)))
if 0 ≤ v313 ∧ v313 < (x0.length : Int) then
(S72 ((x0.getD v313.toNat 0).toNat : Int)).bind fun r315 =>
brB (!r315) (let v316 : Int := (IntKind.i64.wrap (x1 + (1 : Int)))
if 0 ≤ v316 ∧ v316 < (x0.length : Int) then
(S73 ((x0.getD v316.toNat 0).toNat : Int)).bind fun r318 =>
k0 x0 x1 (!r318)
else none) (k0 x0 x1 false)
else none))
else none
theorem t54_10 (S72) (S73) (h72 : (ctr72 S72).holds cl) (h73 : (ctr73 S73).holds cl) (x0 x1) : exec cl N c54_10 (e11 x0 x1) K = (g54_10 S72 S73 (fun y0 y1 y2 => K .normal (e96 y0 y1 y2)) x0 x1) := by
 rw [← put_eq h72]
 rw [← put_eq h73]
 kernel_rfl
theorem kp54_5 (x0 x1 x2) : keep [0, 3] (e96 x0 x1 x2) = (e11 x0 x1) := by kernel_rfl
theorem hb54_3 (x0 x1 x2) : boolOf? (ent (e96 x0 x1 x2) (.t 54)) = some x2 := by kernel_rfl
def g54_12 (k0 : V1 → Int → Option R) (x0 : V1) (x1 : Int) : Option R :=
k0 x0 (IntKind.i64.wrap (x1 + (2 : Int)))
theorem t54_12 (x0 x1) : exec cl N c54_12 (e11 x0 x1) K = (g54_12 (fun y0 y1 => K .normal (e11 y0 y1)) x0 x1) := by
 kernel_rfl
def g54_14 (S72 : Int → Option (Bool)) (S73 : Int → Option (Bool)) (k0 : V1 → Int → Option R) (k1 : V1 → Int → Option R) (x0 : V1) (x1 : Int) : Option R :=
(g54_5 (fun y0 y1 y2 => brB y2 ((g54_7 S72 S73 (fun y0 y1 y2 => brB y2 (g54_8 k0 y0 y1 y2) ((g54_10 S72 S73 (fun y0 y1 y2 => brB y2 (k1 y0 y1) ((g54_12 k0) y0 y1))) y0 y1))) y0 y1) (k1 y0 y1)) x0 x1)
theorem t54_14 (S72) (S73) (h72 : (ctr72 S72).holds cl) (h73 : (ctr73 S73).holds cl) (x0 x1) : exec cl N c54_14 (e11 x0 x1) K = (g54_14 S72 S73 (fun y0 y1 => K .normal (e11 y0 y1)) (fun y0 y1 => K (.exit 0) (e11 y0 y1)) x0 x1) := by
 simp only [c54_14, exec_seq, seqK_normal, seqK_exit, seqK_ret, t54_5, c54_6, exec_out, exec_cond', hb54_1, Option.bind_some, brB_true, brB_false, exec_skip, exec_exit, kp54_3, c54_13, exec_block, t54_7 S72 S73 h72 h73, c54_9, hb54_2, t54_8, kp54_2, kp54_4, t54_10 S72 S73 h72 h73, c54_11, hb54_3, kp54_5, t54_12, blockK_normal, blockK_ret, blockK_eq, blockK_ne 1 0 rfl]
 rfl
def l54_15 {R : Type} (S72 : Int → Option (Bool)) (S73 : Int → Option (Bool)) (k0 : V1 → Int → Option R) : Nat → V1 → Int → Option R
 | 0, _, _ => none
 | m + 1, x0, x1 => (g54_14 S72 S73 (l54_15 S72 S73 k0 m) k0 x0 x1)
theorem lt54_15 (S72) (S73) (h72 : (ctr72 S72).holds cl) (h73 : (ctr73 S73).holds cl) : ∀ (m) (x0 x1), iter [0, 3] (fun env K => exec cl N c54_14 env K) K m (e11 x0 x1) = l54_15 S72 S73 (fun y0 y1 => K (.exit 0) (e11 y0 y1)) m x0 x1 := by
 intro m
 induction m with
 | zero => intros; rfl
 | succ m ih =>
   intro x0 x1
   simp only [iter_succ, t54_14 S72 S73 h72 h73, loopK_normal, loopK_exit, loopK_ret, kp54_2, ih]
   rfl
theorem kp54_6 (x0 x1) : keep [3] (e11 x0 x1) = [(3, .v U2 x1)] := by kernel_rfl
def g54_15 (N : Nat) (S72 : Int → Option (Bool)) (S73 : Int → Option (Bool)) (k0 : Int → Option R) (x0 : V1) (x1 : Int) : Option R :=
l54_15 S72 S73 (fun y0 y1 => k0 y1) N x0 x1
theorem t54_15 (S72) (S73) (h72 : (ctr72 S72).holds cl) (h73 : (ctr73 S73).holds cl) (x0 x1) : exec cl N c54_15 (e11 x0 x1) K = (g54_15 N S72 S73 (fun y0 => K (.exit 0) [(3, .v U2 y0)]) x0 x1) := by
 simp only [c54_15, exec_out, exec_loop, kp54_2, lt54_15 S72 S73 h72 h73, kp54_6]
 rfl
theorem kp54_7 (x0) : keep [3] [(3, .v U2 x0)] = [(3, .v U2 x0)] := by kernel_rfl
def g54_17 (k0 : Int → Option R) (x0 : Int) : Option R :=
k0 x0
theorem t54_17 (x0) : exec cl N c54_17 [(3, .v U2 x0)] K = (g54_17 (fun y0 => K .normal [(2, .v U2 y0)]) x0) := by
 kernel_rfl
def g54_18 (N : Nat) (S72 : Int → Option (Bool)) (S73 : Int → Option (Bool)) (k0 : Int → Option R) (k1 : Int → Option R) (x0 : V1) : Option R :=
(g54_0 (g54_1 S72 (fun y0 y1 => brB y1 (g54_2 k0 y0 y1) ((g54_4 (g54_15 N S72 S73 ((g54_17 k1)))) y0))) x0)
theorem t54_18 (S72) (S73) (h72 : (ctr72 S72).holds cl) (h73 : (ctr73 S73).holds cl) (x0) : exec cl N c54_18 [(0, .v .str x0)] K = (g54_18 N S72 S73 (fun y0 => K .ret (e9 y0)) (fun y0 => K .ret [(2, .v U2 y0)]) x0) := by
 simp only [c54_18, exec_seq, seqK_normal, seqK_exit, seqK_ret, t54_0, t54_1 S72 h72, c54_3, exec_out, exec_cond', hb54_0, Option.bind_some, brB_true, brB_false, t54_2, exec_ret, exec_skip, kp54_0, kp54_1, t54_4, c54_16, exec_block, t54_15 S72 S73 h72 h73, blockK_normal, blockK_ret, blockK_eq, kp54_7, t54_17]
 rfl
theorem rk54_0 (y0) : retK d54 .ret (e9 y0) = some [.v U2 y0] := by kernel_rfl
theorem rk54_1 (y0) : retK d54 .ret [(2, .v U2 y0)] = some [.v U2 y0] := by kernel_rfl
def g54 (N : Nat) (S72 : Int → Option (Bool)) (S73 : Int → Option (Bool)) (x0 : V1) (k : Int → Option R) : Option R :=
(g54_18 N S72 S73 k k x0)
theorem gen54 (S72) (S73) (h72 : (ctr72 S72).holds cl) (h73 : (ctr73 S73).holds cl) (x0) (k : List E → Option R) : exec cl N c54 [(0, .v .str x0)] (fun e env => (retK d54 e env).bind k) = g54 N S72 S73 x0 (fun r0 => k [.v U2 r0]) := by
 simp only [c54, t54_18 S72 S73 h72 h73, rk54_0, rk54_1, Option.bind_some]
 rfl
def ctr54 (S : V1 → Option (Int)) : Ctr := cv1 54 .str S fun b => [.v U2 b]
def S54 (N : Nat) (x0 : V1) : Option (Int) := g54 N (S72 N) (S73 N) x0 (fun (r0 : Int) => some (r0))
def g27_2 (S54 : V1 → Option (Int)) (k0 : Bool → Option R) (x0 : V1) : Option R :=
brB (x0 != ([] : List UInt8)) (brB (decide ((x0.length : Int) ≤ (20 : Int))) ((S54 x0).bind fun r324 =>
k0 (r324 == (x0.length : Int))) (k0 false)) (k0 false)
theorem t27_2 (S54) (h54 : (ctr54 S54).holds cl) (x0) : exec cl N c27_2 [(0, .v .str x0)] K = (g27_2 S54 (fun y0 => exec cl N .ret [(2, .v .bool y0)] K) x0) := by
 rw [← put_eq h54]
 kernel_rfl
def g27_2b (S54 : V1 → Option (Int)) (k0 : Bool → Option R) (x0 : V1) : Option R :=
(g27_2 S54 k0 x0)
theorem t27_2b (S54) (h54 : (ctr54 S54).holds cl) (x0) : exec cl N c27_2 [(0, .v .str x0)] K = (g27_2b S54 (fun y0 => K .ret [(2, .v .bool y0)]) x0) := by
 simp only [exec_seq, seqK_normal, seqK_exit, seqK_ret, t27_2 S54 h54, exec_ret]
 rfl
theorem rk27_0 (y0) : retK d27 .ret [(2, .v .bool y0)] = some [.v .bool y0] := by kernel_rfl
def g27 (S54 : V1 → Option (Int)) (x0 : V1) (k : Bool → Option R) : Option R :=
(g27_2b S54 k x0)
theorem gen27 (S54) (h54 : (ctr54 S54).holds cl) (x0) (k : List E → Option R) : exec cl N c27 [(0, .v .str x0)] (fun e env => (retK d27 e env).bind k) = g27 S54 x0 (fun r0 => k [.v .bool r0]) := by
 simp only [c27, t27_2b S54 h54, rk27_0, Option.bind_some]
 rfl
def ctr27 (S : V1 → Option (Bool)) : Ctr := cv1 27 .str S fun b => [.v .bool b]
def S27 (N : Nat) (x0 : V1) : Option (Bool) := g27 (S54 N) x0 (fun (r0 : Bool) => some (r0))
def g49_16 (k0 : V1 → V0 → Option R) (x0 : V1) : Option R :=
if 0 ≤ (x0.length : Int) ∧ (x0.length : Int) ≤ (x0.length : Int) ∧ (x0.length : Int) ≤ ((140737488355328 : Nat) : Int) then
k0 x0 (List.replicate (x0.length : Int).toNat (0 : Int))
else none
theorem t49_16 (x0) : exec cl N c49_16 [(0, .v .str x0)] K = (g49_16 (fun y0 y1 => exec cl N (.seq (.seq c49_2 c49_14) (.seq c49_15 .ret)) [(0, .v .str y0), (3, .own true 5 U1 .no y1)] K) x0) := by
 kernel_rfl
def g49_2 (k0 : V1 → V0 → Int → Option R) (x0 : V1) (x1 : V0) : Option R :=
k0 x0 x1 (0 : Int)
theorem t49_2 (x0 x1) : exec cl N c49_2 [(0, .v .str x0), (3, .own true 5 U1 .no x1)] K = (g49_2 (fun y0 y1 y2 => K .normal (e97 y0 y1 y2)) x0 x1) := by
 kernel_rfl
theorem kp49_0 (x0 x1 x2) : keep [0, 3, 4] (e97 x0 x1 x2) = (e97 x0 x1 x2) := by kernel_rfl
def g49_3 (k0 : V1 → V0 → Int → Bool → Option R) (x0 : V1) (x1 : V0) (x2 : Int) : Option R :=
k0 x0 x1 x2 (decide (x2 < (x0.length : Int)))
theorem t49_3 (x0 x1 x2) : exec cl N c49_3 (e97 x0 x1 x2) K = (g49_3 (fun y0 y1 y2 y3 => K .normal (e98 y0 y1 y2 y3)) x0 x1 x2) := by
 kernel_rfl
theorem kp49_1 (x0 x1 x2 x3) : keep [0, 3, 4] (e98 x0 x1 x2 x3) = (e97 x0 x1 x2) := by kernel_rfl
theorem hb49_0 (x0 x1 x2 x3) : boolOf? (ent (e98 x0 x1 x2 x3) (.t 11)) = some x3 := by kernel_rfl
def g49_9 (k0 : V1 → V0 → Int → Bool → Option R) (x0 : V1) (x1 : V0) (x2 : Int) : Option R :=
if 0 ≤ x2 ∧ x2 < (x0.length : Int) then
let v351 : Int := ((x0.getD x2.toNat 0).toNat : Int)
if 0 ≤ x2 ∧ x2 < (x1.length : Int) then
if x2.toNat < x1.length then
if 0 ≤ x2 ∧ x2 < (x0.length : Int) then
brB (decide (((x0.getD x2.toNat 0).toNat : Int) ≥ (65 : Int))) (if 0 ≤ x2 ∧ x2 < (x0.length : Int) then
k0 x0 (x1.set x2.toNat v351) x2 (decide (((x0.getD x2.toNat 0).toNat : Int) ≤ (90 : Int)))
else none) (k0 x0 (x1.set x2.toNat v351) x2 false)
else none
else none
else none
else none
theorem t49_9 (x0 x1 x2) : exec cl N c49_9 (e97 x0 x1 x2) K = (g49_9 (fun y0 y1 y2 y3 => exec cl N c49_8 (e99 y0 y1 y2 y3) K) x0 x1 x2) := by
 kernel_rfl
def g49_7 (k0 : V1 → V0 → Int → Option R) (x0 : V1) (x1 : V0) (x2 : Int) (x3 : Bool) : Option R :=
if 0 ≤ x2 ∧ x2 < (x0.length : Int) then
if 0 ≤ x2 ∧ x2 < (x1.length : Int) then
if x2.toNat < x1.length then
k0 x0 (x1.set x2.toNat (IntKind.u8.wrap ((IntKind.u8.wrap (((x0.getD x2.toNat 0).toNat : Int) - (65 : Int))) + (97 : Int)))) x2
else none
else none
else none
theorem t49_7 (x0 x1 x2 x3) : exec cl N c49_7 (e99 x0 x1 x2 x3) K = (g49_7 (fun y0 y1 y2 => K .normal (e97 y0 y1 y2)) x0 x1 x2 x3) := by
 kernel_rfl
theorem kp49_2 (x0 x1 x2 x3) : keep [0, 3, 4] (e99 x0 x1 x2 x3) = (e97 x0 x1 x2) := by kernel_rfl
theorem hb49_1 (x0 x1 x2 x3) : boolOf? (ent (e99 x0 x1 x2 x3) (.t 29)) = some x3 := by kernel_rfl
def g49_10 (k0 : V1 → V0 → Int → Option R) (x0 : V1) (x1 : V0) (x2 : Int) : Option R :=
(g49_9 (fun y0 y1 y2 y3 => brB y3 (g49_7 k0 y0 y1 y2 y3) (k0 y0 y1 y2)) x0 x1 x2)
theorem t49_10 (x0 x1 x2) : exec cl N c49_10 (e97 x0 x1 x2) K = (g49_10 (fun y0 y1 y2 => K .normal (e97 y0 y1 y2)) x0 x1 x2) := by
 simp only [c49_10, exec_out, exec_block, exec_seq, seqK_normal, seqK_exit, seqK_ret, t49_9, c49_8, exec_cond', hb49_1, Option.bind_some, brB_true, brB_false, t49_7, exec_skip, kp49_0, kp49_2, blockK_normal, blockK_ret, blockK_eq]
 rfl
def g49_11 (k0 : V1 → V0 → Int → Option R) (x0 : V1) (x1 : V0) (x2 : Int) : Option R :=
k0 x0 x1 (IntKind.i64.wrap (x2 + (1 : Int)))
theorem t49_11 (x0 x1 x2) : exec cl N c49_11 (e97 x0 x1 x2) K = (g49_11 (fun y0 y1 y2 => K .normal (e97 y0 y1 y2)) x0 x1 x2) := by
 kernel_rfl
def g49_12 (k0 : V1 → V0 → Int → Option R) (k1 : V1 → V0 → Int → Option R) (x0 : V1) (x1 : V0) (x2 : Int) : Option R :=
(g49_3 (fun y0 y1 y2 y3 => brB y3 ((g49_10 (g49_11 k0)) y0 y1 y2) (k1 y0 y1 y2)) x0 x1 x2)
theorem t49_12 (x0 x1 x2) : exec cl N c49_12 (e97 x0 x1 x2) K = (g49_12 (fun y0 y1 y2 => K .normal (e97 y0 y1 y2)) (fun y0 y1 y2 => K (.exit 0) (e97 y0 y1 y2)) x0 x1 x2) := by
 simp only [c49_12, exec_seq, seqK_normal, seqK_exit, seqK_ret, t49_3, c49_4, exec_out, exec_cond', hb49_0, Option.bind_some, brB_true, brB_false, exec_skip, exec_exit, kp49_1, t49_10, t49_11]
 rfl
def l49_13 {R : Type} (k0 : V1 → V0 → Int → Option R) : Nat → V1 → V0 → Int → Option R
 | 0, _, _, _ => none
 | m + 1, x0, x1, x2 => (g49_12 (l49_13 k0 m) k0 x0 x1 x2)
theorem lt49_13 : ∀ (m) (x0 x1 x2), iter [0, 3, 4] (fun env K => exec cl N c49_12 env K) K m (e97 x0 x1 x2) = l49_13 (fun y0 y1 y2 => K (.exit 0) (e97 y0 y1 y2)) m x0 x1 x2 := by
 intro m
 induction m with
 | zero => intros; rfl
 | succ m ih =>
   intro x0 x1 x2
   simp only [iter_succ, t49_12, loopK_normal, loopK_exit, loopK_ret, kp49_0, ih]
   rfl
theorem kp49_3 (x0 x1 x2) : keep [3] (e97 x0 x1 x2) = (e100 x1) := by kernel_rfl
def g49_13 (N : Nat) (k0 : V0 → Option R) (x0 : V1) (x1 : V0) (x2 : Int) : Option R :=
l49_13 (fun y0 y1 y2 => k0 y1) N x0 x1 x2
theorem t49_13 (x0 x1 x2) : exec cl N c49_13 (e97 x0 x1 x2) K = (g49_13 N (fun y0 => K (.exit 0) (e100 y0)) x0 x1 x2) := by
 simp only [c49_13, exec_out, exec_loop, kp49_0, lt49_13, kp49_3]
 rfl
theorem kp49_4 (x0) : keep [3] (e100 x0) = (e100 x0) := by kernel_rfl
def g49_15 (k0 : V1 → Option R) (x0 : V0) : Option R :=
k0 (x0.map fun n => UInt8.ofNat n.toNat)
theorem t49_15 (x0) : exec cl N c49_15 (e100 x0) K = (g49_15 (fun y0 => K .normal [(2, .v .str y0)]) x0) := by
 kernel_rfl
def g49_16b (N : Nat) (k0 : V1 → Option R) (x0 : V1) : Option R :=
(g49_16 (g49_2 (g49_13 N ((g49_15 k0)))) x0)
theorem t49_16b (x0) : exec cl N c49_16 [(0, .v .str x0)] K = (g49_16b N (fun y0 => K .ret [(2, .v .str y0)]) x0) := by
 simp only [exec_seq, seqK_normal, seqK_exit, seqK_ret, t49_16, t49_2, c49_14, exec_out, exec_block, t49_13, blockK_normal, blockK_ret, blockK_eq, kp49_4, t49_15, exec_ret]
 rfl
theorem rk49_0 (y0) : retK d49 .ret [(2, .v .str y0)] = some [.v .str y0] := by kernel_rfl
def g49 (N : Nat) (x0 : V1) (k : V1 → Option R) : Option R :=
(g49_16b N k x0)
theorem gen49 (x0) (k : List E → Option R) : exec cl N c49 [(0, .v .str x0)] (fun e env => (retK d49 e env).bind k) = g49 N x0 (fun r0 => k [.v .str r0]) := by
 simp only [c49, t49_16b, rk49_0, Option.bind_some]
 rfl
def ctr49 (S : V1 → Option V3) : Ctr := cv1 49 .str S fun b => [.v .str b]
def S49 (N : Nat) (x0 : V1) : Option V3 := g49 N x0 (fun (r0 : V1) => some (r0))
def g74_0 (k0 : Int → Option R) (x0 : Int) : Option R :=
k0 x0
theorem t74_0 (x0) : exec cl N c74_0 [(0, .v U1 x0)] K = (g74_0 (fun y0 => K .normal [(0, .v U1 y0)]) x0) := by
 kernel_rfl
def g74_1 (k0 : Int → Bool → Option R) (x0 : Int) : Option R :=
brB (decide (x0 < (32 : Int))) (k0 x0 true) (k0 x0 (decide (x0 > (126 : Int))))
theorem t74_1 (x0) : exec cl N c74_1 [(0, .v U1 x0)] K = (g74_1 (fun y0 y1 => K .normal (e101 y0 y1)) x0) := by
 kernel_rfl
def g74_2 (k0 : Bool → Option R) (x0 : Int) (x1 : Bool) : Option R :=
k0 false
theorem t74_2 (x0 x1) : exec cl N c74_2 (e101 x0 x1) K = (g74_2 (fun y0 => K .normal [(2, .v .bool y0)]) x0 x1) := by
 kernel_rfl
theorem kp74_0 (x0) : keep [0, 2] [(2, .v .bool x0)] = [(0, .dead), (2, .v .bool x0)] := by kernel_rfl
theorem kp74_1 (x0 x1) : keep [0, 2] (e101 x0 x1) = [(0, .v U1 x0), (2, .dead)] := by kernel_rfl
theorem hb74_0 (x0 x1) : boolOf? (ent (e101 x0 x1) (.t 9)) = some x1 := by kernel_rfl
def g74_4 (k0 : Int → Int → Option R) (x0 : Int) : Option R :=
k0 x0 (0 : Int)
theorem t74_4 (x0) : exec cl N c74_4 [(0, .v U1 x0), (2, .dead)] K = (g74_4 (fun y0 y1 => K .normal (e102 y0 y1)) x0) := by
 kernel_rfl
theorem kp74_2 (x0 x1) : keep [0, 3] (e102 x0 x1) = (e102 x0 x1) := by kernel_rfl
def g74_5 (k0 : Int → Int → Bool → Option R) (x0 x1 : Int) : Option R :=
k0 x0 x1 (decide (x1 < (15 : Int)))
theorem t74_5 (x0 x1) : exec cl N c74_5 (e102 x0 x1) K = (g74_5 (fun y0 y1 y2 => K .normal (e103 y0 y1 y2)) x0 x1) := by
 kernel_rfl
theorem kp74_3 (x0 x1 x2) : keep [0, 3] (e103 x0 x1 x2) = (e102 x0 x1) := by kernel_rfl
theorem hb74_1 (x0 x1 x2) : boolOf? (ent (e103 x0 x1 x2) (.t 11)) = some x2 := by kernel_rfl
def g74_7 (k0 : Int → Int → Bool → Option R) (x0 x1 : Int) : Option R :=
if 0 ≤ x1 ∧ x1 < (([32, 46, 44, 59, 58, 33, 63, 34, 45, 91, 93, 60, 62, 123, 125] : List UInt8).length : Int) then
k0 x0 x1 (((([32, 46, 44, 59, 58, 33, 63, 34, 45, 91, 93, 60, 62, 123, 125] : List UInt8).getD x1.toNat 0).toNat : Int) == x0)
else none
theorem t74_7 (x0 x1) : exec cl N c74_7 (e102 x0 x1) K = (g74_7 (fun y0 y1 y2 => K .normal (e104 y0 y1 y2)) x0 x1) := by
 kernel_rfl
def g74_8 (k0 : Bool → Option R) (x0 x1 : Int) (x2 : Bool) : Option R :=
k0 false
theorem t74_8 (x0 x1 x2) : exec cl N c74_8 (e104 x0 x1 x2) K = (g74_8 (fun y0 => K .normal [(2, .v .bool y0)]) x0 x1 x2) := by
 kernel_rfl
theorem kp74_4 (x0) : keep [0, 2, 3] [(2, .v .bool x0)] = (e105 x0) := by kernel_rfl
theorem kp74_5 (x0 x1 x2) : keep [0, 2, 3] (e104 x0 x1 x2) = (e106 x0 x1) := by kernel_rfl
theorem hb74_2 (x0 x1 x2) : boolOf? (ent (e104 x0 x1 x2) (.t 17)) = some x2 := by kernel_rfl
theorem kp74_6 (x0) : keep [0, 2, 3] (e105 x0) = (e105 x0) := by kernel_rfl
theorem kp74_7 (x0 x1) : keep [0, 2, 3] (e106 x0 x1) = (e106 x0 x1) := by kernel_rfl
def g74_11 (k0 : Int → Int → Option R) (x0 x1 : Int) : Option R :=
k0 x0 (IntKind.i64.wrap (x1 + (1 : Int)))
theorem t74_11 (x0 x1) : exec cl N c74_11 (e106 x0 x1) K = (g74_11 (fun y0 y1 => K .normal (e102 y0 y1)) x0 x1) := by
 kernel_rfl
def g74_12 (k0 : Bool → Option R) (k1 : Int → Int → Option R) (k2 : Int → Int → Option R) (x0 x1 : Int) : Option R :=
(g74_5 (fun y0 y1 y2 => brB y2 ((g74_7 (fun y0 y1 y2 => brB y2 (g74_8 k0 y0 y1 y2) (((g74_11 k1)) y0 y1))) y0 y1) (k2 y0 y1)) x0 x1)
theorem t74_12 (x0 x1) : exec cl N c74_12 (e102 x0 x1) K = (g74_12 (fun y0 => K .ret (e105 y0)) (fun y0 y1 => K .normal (e102 y0 y1)) (fun y0 y1 => K (.exit 0) (e102 y0 y1)) x0 x1) := by
 simp only [c74_12, exec_seq, seqK_normal, seqK_exit, seqK_ret, t74_5, c74_6, exec_out, exec_cond', hb74_1, Option.bind_some, brB_true, brB_false, exec_skip, exec_exit, kp74_3, c74_10, exec_block, t74_7, c74_9, hb74_2, t74_8, exec_ret, kp74_4, kp74_5, blockK_normal, blockK_ret, blockK_eq, kp74_6, kp74_7, t74_11]
 rfl
def l74_13 {R : Type} (k0 : Bool → Option R) (k1 : Int → Int → Option R) : Nat → Int → Int → Option R
 | 0, _, _ => none
 | m + 1, x0, x1 => (g74_12 k0 (l74_13 k0 k1 m) k1 x0 x1)
theorem lt74_13 : ∀ (m) (x0 x1), iter [0, 3] (fun env K => exec cl N c74_12 env K) K m (e102 x0 x1) = l74_13 (fun y0 => K .ret (e105 y0)) (fun y0 y1 => K (.exit 0) (e102 y0 y1)) m x0 x1 := by
 intro m
 induction m with
 | zero => intros; rfl
 | succ m ih =>
   intro x0 x1
   simp only [iter_succ, t74_12, loopK_normal, loopK_exit, loopK_ret, kp74_2, ih]
   rfl
theorem kp74_8 (x0) : keep [2] (e105 x0) = [(2, .v .bool x0)] := by kernel_rfl
theorem kp74_9 (x0 x1) : keep [2] (e102 x0 x1) = [(2, .dead)] := by kernel_rfl
def g74_13 (N : Nat) (k0 : Bool → Option R) (k1 : Option R) (x0 x1 : Int) : Option R :=
l74_13 k0 (fun y0 y1 => k1) N x0 x1
theorem t74_13 (x0 x1) : exec cl N c74_13 (e102 x0 x1) K = (g74_13 N (fun y0 => K .ret [(2, .v .bool y0)]) (K (.exit 0) [(2, .dead)]) x0 x1) := by
 simp only [c74_13, exec_out, exec_loop, kp74_2, lt74_13, kp74_8, kp74_9]
 rfl
theorem kp74_10 (x0) : keep [2] [(2, .v .bool x0)] = [(2, .v .bool x0)] := by kernel_rfl
theorem kp74_11 : keep [2] [(2, .dead)] = [(2, .dead)] := by kernel_rfl
def g74_15 (k0 : Bool → Option R) : Option R :=
k0 true
theorem t74_15 : exec cl N c74_15 [(2, .dead)] K = (g74_15 (fun y0 => K .normal [(2, .v .bool y0)])) := by
 kernel_rfl
def g74_16 (N : Nat) (k0 : Bool → Option R) (k1 : Bool → Option R) (x0 : Int) : Option R :=
(g74_0 (g74_1 (fun y0 y1 => brB y1 (g74_2 k0 y0 y1) ((g74_4 (g74_13 N k1 (g74_15 k1))) y0))) x0)
theorem t74_16 (x0) : exec cl N c74_16 [(0, .v U1 x0)] K = (g74_16 N (fun y0 => K .ret [(0, .dead), (2, .v .bool y0)]) (fun y0 => K .ret [(2, .v .bool y0)]) x0) := by
 simp only [c74_16, exec_seq, seqK_normal, seqK_exit, seqK_ret, t74_0, t74_1, c74_3, exec_out, exec_cond', hb74_0, Option.bind_some, brB_true, brB_false, t74_2, exec_ret, exec_skip, kp74_0, kp74_1, t74_4, c74_14, exec_block, t74_13, blockK_normal, blockK_ret, blockK_eq, kp74_10, kp74_11, t74_15]
 rfl
theorem rk74_0 (y0) : retK d74 .ret [(0, .dead), (2, .v .bool y0)] = some [.v .bool y0] := by kernel_rfl
theorem rk74_1 (y0) : retK d74 .ret [(2, .v .bool y0)] = some [.v .bool y0] := by kernel_rfl
def g74 (N : Nat) (x0 : Int) (k : Bool → Option R) : Option R :=
(g74_16 N k k x0)
theorem gen74 (x0) (k : List E → Option R) : exec cl N c74 [(0, .v U1 x0)] (fun e env => (retK d74 e env).bind k) = g74 N x0 (fun r0 => k [.v .bool r0]) := by
 simp only [c74, t74_16, rk74_0, rk74_1, Option.bind_some]
 rfl
def ctr74 (S : Int → Option (Bool)) : Ctr := cv1 74 U1 S fun b => [.v .bool b]
def S74 (N : Nat) (x0 : Int) : Option (Bool) := g74 N x0 (fun (r0 : Bool) => some (r0))
def g55_0 (k0 : V1 → Option R) (x0 : V1) : Option R :=
k0 x0
theorem t55_0 (x0) : exec cl N c55_0 [(0, .v .str x0)] K = (g55_0 (fun y0 => K .normal [(0, .v .str y0)]) x0) := by
 kernel_rfl
def g55_1 (k0 : V1 → Bool → Option R) (x0 : V1) : Option R :=
k0 x0 (decide ((x0.length : Int) > (16 : Int)))
theorem t55_1 (x0) : exec cl N c55_1 [(0, .v .str x0)] K = (g55_1 (fun y0 y1 => K .normal (e107 y0 y1)) x0) := by
 kernel_rfl
def g55_2 (k0 : Int → Option R) (x0 : V1) (x1 : Bool) : Option R :=
k0 (3 : Int)
theorem t55_2 (x0 x1) : exec cl N c55_2 (e107 x0 x1) K = (g55_2 (fun y0 => K .normal [(2, .v U2 y0)]) x0 x1) := by
 kernel_rfl
theorem kp55_0 (x0) : keep [0, 2] [(2, .v U2 x0)] = (e9 x0) := by kernel_rfl
theorem kp55_1 (x0 x1) : keep [0, 2] (e107 x0 x1) = (e10 x0) := by kernel_rfl
theorem hb55_0 (x0 x1) : boolOf? (ent (e107 x0 x1) (.t 6)) = some x1 := by kernel_rfl
def g55_4 (S49 : V1 → Option V3) (k0 : V1 → Bool → Option R) (x0 : V1) : Option R :=
brB (x0 == ([] : List UInt8)) (k0 x0 true) ((S49 x0).bind fun r378 =>
k0 x0 (r378 != x0))
theorem t55_4 (S49) (h49 : (ctr49 S49).holds cl) (x0) : exec cl N c55_4 (e10 x0) K = (g55_4 S49 (fun y0 y1 => K .normal (e108 y0 y1)) x0) := by
 rw [← put_eq h49]
 kernel_rfl
def g55_5 (k0 : Int → Option R) (x0 : V1) (x1 : Bool) : Option R :=
k0 (2 : Int)
theorem t55_5 (x0 x1) : exec cl N c55_5 (e108 x0 x1) K = (g55_5 (fun y0 => K .normal [(2, .v U2 y0)]) x0 x1) := by
 kernel_rfl
theorem kp55_2 (x0 x1) : keep [0, 2] (e108 x0 x1) = (e10 x0) := by kernel_rfl
theorem hb55_1 (x0 x1) : boolOf? (ent (e108 x0 x1) (.t 14)) = some x1 := by kernel_rfl
def g55_7 (k0 : V1 → Int → Option R) (x0 : V1) : Option R :=
k0 x0 (0 : Int)
theorem t55_7 (x0) : exec cl N c55_7 (e10 x0) K = (g55_7 (fun y0 y1 => K .normal (e11 y0 y1)) x0) := by
 kernel_rfl
theorem kp55_3 (x0 x1) : keep [0, 3] (e11 x0 x1) = (e11 x0 x1) := by kernel_rfl
def g55_8 (k0 : V1 → Int → Bool → Option R) (x0 : V1) (x1 : Int) : Option R :=
k0 x0 x1 (decide (x1 < (x0.length : Int)))
theorem t55_8 (x0 x1) : exec cl N c55_8 (e11 x0 x1) K = (g55_8 (fun y0 y1 y2 => K .normal (e109 y0 y1 y2)) x0 x1) := by
 kernel_rfl
theorem kp55_4 (x0 x1 x2) : keep [0, 3] (e109 x0 x1 x2) = (e11 x0 x1) := by kernel_rfl
theorem hb55_2 (x0 x1 x2) : boolOf? (ent (e109 x0 x1 x2) (.t 18)) = some x2 := by kernel_rfl
def g55_10 (S74 : Int → Option (Bool)) (k0 : V1 → Int → Bool → Option R) (x0 : V1) (x1 : Int) : Option R :=
if 0 ≤ x1 ∧ x1 < (x0.length : Int) then
(S74 ((x0.getD x1.toNat 0).toNat : Int)).bind fun r381 =>
k0 x0 x1 (!r381)
else none
theorem t55_10 (S74) (h74 : (ctr74 S74).holds cl) (x0 x1) : exec cl N c55_10 (e11 x0 x1) K = (g55_10 S74 (fun y0 y1 y2 => K .normal (e95 y0 y1 y2)) x0 x1) := by
 rw [← put_eq h74]
 kernel_rfl
def g55_11 (k0 : Int → Option R) (x0 : V1) (x1 : Int) (x2 : Bool) : Option R :=
k0 (2 : Int)
theorem t55_11 (x0 x1 x2) : exec cl N c55_11 (e95 x0 x1 x2) K = (g55_11 (fun y0 => K .normal [(2, .v U2 y0)]) x0 x1 x2) := by
 kernel_rfl
theorem kp55_5 (x0) : keep [0, 2, 3] [(2, .v U2 x0)] = (e16 x0) := by kernel_rfl
theorem kp55_6 (x0 x1 x2) : keep [0, 2, 3] (e95 x0 x1 x2) = (e14 x0 x1) := by kernel_rfl
theorem hb55_3 (x0 x1 x2) : boolOf? (ent (e95 x0 x1 x2) (.t 25)) = some x2 := by kernel_rfl
theorem kp55_7 (x0) : keep [0, 2, 3] (e16 x0) = (e16 x0) := by kernel_rfl
theorem kp55_8 (x0 x1) : keep [0, 2, 3] (e14 x0 x1) = (e14 x0 x1) := by kernel_rfl
def g55_14 (k0 : V1 → Int → Option R) (x0 : V1) (x1 : Int) : Option R :=
k0 x0 (IntKind.i64.wrap (x1 + (1 : Int)))
theorem t55_14 (x0 x1) : exec cl N c55_14 (e14 x0 x1) K = (g55_14 (fun y0 y1 => K .normal (e11 y0 y1)) x0 x1) := by
 kernel_rfl
def g55_15 (S74 : Int → Option (Bool)) (k0 : Int → Option R) (k1 : V1 → Int → Option R) (k2 : V1 → Int → Option R) (x0 : V1) (x1 : Int) : Option R :=
(g55_8 (fun y0 y1 y2 => brB y2 ((g55_10 S74 (fun y0 y1 y2 => brB y2 (g55_11 k0 y0 y1 y2) (((g55_14 k1)) y0 y1))) y0 y1) (k2 y0 y1)) x0 x1)
theorem t55_15 (S74) (h74 : (ctr74 S74).holds cl) (x0 x1) : exec cl N c55_15 (e11 x0 x1) K = (g55_15 S74 (fun y0 => K .ret (e16 y0)) (fun y0 y1 => K .normal (e11 y0 y1)) (fun y0 y1 => K (.exit 0) (e11 y0 y1)) x0 x1) := by
 simp only [c55_15, exec_seq, seqK_normal, seqK_exit, seqK_ret, t55_8, c55_9, exec_out, exec_cond', hb55_2, Option.bind_some, brB_true, brB_false, exec_skip, exec_exit, kp55_4, c55_13, exec_block, t55_10 S74 h74, c55_12, hb55_3, t55_11, exec_ret, kp55_5, kp55_6, blockK_normal, blockK_ret, blockK_eq, kp55_7, kp55_8, t55_14]
 rfl
def l55_16 {R : Type} (S74 : Int → Option (Bool)) (k0 : Int → Option R) (k1 : V1 → Int → Option R) : Nat → V1 → Int → Option R
 | 0, _, _ => none
 | m + 1, x0, x1 => (g55_15 S74 k0 (l55_16 S74 k0 k1 m) k1 x0 x1)
theorem lt55_16 (S74) (h74 : (ctr74 S74).holds cl) : ∀ (m) (x0 x1), iter [0, 3] (fun env K => exec cl N c55_15 env K) K m (e11 x0 x1) = l55_16 S74 (fun y0 => K .ret (e16 y0)) (fun y0 y1 => K (.exit 0) (e11 y0 y1)) m x0 x1 := by
 intro m
 induction m with
 | zero => intros; rfl
 | succ m ih =>
   intro x0 x1
   simp only [iter_succ, t55_15 S74 h74, loopK_normal, loopK_exit, loopK_ret, kp55_3, ih]
   rfl
theorem kp55_9 (x0) : keep [2] (e16 x0) = [(2, .v U2 x0)] := by kernel_rfl
theorem kp55_10 (x0 x1) : keep [2] (e11 x0 x1) = [(2, .dead)] := by kernel_rfl
def g55_16 (N : Nat) (S74 : Int → Option (Bool)) (k0 : Int → Option R) (k1 : Option R) (x0 : V1) (x1 : Int) : Option R :=
l55_16 S74 k0 (fun y0 y1 => k1) N x0 x1
theorem t55_16 (S74) (h74 : (ctr74 S74).holds cl) (x0 x1) : exec cl N c55_16 (e11 x0 x1) K = (g55_16 N S74 (fun y0 => K .ret [(2, .v U2 y0)]) (K (.exit 0) [(2, .dead)]) x0 x1) := by
 simp only [c55_16, exec_out, exec_loop, kp55_3, lt55_16 S74 h74, kp55_10, kp55_9]
 rfl
theorem kp55_11 (x0) : keep [2] [(2, .v U2 x0)] = [(2, .v U2 x0)] := by kernel_rfl
theorem kp55_12 : keep [2] [(2, .dead)] = [(2, .dead)] := by kernel_rfl
def g55_18 (k0 : Int → Option R) : Option R :=
k0 (0 : Int)
theorem t55_18 : exec cl N c55_18 [(2, .dead)] K = (g55_18 (fun y0 => K .normal [(2, .v U2 y0)])) := by
 kernel_rfl
def g55_19 (N : Nat) (S49 : V1 → Option V3) (S74 : Int → Option (Bool)) (k0 : Int → Option R) (k1 : Int → Option R) (x0 : V1) : Option R :=
(g55_0 (g55_1 (fun y0 y1 => brB y1 (g55_2 k0 y0 y1) ((g55_4 S49 (fun y0 y1 => brB y1 (g55_5 k0 y0 y1) ((g55_7 (g55_16 N S74 k1 (g55_18 k1))) y0))) y0))) x0)
theorem t55_19 (S49) (S74) (h49 : (ctr49 S49).holds cl) (h74 : (ctr74 S74).holds cl) (x0) : exec cl N c55_19 [(0, .v .str x0)] K = (g55_19 N S49 S74 (fun y0 => K .ret (e9 y0)) (fun y0 => K .ret [(2, .v U2 y0)]) x0) := by
 simp only [c55_19, exec_seq, seqK_normal, seqK_exit, seqK_ret, t55_0, t55_1, c55_3, exec_out, exec_cond', hb55_0, Option.bind_some, brB_true, brB_false, t55_2, exec_ret, exec_skip, kp55_0, kp55_1, t55_4 S49 h49, c55_6, hb55_1, t55_5, kp55_2, t55_7, c55_17, exec_block, t55_16 S74 h74, blockK_normal, blockK_ret, blockK_eq, kp55_11, kp55_12, t55_18]
 rfl
theorem rk55_0 (y0) : retK d55 .ret (e9 y0) = some [.v U2 y0] := by kernel_rfl
theorem rk55_1 (y0) : retK d55 .ret [(2, .v U2 y0)] = some [.v U2 y0] := by kernel_rfl
def g55 (N : Nat) (S49 : V1 → Option V3) (S74 : Int → Option (Bool)) (x0 : V1) (k : Int → Option R) : Option R :=
(g55_19 N S49 S74 k k x0)
theorem gen55 (S49) (S74) (h49 : (ctr49 S49).holds cl) (h74 : (ctr74 S74).holds cl) (x0) (k : List E → Option R) : exec cl N c55 [(0, .v .str x0)] (fun e env => (retK d55 e env).bind k) = g55 N S49 S74 x0 (fun r0 => k [.v U2 r0]) := by
 simp only [c55, t55_19 S49 S74 h49 h74, rk55_0, rk55_1, Option.bind_some]
 rfl
def ctr55 (S : V1 → Option (Int)) : Ctr := cv1 55 .str S fun b => [.v U2 b]
def S55 (N : Nat) (x0 : V1) : Option (Int) := g55 N (S49 N) (S74 N) x0 (fun (r0 : Int) => some (r0))
def g50_0 (k0 : V4 → V1 → Option R) (x0 : V4) (x1 : V1) : Option R :=
k0 x0 x1
theorem t50_0 (x0 x1) : exec cl N c50_0 (e25 x0 x1) K = (g50_0 (fun y0 y1 => K .normal (e25 y0 y1)) x0 x1) := by
 kernel_rfl
def g50_1 (k0 : V4 → V1 → Int → Option R) (x0 : V4) (x1 : V1) : Option R :=
k0 x0 x1 (0 : Int)
theorem t50_1 (x0 x1) : exec cl N c50_1 (e25 x0 x1) K = (g50_1 (fun y0 y1 y2 => K .normal (e30 y0 y1 y2)) x0 x1) := by
 kernel_rfl
theorem kp50_0 (x0 x1 x2) : keep [0, 1, 5] (e30 x0 x1 x2) = (e30 x0 x1 x2) := by kernel_rfl
def g50_2 (k0 : V4 → V1 → Int → Bool → Option R) (x0 : V4) (x1 : V1) (x2 : Int) : Option R :=
k0 x0 x1 x2 (decide (x2 < (x0.length : Int)))
theorem t50_2 (x0 x1 x2) : exec cl N c50_2 (e30 x0 x1 x2) K = (g50_2 (fun y0 y1 y2 y3 => K .normal (e110 y0 y1 y2 y3)) x0 x1 x2) := by
 kernel_rfl
theorem kp50_1 (x0 x1 x2 x3) : keep [0, 1, 5] (e110 x0 x1 x2 x3) = (e30 x0 x1 x2) := by kernel_rfl
theorem hb50_0 (x0 x1 x2 x3) : boolOf? (ent (e110 x0 x1 x2 x3) (.t 9)) = some x3 := by kernel_rfl
def g50_4 (k0 : V4 → V1 → Int → Bool → Option R) (x0 : V4) (x1 : V1) (x2 : Int) : Option R :=
if 0 ≤ x2 ∧ x2 < (x0.length : Int) then
k0 x0 x1 x2 ((x0.getD x2.toNat []) == x1)
else none
theorem t50_4 (x0 x1 x2) : exec cl N c50_4 (e30 x0 x1 x2) K = (g50_4 (fun y0 y1 y2 y3 => K .normal (e111 y0 y1 y2 y3)) x0 x1 x2) := by
 kernel_rfl
def g50_5 (k0 : Bool → Option R) (x0 : V4) (x1 : V1) (x2 : Int) (x3 : Bool) : Option R :=
k0 true
theorem t50_5 (x0 x1 x2 x3) : exec cl N c50_5 (e111 x0 x1 x2 x3) K = (g50_5 (fun y0 => K .normal [(4, .v .bool y0)]) x0 x1 x2 x3) := by
 kernel_rfl
theorem kp50_2 (x0) : keep [0, 1, 4, 5] [(4, .v .bool x0)] = (e112 x0) := by kernel_rfl
theorem kp50_3 (x0 x1 x2 x3) : keep [0, 1, 4, 5] (e111 x0 x1 x2 x3) = (e113 x0 x1 x2) := by kernel_rfl
theorem hb50_1 (x0 x1 x2 x3) : boolOf? (ent (e111 x0 x1 x2 x3) (.t 17)) = some x3 := by kernel_rfl
theorem kp50_4 (x0) : keep [0, 1, 4, 5] (e112 x0) = (e112 x0) := by kernel_rfl
theorem kp50_5 (x0 x1 x2) : keep [0, 1, 4, 5] (e113 x0 x1 x2) = (e113 x0 x1 x2) := by kernel_rfl
def g50_8 (k0 : V4 → V1 → Int → Option R) (x0 : V4) (x1 : V1) (x2 : Int) : Option R :=
k0 x0 x1 (IntKind.i64.wrap (x2 + (1 : Int)))
theorem t50_8 (x0 x1 x2) : exec cl N c50_8 (e113 x0 x1 x2) K = (g50_8 (fun y0 y1 y2 => K .normal (e30 y0 y1 y2)) x0 x1 x2) := by
 kernel_rfl
def g50_9 (k0 : Bool → Option R) (k1 : V4 → V1 → Int → Option R) (k2 : V4 → V1 → Int → Option R) (x0 : V4) (x1 : V1) (x2 : Int) : Option R :=
(g50_2 (fun y0 y1 y2 y3 => brB y3 ((g50_4 (fun y0 y1 y2 y3 => brB y3 (g50_5 k0 y0 y1 y2 y3) (((g50_8 k1)) y0 y1 y2))) y0 y1 y2) (k2 y0 y1 y2)) x0 x1 x2)
theorem t50_9 (x0 x1 x2) : exec cl N c50_9 (e30 x0 x1 x2) K = (g50_9 (fun y0 => K .ret (e112 y0)) (fun y0 y1 y2 => K .normal (e30 y0 y1 y2)) (fun y0 y1 y2 => K (.exit 0) (e30 y0 y1 y2)) x0 x1 x2) := by
 simp only [c50_9, exec_seq, seqK_normal, seqK_exit, seqK_ret, t50_2, c50_3, exec_out, exec_cond', hb50_0, Option.bind_some, brB_true, brB_false, exec_skip, exec_exit, kp50_1, c50_7, exec_block, t50_4, c50_6, hb50_1, t50_5, exec_ret, kp50_2, kp50_3, blockK_normal, blockK_ret, blockK_eq, kp50_4, kp50_5, t50_8]
 rfl
def l50_10 {R : Type} (k0 : Bool → Option R) (k1 : V4 → V1 → Int → Option R) : Nat → V4 → V1 → Int → Option R
 | 0, _, _, _ => none
 | m + 1, x0, x1, x2 => (g50_9 k0 (l50_10 k0 k1 m) k1 x0 x1 x2)
theorem lt50_10 : ∀ (m) (x0 x1 x2), iter [0, 1, 5] (fun env K => exec cl N c50_9 env K) K m (e30 x0 x1 x2) = l50_10 (fun y0 => K .ret (e112 y0)) (fun y0 y1 y2 => K (.exit 0) (e30 y0 y1 y2)) m x0 x1 x2 := by
 intro m
 induction m with
 | zero => intros; rfl
 | succ m ih =>
   intro x0 x1 x2
   simp only [iter_succ, t50_9, loopK_normal, loopK_exit, loopK_ret, kp50_0, ih]
   rfl
theorem kp50_6 (x0) : keep [4] (e112 x0) = [(4, .v .bool x0)] := by kernel_rfl
theorem kp50_7 (x0 x1 x2) : keep [4] (e30 x0 x1 x2) = [(4, .dead)] := by kernel_rfl
def g50_10 (N : Nat) (k0 : Bool → Option R) (k1 : Option R) (x0 : V4) (x1 : V1) (x2 : Int) : Option R :=
l50_10 k0 (fun y0 y1 y2 => k1) N x0 x1 x2
theorem t50_10 (x0 x1 x2) : exec cl N c50_10 (e30 x0 x1 x2) K = (g50_10 N (fun y0 => K .ret [(4, .v .bool y0)]) (K (.exit 0) [(4, .dead)]) x0 x1 x2) := by
 simp only [c50_10, exec_out, exec_loop, kp50_0, lt50_10, kp50_6, kp50_7]
 rfl
theorem kp50_8 (x0) : keep [4] [(4, .v .bool x0)] = [(4, .v .bool x0)] := by kernel_rfl
theorem kp50_9 : keep [4] [(4, .dead)] = [(4, .dead)] := by kernel_rfl
def g50_12 (k0 : Bool → Option R) : Option R :=
k0 false
theorem t50_12 : exec cl N c50_12 [(4, .dead)] K = (g50_12 (fun y0 => K .normal [(4, .v .bool y0)])) := by
 kernel_rfl
def g50_13 (N : Nat) (k0 : Bool → Option R) (x0 : V4) (x1 : V1) : Option R :=
(g50_0 (g50_1 (g50_10 N k0 (g50_12 k0))) x0 x1)
theorem t50_13 (x0 x1) : exec cl N c50_13 (e25 x0 x1) K = (g50_13 N (fun y0 => K .ret [(4, .v .bool y0)]) x0 x1) := by
 simp only [c50_13, exec_seq, seqK_normal, seqK_exit, seqK_ret, t50_0, t50_1, c50_11, exec_out, exec_block, t50_10, blockK_normal, blockK_ret, blockK_eq, kp50_8, kp50_9, t50_12, exec_ret]
 rfl
theorem rk50_0 (y0) : retK d50 .ret [(4, .v .bool y0)] = some [.v .bool y0] := by kernel_rfl
def g50 (N : Nat) (x0 : V4) (x1 : V1) (k : Bool → Option R) : Option R :=
(g50_13 N k x0 x1)
theorem gen50 (x0 x1) (k : List E → Option R) : exec cl N c50 (e25 x0 x1) (fun e env => (retK d50 e env).bind k) = g50 N x0 x1 (fun r0 => k [.v .bool r0]) := by
 simp only [c50, t50_13, rk50_0, Option.bind_some]
 rfl
def ctr50 (S : V4 → V1 → Option (Bool)) : Ctr := cv2 50 U0 .str S fun b => [.v .bool b]
def S50 (N : Nat) (x0 : V4) (x1 : V1) : Option (Bool) := g50 N x0 x1 (fun (r0 : Bool) => some (r0))
def g28_0 (k0 : V10 → Option R) (x0 : V10) : Option R :=
k0 x0
theorem t28_0 (x0) : exec cl N c28_0 [(0, .v U13 x0)] K = (g28_0 (fun y0 => K .normal [(1, .loc U13 .no y0)]) x0) := by
 kernel_rfl
def g28_1 (k0 : V10 → Bool → Option R) (x0 : V10) : Option R :=
brB (decide (x0.1 < (1 : Int))) (k0 x0 true) (brB (decide (x0.1 > (12 : Int))) (k0 x0 true) (brB (decide (x0.2.1 < (0 : Int))) (k0 x0 true) (k0 x0 (decide (x0.2.1 > (999 : Int))))))
theorem t28_1 (x0) : exec cl N c28_1 [(1, .loc U13 .no x0)] K = (g28_1 (fun y0 y1 => K .normal (e114 y0 y1)) x0) := by
 kernel_rfl
def g28_2 (k0 : Int → Option R) (x0 : V10) (x1 : Bool) : Option R :=
k0 (6 : Int)
theorem t28_2 (x0 x1) : exec cl N c28_2 (e114 x0 x1) K = (g28_2 (fun y0 => K .normal [(2, .v U2 y0)]) x0 x1) := by
 kernel_rfl
theorem kp28_0 (x0) : keep [1, 2] [(2, .v U2 x0)] = (e60 x0) := by kernel_rfl
theorem kp28_1 (x0 x1) : keep [1, 2] (e114 x0 x1) = (e62 x0) := by kernel_rfl
theorem hb28_0 (x0 x1) : boolOf? (ent (e114 x0 x1) (.t 22)) = some x1 := by kernel_rfl
def g28_4 (k0 : V10 → Bool → Option R) (x0 : V10) : Option R :=
k0 x0 (decide ((x0.2.2.1.length : Int) > (20 : Int)))
theorem t28_4 (x0) : exec cl N c28_4 (e62 x0) K = (g28_4 (fun y0 y1 => K .normal (e115 y0 y1)) x0) := by
 kernel_rfl
def g28_5 (k0 : Int → Option R) (x0 : V10) (x1 : Bool) : Option R :=
k0 (3 : Int)
theorem t28_5 (x0 x1) : exec cl N c28_5 (e115 x0 x1) K = (g28_5 (fun y0 => K .normal [(2, .v U2 y0)]) x0 x1) := by
 kernel_rfl
theorem kp28_2 (x0 x1) : keep [1, 2] (e115 x0 x1) = (e62 x0) := by kernel_rfl
theorem hb28_1 (x0 x1) : boolOf? (ent (e115 x0 x1) (.t 26)) = some x1 := by kernel_rfl
def g28_7 (k0 : V10 → Int → Option R) (x0 : V10) : Option R :=
k0 x0 (0 : Int)
theorem t28_7 (x0) : exec cl N c28_7 (e62 x0) K = (g28_7 (fun y0 y1 => K .normal (e116 y0 y1)) x0) := by
 kernel_rfl
theorem kp28_3 (x0 x1) : keep [1, 3] (e116 x0 x1) = (e116 x0 x1) := by kernel_rfl
def g28_8 (k0 : V10 → Int → Bool → Option R) (x0 : V10) (x1 : Int) : Option R :=
k0 x0 x1 (decide (x1 < (x0.2.2.1.length : Int)))
theorem t28_8 (x0 x1) : exec cl N c28_8 (e116 x0 x1) K = (g28_8 (fun y0 y1 y2 => K .normal (e117 y0 y1 y2)) x0 x1) := by
 kernel_rfl
theorem kp28_4 (x0 x1 x2) : keep [1, 3] (e117 x0 x1 x2) = (e116 x0 x1) := by kernel_rfl
theorem hb28_2 (x0 x1 x2) : boolOf? (ent (e117 x0 x1 x2) (.t 31)) = some x2 := by kernel_rfl
def g28_14 (S55 : V1 → Option (Int)) (k0 : V10 → Int → Int → Bool → Option R) (x0 : V10) (x1 : Int) : Option R :=
if 0 ≤ x1 ∧ x1 < (x0.2.2.1.length : Int) then
(S55 (x0.2.2.1.getD x1.toNat [])).bind fun r402 =>
k0 x0 x1 r402 (r402 != (0 : Int))
else none
theorem t28_14 (S55) (h55 : (ctr55 S55).holds cl) (x0 x1) : exec cl N c28_14 (e116 x0 x1) K = (g28_14 S55 (fun y0 y1 y2 y3 => exec cl N c28_13 (e118 y0 y1 y2 y3) K) x0 x1) := by
 rw [← put_eq h55]
 kernel_rfl
def g28_12 (k0 : Int → Option R) (x0 : V10) (x1 x2 : Int) (x3 : Bool) : Option R :=
k0 x2
theorem t28_12 (x0 x1 x2 x3) : exec cl N c28_12 (e118 x0 x1 x2 x3) K = (g28_12 (fun y0 => K .normal [(2, .v U2 y0)]) x0 x1 x2 x3) := by
 kernel_rfl
theorem kp28_5 (x0) : keep [1, 2, 3] [(2, .v U2 x0)] = (e119 x0) := by kernel_rfl
theorem kp28_6 (x0 x1 x2 x3) : keep [1, 2, 3] (e118 x0 x1 x2 x3) = (e120 x0 x1) := by kernel_rfl
theorem hb28_3 (x0 x1 x2 x3) : boolOf? (ent (e118 x0 x1 x2 x3) (.t 41)) = some x3 := by kernel_rfl
def g28_15 (S50 : V4 → V1 → Option (Bool)) (k0 : V10 → Int → Bool → Option R) (x0 : V10) (x1 : Int) : Option R :=
if 0 ≤ (0 : Int) ∧ (0 : Int) ≤ x1 ∧ x1 ≤ (x0.2.2.1.length : Int) ∧ (x0.2.2.1.length : Int) ≤ (x0.2.2.1.length : Int) then
if 0 ≤ x1 ∧ x1 < (x0.2.2.1.length : Int) then
(S50 ((x0.2.2.1.drop (0 : Int).toNat).take (x1.toNat - (0 : Int).toNat)) (x0.2.2.1.getD x1.toNat [])).bind fun r405 =>
k0 x0 x1 r405
else none
else none
theorem t28_15 (S50) (h50 : (ctr50 S50).holds cl) (x0 x1) : exec cl N c28_15 (e120 x0 x1) K = (g28_15 S50 (fun y0 y1 y2 => K .normal (e121 y0 y1 y2)) x0 x1) := by
 rw [← put_eq h50]
 kernel_rfl
def g28_16 (k0 : Int → Option R) (x0 : V10) (x1 : Int) (x2 : Bool) : Option R :=
k0 (5 : Int)
theorem t28_16 (x0 x1 x2) : exec cl N c28_16 (e121 x0 x1 x2) K = (g28_16 (fun y0 => K .normal [(2, .v U2 y0)]) x0 x1 x2) := by
 kernel_rfl
theorem kp28_7 (x0 x1 x2) : keep [1, 2, 3] (e121 x0 x1 x2) = (e120 x0 x1) := by kernel_rfl
theorem hb28_4 (x0 x1 x2) : boolOf? (ent (e121 x0 x1 x2) (.t 52)) = some x2 := by kernel_rfl
theorem kp28_8 (x0) : keep [1, 2, 3] (e119 x0) = (e119 x0) := by kernel_rfl
theorem kp28_9 (x0 x1) : keep [1, 2, 3] (e120 x0 x1) = (e120 x0 x1) := by kernel_rfl
def g28_19 (k0 : V10 → Int → Option R) (x0 : V10) (x1 : Int) : Option R :=
k0 x0 (IntKind.i64.wrap (x1 + (1 : Int)))
theorem t28_19 (x0 x1) : exec cl N c28_19 (e120 x0 x1) K = (g28_19 (fun y0 y1 => K .normal (e116 y0 y1)) x0 x1) := by
 kernel_rfl
def g28_20 (S50 : V4 → V1 → Option (Bool)) (S55 : V1 → Option (Int)) (k0 : Int → Option R) (k1 : V10 → Int → Option R) (k2 : V10 → Int → Option R) (x0 : V10) (x1 : Int) : Option R :=
(g28_8 (fun y0 y1 y2 => brB y2 ((g28_14 S55 (fun y0 y1 y2 y3 => brB y3 (g28_12 k0 y0 y1 y2 y3) ((g28_15 S50 (fun y0 y1 y2 => brB y2 (g28_16 k0 y0 y1 y2) (((g28_19 k1)) y0 y1))) y0 y1))) y0 y1) (k2 y0 y1)) x0 x1)
theorem t28_20 (S50) (S55) (h50 : (ctr50 S50).holds cl) (h55 : (ctr55 S55).holds cl) (x0 x1) : exec cl N c28_20 (e116 x0 x1) K = (g28_20 S50 S55 (fun y0 => K .ret (e119 y0)) (fun y0 y1 => K .normal (e116 y0 y1)) (fun y0 y1 => K (.exit 0) (e116 y0 y1)) x0 x1) := by
 simp only [c28_20, exec_seq, seqK_normal, seqK_exit, seqK_ret, t28_8, c28_9, exec_out, exec_cond', hb28_2, Option.bind_some, brB_true, brB_false, exec_skip, exec_exit, kp28_4, c28_18, exec_block, t28_14 S55 h55, c28_13, hb28_3, t28_12, exec_ret, kp28_5, kp28_6, t28_15 S50 h50, c28_17, hb28_4, t28_16, kp28_7, blockK_normal, blockK_ret, blockK_eq, kp28_8, kp28_9, t28_19]
 rfl
def l28_21 {R : Type} (S50 : V4 → V1 → Option (Bool)) (S55 : V1 → Option (Int)) (k0 : Int → Option R) (k1 : V10 → Int → Option R) : Nat → V10 → Int → Option R
 | 0, _, _ => none
 | m + 1, x0, x1 => (g28_20 S50 S55 k0 (l28_21 S50 S55 k0 k1 m) k1 x0 x1)
theorem lt28_21 (S50) (S55) (h50 : (ctr50 S50).holds cl) (h55 : (ctr55 S55).holds cl) : ∀ (m) (x0 x1), iter [1, 3] (fun env K => exec cl N c28_20 env K) K m (e116 x0 x1) = l28_21 S50 S55 (fun y0 => K .ret (e119 y0)) (fun y0 y1 => K (.exit 0) (e116 y0 y1)) m x0 x1 := by
 intro m
 induction m with
 | zero => intros; rfl
 | succ m ih =>
   intro x0 x1
   simp only [iter_succ, t28_20 S50 S55 h50 h55, loopK_normal, loopK_exit, loopK_ret, kp28_3, ih]
   rfl
theorem kp28_10 (x0) : keep [2] (e119 x0) = [(2, .v U2 x0)] := by kernel_rfl
theorem kp28_11 (x0 x1) : keep [2] (e116 x0 x1) = [(2, .dead)] := by kernel_rfl
def g28_21 (N : Nat) (S50 : V4 → V1 → Option (Bool)) (S55 : V1 → Option (Int)) (k0 : Int → Option R) (k1 : Option R) (x0 : V10) (x1 : Int) : Option R :=
l28_21 S50 S55 k0 (fun y0 y1 => k1) N x0 x1
theorem t28_21 (S50) (S55) (h50 : (ctr50 S50).holds cl) (h55 : (ctr55 S55).holds cl) (x0 x1) : exec cl N c28_21 (e116 x0 x1) K = (g28_21 N S50 S55 (fun y0 => K .ret [(2, .v U2 y0)]) (K (.exit 0) [(2, .dead)]) x0 x1) := by
 simp only [c28_21, exec_out, exec_loop, kp28_3, lt28_21 S50 S55 h50 h55, kp28_10, kp28_11]
 rfl
theorem kp28_12 (x0) : keep [2] [(2, .v U2 x0)] = [(2, .v U2 x0)] := by kernel_rfl
theorem kp28_13 : keep [2] [(2, .dead)] = [(2, .dead)] := by kernel_rfl
def g28_23 (k0 : Int → Option R) : Option R :=
k0 (0 : Int)
theorem t28_23 : exec cl N c28_23 [(2, .dead)] K = (g28_23 (fun y0 => K .normal [(2, .v U2 y0)])) := by
 kernel_rfl
def g28_24 (N : Nat) (S50 : V4 → V1 → Option (Bool)) (S55 : V1 → Option (Int)) (k0 : Int → Option R) (k1 : Int → Option R) (x0 : V10) : Option R :=
(g28_0 (g28_1 (fun y0 y1 => brB y1 (g28_2 k0 y0 y1) ((g28_4 (fun y0 y1 => brB y1 (g28_5 k0 y0 y1) ((g28_7 (g28_21 N S50 S55 k1 (g28_23 k1))) y0))) y0))) x0)
theorem t28_24 (S50) (S55) (h50 : (ctr50 S50).holds cl) (h55 : (ctr55 S55).holds cl) (x0) : exec cl N c28_24 [(0, .v U13 x0)] K = (g28_24 N S50 S55 (fun y0 => K .ret (e60 y0)) (fun y0 => K .ret [(2, .v U2 y0)]) x0) := by
 simp only [c28_24, exec_seq, seqK_normal, seqK_exit, seqK_ret, t28_0, t28_1, c28_3, exec_out, exec_cond', hb28_0, Option.bind_some, brB_true, brB_false, t28_2, exec_ret, exec_skip, kp28_0, kp28_1, t28_4, c28_6, hb28_1, t28_5, kp28_2, t28_7, c28_22, exec_block, t28_21 S50 S55 h50 h55, blockK_normal, blockK_ret, blockK_eq, kp28_12, kp28_13, t28_23]
 rfl
theorem rk28_0 (y0) : retK d28 .ret (e60 y0) = some [.v U2 y0] := by kernel_rfl
theorem rk28_1 (y0) : retK d28 .ret [(2, .v U2 y0)] = some [.v U2 y0] := by kernel_rfl
def g28 (N : Nat) (S50 : V4 → V1 → Option (Bool)) (S55 : V1 → Option (Int)) (x0 : V10) (k : Int → Option R) : Option R :=
(g28_24 N S50 S55 k k x0)
theorem gen28 (S50) (S55) (h50 : (ctr50 S50).holds cl) (h55 : (ctr55 S55).holds cl) (x0) (k : List E → Option R) : exec cl N c28 [(0, .v U13 x0)] (fun e env => (retK d28 e env).bind k) = g28 N S50 S55 x0 (fun r0 => k [.v U2 r0]) := by
 simp only [c28, t28_24 S50 S55 h50 h55, rk28_0, rk28_1, Option.bind_some]
 rfl
def ctr28 (S : V10 → Option (Int)) : Ctr := cv1 28 U13 S fun b => [.v U2 b]
def S28 (N : Nat) (x0 : V10) : Option (Int) := g28 N (S50 N) (S55 N) x0 (fun (r0 : Int) => some (r0))
def g9_0 (k0 : V14 → Option R) (x0 : V14) : Option R :=
k0 x0
theorem t9_0 (x0) : exec cl N c9_0 [(0, .v U17 x0)] K = (g9_0 (fun y0 => K .normal [(1, .loc U17 .no y0)]) x0) := by
 kernel_rfl
def g9_1 (S27 : V1 → Option (Bool)) (k0 : V14 → Bool → Option R) (x0 : V14) : Option R :=
(S27 x0.1).bind fun r411 =>
k0 x0 (!r411)
theorem t9_1 (S27) (h27 : (ctr27 S27).holds cl) (x0) : exec cl N c9_1 [(1, .loc U17 .no x0)] K = (g9_1 S27 (fun y0 y1 => K .normal (e122 y0 y1)) x0) := by
 rw [← put_eq h27]
 kernel_rfl
def g9_2 (k0 : Int → Option R) (x0 : V14) (x1 : Bool) : Option R :=
k0 (2 : Int)
theorem t9_2 (x0 x1) : exec cl N c9_2 (e122 x0 x1) K = (g9_2 (fun y0 => K .normal [(2, .v U2 y0)]) x0 x1) := by
 kernel_rfl
theorem kp9_0 (x0) : keep [1, 2] [(2, .v U2 x0)] = (e60 x0) := by kernel_rfl
theorem kp9_1 (x0 x1) : keep [1, 2] (e122 x0 x1) = (e74 x0) := by kernel_rfl
theorem hb9_0 (x0 x1) : boolOf? (ent (e122 x0 x1) (.t 8)) = some x1 := by kernel_rfl
def g9_4 (k0 : V14 → Bool → Option R) (x0 : V14) : Option R :=
k0 x0 (decide ((x0.2.1.length : Int) > (30 : Int)))
theorem t9_4 (x0) : exec cl N c9_4 (e74 x0) K = (g9_4 (fun y0 y1 => K .normal (e123 y0 y1)) x0) := by
 kernel_rfl
def g9_5 (k0 : Int → Option R) (x0 : V14) (x1 : Bool) : Option R :=
k0 (3 : Int)
theorem t9_5 (x0 x1) : exec cl N c9_5 (e123 x0 x1) K = (g9_5 (fun y0 => K .normal [(2, .v U2 y0)]) x0 x1) := by
 kernel_rfl
theorem kp9_2 (x0 x1) : keep [1, 2] (e123 x0 x1) = (e74 x0) := by kernel_rfl
theorem hb9_1 (x0 x1) : boolOf? (ent (e123 x0 x1) (.t 12)) = some x1 := by kernel_rfl
def g9_7 (k0 : V14 → Int → Option R) (x0 : V14) : Option R :=
k0 x0 (0 : Int)
theorem t9_7 (x0) : exec cl N c9_7 (e74 x0) K = (g9_7 (fun y0 y1 => K .normal (e2 y0 y1)) x0) := by
 kernel_rfl
theorem kp9_3 (x0 x1) : keep [1, 3] (e2 x0 x1) = (e2 x0 x1) := by kernel_rfl
def g9_8 (k0 : V14 → Int → Bool → Option R) (x0 : V14) (x1 : Int) : Option R :=
k0 x0 x1 (decide (x1 < (x0.2.1.length : Int)))
theorem t9_8 (x0 x1) : exec cl N c9_8 (e2 x0 x1) K = (g9_8 (fun y0 y1 y2 => K .normal (e124 y0 y1 y2)) x0 x1) := by
 kernel_rfl
theorem kp9_4 (x0 x1 x2) : keep [1, 3] (e124 x0 x1 x2) = (e2 x0 x1) := by kernel_rfl
theorem hb9_2 (x0 x1 x2) : boolOf? (ent (e124 x0 x1 x2) (.t 17)) = some x2 := by kernel_rfl
def g9_14 (S28 : V10 → Option (Int)) (k0 : V14 → Int → Int → Bool → Option R) (x0 : V14) (x1 : Int) : Option R :=
if 0 ≤ x1 ∧ x1 < (x0.2.1.length : Int) then
(S28 (x0.2.1.getD x1.toNat ((0 : Int), ((0 : Int), ([], ()))))).bind fun r415 =>
k0 x0 x1 r415 (r415 != (0 : Int))
else none
theorem t9_14 (S28) (h28 : (ctr28 S28).holds cl) (x0 x1) : exec cl N c9_14 (e2 x0 x1) K = (g9_14 S28 (fun y0 y1 y2 y3 => exec cl N c9_13 (e125 y0 y1 y2 y3) K) x0 x1) := by
 rw [← put_eq h28]
 kernel_rfl
def g9_12 (k0 : Int → Option R) (x0 : V14) (x1 x2 : Int) (x3 : Bool) : Option R :=
k0 x2
theorem t9_12 (x0 x1 x2 x3) : exec cl N c9_12 (e125 x0 x1 x2 x3) K = (g9_12 (fun y0 => K .normal [(2, .v U2 y0)]) x0 x1 x2 x3) := by
 kernel_rfl
theorem kp9_5 (x0) : keep [1, 2, 3] [(2, .v U2 x0)] = (e119 x0) := by kernel_rfl
theorem kp9_6 (x0 x1 x2 x3) : keep [1, 2, 3] (e125 x0 x1 x2 x3) = (e126 x0 x1) := by kernel_rfl
theorem hb9_3 (x0 x1 x2 x3) : boolOf? (ent (e125 x0 x1 x2 x3) (.t 27)) = some x3 := by kernel_rfl
theorem kp9_7 (x0) : keep [1, 2, 3] (e119 x0) = (e119 x0) := by kernel_rfl
theorem kp9_8 (x0 x1) : keep [1, 2, 3] (e126 x0 x1) = (e126 x0 x1) := by kernel_rfl
def g9_16 (k0 : V14 → Int → Option R) (x0 : V14) (x1 : Int) : Option R :=
k0 x0 (IntKind.i64.wrap (x1 + (1 : Int)))
theorem t9_16 (x0 x1) : exec cl N c9_16 (e126 x0 x1) K = (g9_16 (fun y0 y1 => K .normal (e2 y0 y1)) x0 x1) := by
 kernel_rfl
def g9_17 (S28 : V10 → Option (Int)) (k0 : Int → Option R) (k1 : V14 → Int → Option R) (k2 : V14 → Int → Option R) (x0 : V14) (x1 : Int) : Option R :=
(g9_8 (fun y0 y1 y2 => brB y2 ((g9_14 S28 (fun y0 y1 y2 y3 => brB y3 (g9_12 k0 y0 y1 y2 y3) (((g9_16 k1)) y0 y1))) y0 y1) (k2 y0 y1)) x0 x1)
theorem t9_17 (S28) (h28 : (ctr28 S28).holds cl) (x0 x1) : exec cl N c9_17 (e2 x0 x1) K = (g9_17 S28 (fun y0 => K .ret (e119 y0)) (fun y0 y1 => K .normal (e2 y0 y1)) (fun y0 y1 => K (.exit 0) (e2 y0 y1)) x0 x1) := by
 simp only [c9_17, exec_seq, seqK_normal, seqK_exit, seqK_ret, t9_8, c9_9, exec_out, exec_cond', hb9_2, Option.bind_some, brB_true, brB_false, exec_skip, exec_exit, kp9_4, c9_15, exec_block, t9_14 S28 h28, c9_13, hb9_3, t9_12, exec_ret, kp9_5, kp9_6, blockK_normal, blockK_ret, blockK_eq, kp9_7, kp9_8, t9_16]
 rfl
def l9_18 {R : Type} (S28 : V10 → Option (Int)) (k0 : Int → Option R) (k1 : V14 → Int → Option R) : Nat → V14 → Int → Option R
 | 0, _, _ => none
 | m + 1, x0, x1 => (g9_17 S28 k0 (l9_18 S28 k0 k1 m) k1 x0 x1)
theorem lt9_18 (S28) (h28 : (ctr28 S28).holds cl) : ∀ (m) (x0 x1), iter [1, 3] (fun env K => exec cl N c9_17 env K) K m (e2 x0 x1) = l9_18 S28 (fun y0 => K .ret (e119 y0)) (fun y0 y1 => K (.exit 0) (e2 y0 y1)) m x0 x1 := by
 intro m
 induction m with
 | zero => intros; rfl
 | succ m ih =>
   intro x0 x1
   simp only [iter_succ, t9_17 S28 h28, loopK_normal, loopK_exit, loopK_ret, kp9_3, ih]
   rfl
theorem kp9_9 (x0) : keep [2] (e119 x0) = [(2, .v U2 x0)] := by kernel_rfl
theorem kp9_10 (x0 x1) : keep [2] (e2 x0 x1) = [(2, .dead)] := by kernel_rfl
def g9_18 (N : Nat) (S28 : V10 → Option (Int)) (k0 : Int → Option R) (k1 : Option R) (x0 : V14) (x1 : Int) : Option R :=
l9_18 S28 k0 (fun y0 y1 => k1) N x0 x1
theorem t9_18 (S28) (h28 : (ctr28 S28).holds cl) (x0 x1) : exec cl N c9_18 (e2 x0 x1) K = (g9_18 N S28 (fun y0 => K .ret [(2, .v U2 y0)]) (K (.exit 0) [(2, .dead)]) x0 x1) := by
 simp only [c9_18, exec_out, exec_loop, kp9_3, lt9_18 S28 h28, kp9_10, kp9_9]
 rfl
theorem kp9_11 (x0) : keep [2] [(2, .v U2 x0)] = [(2, .v U2 x0)] := by kernel_rfl
theorem kp9_12 : keep [2] [(2, .dead)] = [(2, .dead)] := by kernel_rfl
def g9_20 (k0 : Int → Option R) : Option R :=
k0 (0 : Int)
theorem t9_20 : exec cl N c9_20 [(2, .dead)] K = (g9_20 (fun y0 => K .normal [(2, .v U2 y0)])) := by
 kernel_rfl
def g9_21 (N : Nat) (S27 : V1 → Option (Bool)) (S28 : V10 → Option (Int)) (k0 : Int → Option R) (k1 : Int → Option R) (x0 : V14) : Option R :=
(g9_0 (g9_1 S27 (fun y0 y1 => brB y1 (g9_2 k0 y0 y1) ((g9_4 (fun y0 y1 => brB y1 (g9_5 k0 y0 y1) ((g9_7 (g9_18 N S28 k1 (g9_20 k1))) y0))) y0))) x0)
theorem t9_21 (S27) (S28) (h27 : (ctr27 S27).holds cl) (h28 : (ctr28 S28).holds cl) (x0) : exec cl N c9_21 [(0, .v U17 x0)] K = (g9_21 N S27 S28 (fun y0 => K .ret (e60 y0)) (fun y0 => K .ret [(2, .v U2 y0)]) x0) := by
 simp only [c9_21, exec_seq, seqK_normal, seqK_exit, seqK_ret, t9_0, t9_1 S27 h27, c9_3, exec_out, exec_cond', hb9_0, Option.bind_some, brB_true, brB_false, t9_2, exec_ret, exec_skip, kp9_0, kp9_1, t9_4, c9_6, hb9_1, t9_5, kp9_2, t9_7, c9_19, exec_block, t9_18 S28 h28, blockK_normal, blockK_ret, blockK_eq, kp9_11, kp9_12, t9_20]
 rfl
theorem rk9_0 (y0) : retK d9 .ret (e60 y0) = some [.v U2 y0] := by kernel_rfl
theorem rk9_1 (y0) : retK d9 .ret [(2, .v U2 y0)] = some [.v U2 y0] := by kernel_rfl
def g9 (N : Nat) (S27 : V1 → Option (Bool)) (S28 : V10 → Option (Int)) (x0 : V14) (k : Int → Option R) : Option R :=
(g9_21 N S27 S28 k k x0)
theorem gen9 (S27) (S28) (h27 : (ctr27 S27).holds cl) (h28 : (ctr28 S28).holds cl) (x0) (k : List E → Option R) : exec cl N c9 [(0, .v U17 x0)] (fun e env => (retK d9 e env).bind k) = g9 N S27 S28 x0 (fun r0 => k [.v U2 r0]) := by
 simp only [c9, t9_21 S27 S28 h27 h28, rk9_0, rk9_1, Option.bind_some]
 rfl
def ctr9 (S : V14 → Option (Int)) : Ctr := cv1 9 U17 S fun b => [.v U2 b]
def S9 (N : Nat) (x0 : V14) : Option (Int) := g9 N (S27 N) (S28 N) x0 (fun (r0 : Int) => some (r0))
end Go.Fw.L19
