/- Printed by an own program for this claim: the machine's code of functions, or their typed forms with their equations; no conditions. -/
import Derived.Test.YtnobiophckdjfaaFwYs51
import Derived.Test.YtnobiophckdjfaaFwB4
set_option linter.unusedVariables false
set_option linter.unusedSimpArgs false
namespace Go.Fw.L51
open Go Go.Fw
set_option maxRecDepth 100000
set_option linter.unusedVariables false
set_option linter.unusedSimpArgs false
abbrev cv1 (f : FuncId) (T0 : Ty) {B : Type} (S : den T0 → Option B) (ent : B → List E) : Ctr := { A := den T0 × Unit, B := B, f := f, enc := fun a => [.v T0 a.1], dec := (decC (decV T0) dec0), S := fun a => S a.1, ent := ent, ok := (decV_cons (T := T0) (fun es b h => dec0_some h)) }
abbrev cv2 (f : FuncId) (T0 T1 : Ty) {B : Type} (S : den T0 → den T1 → Option B) (ent : B → List E) : Ctr := { A := den T0 × den T1 × Unit, B := B, f := f, enc := fun a => [.v T0 a.1, .v T1 a.2.1], dec := (decC (decV T0) (decC (decV T1) dec0)), S := fun a => S a.1 a.2.1, ent := ent, ok := (decV_cons (T := T0) (decV_cons (T := T1) (fun es b h => dec0_some h))) }
abbrev cv3 (f : FuncId) (T0 T1 T2 : Ty) {B : Type} (S : den T0 → den T1 → den T2 → Option B) (ent : B → List E) : Ctr := { A := den T0 × den T1 × den T2 × Unit, B := B, f := f, enc := fun a => [.v T0 a.1, .v T1 a.2.1, .v T2 a.2.2.1], dec := (decC (decV T0) (decC (decV T1) (decC (decV T2) dec0))), S := fun a => S a.1 a.2.1 a.2.2.1, ent := ent, ok := (decV_cons (T := T0) (decV_cons (T := T1) (decV_cons (T := T2) (fun es b h => dec0_some h)))) }
abbrev cv4 (f : FuncId) (T0 T1 T2 T3 : Ty) {B : Type} (S : den T0 → den T1 → den T2 → den T3 → Option B) (ent : B → List E) : Ctr := { A := den T0 × den T1 × den T2 × den T3 × Unit, B := B, f := f, enc := fun a => [.v T0 a.1, .v T1 a.2.1, .v T2 a.2.2.1, .v T3 a.2.2.2.1], dec := (decC (decV T0) (decC (decV T1) (decC (decV T2) (decC (decV T3) dec0)))), S := fun a => S a.1 a.2.1 a.2.2.1 a.2.2.2.1, ent := ent, ok := (decV_cons (T := T0) (decV_cons (T := T1) (decV_cons (T := T2) (decV_cons (T := T3) (fun es b h => dec0_some h))))) }
abbrev cv5 (f : FuncId) (T0 T1 T2 T3 T4 : Ty) {B : Type} (S : den T0 → den T1 → den T2 → den T3 → den T4 → Option B) (ent : B → List E) : Ctr := { A := den T0 × den T1 × den T2 × den T3 × den T4 × Unit, B := B, f := f, enc := fun a => [.v T0 a.1, .v T1 a.2.1, .v T2 a.2.2.1, .v T3 a.2.2.2.1, .v T4 a.2.2.2.2.1], dec := (decC (decV T0) (decC (decV T1) (decC (decV T2) (decC (decV T3) (decC (decV T4) dec0))))), S := fun a => S a.1 a.2.1 a.2.2.1 a.2.2.2.1 a.2.2.2.2.1, ent := ent, ok := (decV_cons (T := T0) (decV_cons (T := T1) (decV_cons (T := T2) (decV_cons (T := T3) (decV_cons (T := T4) (fun es b h => dec0_some h)))))) }
theorem B0 : (∀ {R : Type} (cl : Cal) (N : Nat) (env : Env) (K : KE R) (a b : AC), exec cl N (.seq a b) env K = exec cl N a env (seqK (fun env => exec cl N b env K) K)) ∧ (∀ {R : Type} (y : Env → Option R) (K : KE R) (env : Env), seqK y K .normal env = y env) ∧ (∀ {R : Type} (y : Env → Option R) (K : KE R) (id : Nat) (env : Env), seqK y K (.exit id) env = K (.exit id) env) ∧ (∀ {R : Type} (y : Env → Option R) (K : KE R) (env : Env), seqK y K .ret env = K .ret env) := ⟨fun _ _ _ _ a b => exec_seq _ _ a b, seqK_normal, seqK_exit, seqK_ret⟩
theorem B1 : (∀ {R : Type} (cl : Cal) (N : Nat) (env : Env) (K : KE R) (c : Od) (x y : AC), exec cl N (.cond c x y) env K = (boolOf? (ent env c)).bind fun q => brB q (exec cl N x env K) (exec cl N y env K)) ∧ (∀ {α : Type} (x y : α), brB true x y = x) ∧ (∀ {α : Type} (x y : α), brB false x y = y) ∧ (∀ {R : Type} (cl : Cal) (N : Nat) (env : Env) (K : KE R), exec cl N .skip env K = K .normal env) := ⟨fun _ _ _ _ c x y => exec_cond' _ _ c x y, brB_true, brB_false, fun _ _ _ _ => exec_skip _ _⟩
theorem B2 : (∀ {R : Type} (cl : Cal) (N : Nat) (env : Env) (K : KE R) (id : Nat) (b : AC), exec cl N (.block id b) env K = exec cl N b env (blockK id K)) ∧ (∀ {R : Type} (id : Nat) (K : KE R) (env : Env), blockK id K .normal env = K .normal env) ∧ (∀ {R : Type} (id : Nat) (K : KE R) (env : Env), blockK id K .ret env = K .ret env) ∧ (∀ {R : Type} (id : Nat) (K : KE R) (env : Env), blockK id K (.exit id) env = K .normal env) := ⟨fun _ _ _ _ id b => exec_block _ _ id b, blockK_normal, blockK_ret, blockK_eq⟩
theorem B3 : (∀ {R : Type} (live : List Nat) (body : Env → KE R → Option R) (K : KE R) (m : Nat) (env : Env), iter live body K (m + 1) env = body env (loopK live body K m)) ∧ (∀ {R : Type} (live : List Nat) (body : Env → KE R → Option R) (K : KE R) (m : Nat) (env : Env), loopK live body K m .normal env = iter live body K m (keep live env)) ∧ (∀ {R : Type} (live : List Nat) (body : Env → KE R → Option R) (K : KE R) (m id : Nat) (env : Env), loopK live body K m (.exit id) env = K (.exit id) env) ∧ (∀ {R : Type} (live : List Nat) (body : Env → KE R → Option R) (K : KE R) (m : Nat) (env : Env), loopK live body K m .ret env = K .ret env) := ⟨iter_succ, loopK_normal, loopK_exit, loopK_ret⟩
abbrev K3 (R : Type) : Type := V5 → Int → Option R
abbrev K24 (R : Type) : Type := Int → V5 → V0 → Option R
abbrev K46 (R : Type) : Type := V5 → Option R
abbrev K11 (R : Type) : Type := Bool → Option R
abbrev K41 (R : Type) : Type := V5 → Int → Int → Option R
abbrev K38 (R : Type) : Type := V0 → Option R
abbrev K19 (R : Type) : Type := V0 → V0 → Int → Option R
abbrev K29 (R : Type) : Type := V0 → V0 → Int → Int → Option R
abbrev K37 (R : Type) : Type := V0 → V0 → Option R
abbrev K45 (R : Type) : Type := V0 → V0 → Bool → Option R
abbrev K21 (R : Type) : Type := Int → Option R
abbrev K31 (R : Type) : Type := V0 → V0 → Int → Bool → Option R
abbrev K17 (R : Type) : Type := V0 → V0 → V0 → Int → Option R
abbrev K1 (R : Type) : Type := V0 → V0 → V0 → Int → Int → Option R
abbrev K34 (R : Type) : Type := V0 → V0 → V0 → Int → Int → Bool → Option R
abbrev K6 (R : Type) : Type := V0 → V0 → V0 → Int → Int → Int → Option R
abbrev K35 (R : Type) : Type := V5 → V5 → V5 → Option R
abbrev K20 (R : Type) : Type := V5 → V5 → V5 → Bool → Option R
abbrev K40 (R : Type) : Type := V5 → V0 → V0 → Option R
abbrev K18 (R : Type) : Type := V5 → V0 → V0 → Int → Option R
abbrev K26 (R : Type) : Type := V5 → V0 → V0 → Int → Bool → Option R
abbrev K30 (R : Type) : Type := V5 → Int → V0 → Int → Option R
abbrev K5 (R : Type) : Type := V0 → V0 → V0 → V0 → Int → Option R
abbrev K2 (R : Type) : Type := V0 → V0 → V0 → V0 → Int → Int → Int → Option R
abbrev K36 (R : Type) : Type := V0 → V0 → V0 → V0 → Int → Int → Int → Bool → Option R
abbrev K33 (R : Type) : Type := V0 → V0 → V0 → V0 → Int → Int → Int → Int → Bool → Option R
abbrev K28 (R : Type) : Type := V0 → V0 → V0 → V0 → Int → Int → Option R
abbrev K27 (R : Type) : Type := V5 → V5 → V5 → V5 → Bool → Option R
abbrev K15 (R : Type) : Type := V5 → V5 → Int → Option R
abbrev K47 (R : Type) : Type := V16 → Option R
abbrev K12 (R : Type) : Type := Int → Int → V16 → Bool → Option R
abbrev K0 (R : Type) : Type := V16 → Int → Option R
abbrev K32 (R : Type) : Type := V0 → V11 → Int → Int → Option R
abbrev K4 (R : Type) : Type := V0 → V0 → Int → Int → Int → V0 → Int → Int → V0 → Int → Int → Option R
abbrev K7 (R : Type) : Type := V0 → V0 → Int → Int → Int → Option R
abbrev K16 (R : Type) : Type := Int → Int → Int → Option R
abbrev K22 (R : Type) : Type := Int → Int → V5 → V0 → Int → Option R
abbrev K23 (R : Type) : Type := V5 → V5 → V5 → Int → Int → Option R
abbrev K44 (R : Type) : Type := V18 → Int → Option R
abbrev K13 (R : Type) : Type := Int → Int → Int → V18 → Int → Int → Option R
abbrev K39 (R : Type) : Type := V18 → V16 → Int → Option R
abbrev K42 (R : Type) : Type := V18 → V16 → Int → Bool → Option R
abbrev K25 (R : Type) : Type := V18 → V16 → V16 → Int → Option R
abbrev K43 (R : Type) : Type := V16 → V16 → Bool → Option R
abbrev K8 (R : Type) : Type := V0 → V0 → Int → V0 → Int → Int → Option R
abbrev K14 (R : Type) : Type := Int → V16 → Int → Int → V5 → Int → Option R
abbrev K10 (R : Type) : Type := Int → Int → Int → Int → V5 → Int → Option R
abbrev K9 (R : Type) : Type := V18 → V16 → Int → V18 → V18 → Int → Int → Option R
abbrev s111 : Type := Int → Option V9
abbrev s85 : Type := Int → Option V7
abbrev s113 : Type := V0 → Option V2
abbrev s112 : Type := V0 → Int → Option (Int)
abbrev s86 : Type := V5 → Option (Bool)
abbrev s108 : Type := V0 → Option (Bool)
abbrev s109 : Type := V0 → Option V2
abbrev s90 : Type := V0 → V0 → Option (Int)
abbrev s91 : Type := V0 → V0 → Option V2
abbrev s89 : Type := V0 → V0 → Option V2
abbrev s88 : Type := V0 → V0 → Option V2
abbrev s110 : Type := V0 → V0 → Option V8
abbrev s56 : Type := V5 → Option (Bool)
abbrev s83 : Type := V5 → V5 → Option V9
abbrev s84 : Type := V5 → V5 → Option V14
abbrev s52 : Type := Bool → V5 → V5 → Option V17
abbrev s53 : Type := Int → Option V7
abbrev s23 : Type := Int → Int → Option V19
abbrev s116 : Type := V0 → V11 → Option (Int)
abbrev s99 : Type := V0 → V11 → Option (Bool)
abbrev s100 : Type := Int → Option (Bool)
abbrev s118 : Type := V0 → Option V2
abbrev s117 : Type := V0 → Option V2
abbrev s96 : Type := V0 → V0 → Option (Int)
abbrev s114 : Type := V0 → V0 → Option V2
abbrev s119 : Type := V0 → V0 → Option V2
abbrev s120 : Type := V0 → Option V2
abbrev s75 : Type := V5 → Option (Bool)
abbrev s115 : Type := V0 → V0 → Option V8
abbrev s105 : Type := V0 → Option V7
abbrev s81 : Type := Int → Option V9
abbrev s76 : Type := V5 → Option (Bool)
abbrev s69 : Type := V5 → V5 → Option (Int)
abbrev s95 : Type := Int → Option V7
abbrev s101 : Type := V5 → V5 → Option V9
abbrev s97 : Type := V16 → Option (Bool)
abbrev s49 : Type := Int → Option V7
abbrev s98 : Type := V5 → Option (Int)
abbrev s74 : Type := V16 → Option V4
abbrev s106 : Type := V0 → Option V9
abbrev s92 : Type := Int → Int → Option V9
abbrev s103 : Type := V5 → V5 → Option V9
abbrev s78 : Type := V5 → V5 → Option V7
abbrev s46 : Type := Int → Int → Option V7
abbrev s64 : Type := Int → Int → Option V7
abbrev s102 : Type := V5 → V5 → Option V14
abbrev s77 : Type := Bool → V5 → V5 → Option V17
abbrev s43 : Type := Int → Int → Int → Int → V16 → Option V4
abbrev s44 : Type := V5 → V5 → Option V19
abbrev s45 : Type := Int → Int → Int → Int → Option V7
abbrev s60 : Type := V5 → V5 → Option (Int)
abbrev s51 : Type := V5 → V5 → Option (Bool)
abbrev s87 : Type := V0 → Option V9
abbrev s58 : Type := V5 → V5 → Option V9
abbrev s54 : Type := V16 → Option (Bool)
abbrev s57 : Type := V5 → V5 → V5 → V5 → Option V14
abbrev s59 : Type := V5 → V5 → Option V9
abbrev s61 : Type := V5 → V5 → Option V9
abbrev s94 : Type := Option V17
abbrev s26 : Type := V16 → V16 → Option V19
abbrev s67 : Type := V18 → Option V19
abbrev s21 : Type := V16 → V16 → Option (Bool)
abbrev s107 : Type := V0 → V0 → Option V2
abbrev s82 : Type := V5 → V5 → Option V9
abbrev s50 : Type := V5 → V5 → Option V7
abbrev s68 : Type := Int → Int → Option V19
abbrev s70 : Type := V5 → V5 → V5 → V5 → Option (Int)
abbrev s11 : Type := Option (Bool)
abbrev s13 : Type := Int → V16 → Option V20
abbrev s22 : Type := Int → Int → Option V17
abbrev s31 : Type := V16 → Int → Option (Bool)
abbrev s32 : Type := V18 → Option V17
abbrev s19 : Type := Int → Int → V16 → Option V19
abbrev s33 : Type := Int → V16 → Option V19
abbrev s34 : Type := Int → V16 → Option V1
abbrev s25 : Type := V16 → V16 → Option V19
abbrev s35 : Type := V16 → V16 → Option (Int)
abbrev e0 := fun x0 x1 => ([(0, .v U1 x0), (2, .loc U5 (.pair (.own true 3 .no) .no) x1)] : Env)
abbrev e1 := fun x0 x1 x2 => ([(0, .v U1 x0), (2, .loc U5 (.pair (.own true 3 .no) .no) x1), (6, .v .bool x2)] : Env)
abbrev e2 := fun x0 x1 => ([(2, .loc U5 (.pair (.own true 3 .no) .no) x0), (3, .v U1 x1)] : Env)
abbrev e3 := fun x0 x1 => ([(0, .dead), (2, .loc U5 (.pair (.own true 3 .no) .no) x0), (3, .v U1 x1)] : Env)
abbrev e4 := fun x0 x1 => ([(0, .v U1 x0), (2, .loc U5 (.pair (.own true 3 .no) .no) x1), (3, .dead)] : Env)
abbrev e5 := fun x0 x1 x2 => ([(0, .v U1 x0), (2, .loc U5 (.pair (.own true 3 .no) .no) x1), (4, .own true 3 U1 .no x2)] : Env)
abbrev e6 := fun x0 x1 x2 x3 => ([(0, .v U1 x0), (2, .loc U5 (.pair (.own true 3 .no) .no) x1), (4, .own true 3 U1 .no x2), (9, .v .bool x3)] : Env)
abbrev e7 := fun x0 x1 => ([(2, .loc U5 (.pair (.own true 3 .no) .no) x0), (4, .own true 3 U1 .no x1)] : Env)
abbrev e8 := fun x0 x1 => ([(2, .loc U5 .no x0), (3, .v U1 x1)] : Env)
abbrev e9 := fun x0 x1 x2 => ([(1, .loc U5 .no x0), (3, .v U1 x1), (22, .v .bool x2)] : Env)
abbrev e10 := fun x0 => ([(1, .dead), (2, .v .bool x0), (3, .dead)] : Env)
abbrev e11 := fun x0 x1 x2 => ([(1, .loc U5 .no x0), (3, .v U1 x1), (4, .v U1 x2)] : Env)
abbrev e12 := fun x0 x1 x2 x3 => ([(1, .loc U5 .no x0), (3, .v U1 x1), (4, .v U1 x2), (25, .v .bool x3)] : Env)
abbrev e13 := fun x0 x1 x2 x3 => ([(1, .loc U5 .no x0), (3, .v U1 x1), (4, .v U1 x2), (41, .v .bool x3)] : Env)
abbrev e14 := fun x0 => ([(1, .dead), (2, .v .bool x0), (3, .dead), (4, .dead)] : Env)
abbrev e15 := fun x0 x1 x2 => ([(1, .loc U5 .no x0), (2, .dead), (3, .v U1 x1), (4, .v U1 x2)] : Env)
abbrev e16 := fun x0 x1 => ([(0, .v U2 x0), (14, .v .bool x1)] : Env)
abbrev e17 := fun x0 x1 x2 x3 => ([(0, .v U2 x0), (3, .own true 3 U1 .no x1), (4, .v U1 x2), (5, .v U1 x3)] : Env)
abbrev e18 := fun x0 x1 x2 x3 x4 => ([(0, .v U2 x0), (3, .own true 3 U1 .no x1), (4, .v U1 x2), (5, .v U1 x3), (14, .v .bool x4)] : Env)
abbrev e19 := fun x0 => ([(3, .own true 3 U1 .no x0)] : Env)
abbrev e20 := fun x0 x1 => ([(0, .v U2 x0), (1, .v U2 x1)] : Env)
abbrev e21 := fun x0 x1 x2 => ([(0, .v U2 x0), (1, .v U2 x1), (10, .v .bool x2)] : Env)
abbrev e22 := fun x0 => ([(0, .dead), (1, .dead), (4, .v U1 x0)] : Env)
abbrev e23 := fun x0 x1 => ([(0, .v U2 x0), (1, .v U2 x1), (4, .dead)] : Env)
abbrev e24 := fun x0 x1 x2 => ([(0, .v U2 x0), (1, .v U2 x1), (15, .v .bool x2)] : Env)
abbrev e25 := fun x0 x1 x2 => ([(0, .v U2 x0), (1, .v U2 x1), (5, .v U1 x2)] : Env)
abbrev e26 := fun x0 x1 x2 x3 => ([(0, .v U2 x0), (1, .v U2 x1), (5, .v U1 x2), (20, .v .bool x3)] : Env)
abbrev e27 := fun x0 x1 x2 x3 => ([(0, .v U2 x0), (1, .v U2 x1), (5, .v U1 x2), (31, .v .bool x3)] : Env)
abbrev e28 := fun x0 => ([(0, .dead), (1, .dead), (4, .v U1 x0), (5, .dead)] : Env)
abbrev e29 := fun x0 x1 x2 => ([(0, .v U2 x0), (1, .v U2 x1), (4, .dead), (5, .v U1 x2)] : Env)
abbrev e30 := fun x0 x1 x2 x3 => ([(0, .v U2 x0), (1, .v U2 x1), (5, .v U1 x2), (40, .v .bool x3)] : Env)
abbrev e31 := fun x0 x1 => ([(0, .v U2 x0), (1, .v U1 x1)] : Env)
abbrev e32 := fun x0 x1 x2 => ([(0, .v U2 x0), (1, .v U1 x1), (8, .v .bool x2)] : Env)
abbrev e33 := fun x0 x1 x2 x3 => ([(0, .v U2 x0), (1, .v U2 x1), (5, .own true 3 U1 .no x2), (6, .v U1 x3)] : Env)
abbrev e34 := fun x0 x1 x2 x3 x4 => ([(0, .v U2 x0), (1, .v U2 x1), (5, .own true 3 U1 .no x2), (6, .v U1 x3), (7, .v U1 x4)] : Env)
abbrev e35 := fun x0 x1 x2 x3 x4 x5 => ([(0, .v U2 x0), (1, .v U2 x1), (5, .own true 3 U1 .no x2), (6, .v U1 x3), (7, .v U1 x4), (12, .v .bool x5)] : Env)
abbrev e36 := fun x0 x1 x2 x3 x4 x5 => ([(0, .v U2 x0), (1, .v U2 x1), (5, .own true 3 U1 .no x2), (6, .v U1 x3), (7, .v U1 x4), (8, .v U1 x5)] : Env)
abbrev e37 := fun x0 x1 x2 x3 x4 x5 x6 => ([(0, .v U2 x0), (1, .v U2 x1), (5, .own true 3 U1 .no x2), (6, .v U1 x3), (7, .v U1 x4), (8, .v U1 x5), (26, .v .bool x6)] : Env)
abbrev e38 := fun x0 => ([(5, .own true 3 U1 .no x0)] : Env)
abbrev e39 := fun x0 x1 x2 x3 x4 x5 => ([(0, .v U2 x0), (1, .v U2 x1), (5, .own true 3 U1 .no x2), (6, .v U1 x3), (7, .v U1 x4), (18, .v .bool x5)] : Env)
abbrev e40 := fun x0 x1 => ([(5, .own true 3 U1 .no x0), (6, .v U1 x1)] : Env)
abbrev e41 := fun x0 x1 => ([(0, .v U5 x0), (1, .v U5 x1)] : Env)
abbrev e42 := fun x0 x1 x2 => ([(2, .loc U5 .no x0), (3, .loc U5 .no x1), (4, .loc U5 (.pair (.own true 3 .no) .no) x2)] : Env)
abbrev e43 := fun x0 x1 x2 x3 => ([(2, .loc U5 .no x0), (3, .loc U5 .no x1), (4, .loc U5 (.pair (.own true 3 .no) .no) x2), (18, .v .bool x3)] : Env)
abbrev e44 := fun x0 x1 => ([(4, .loc U5 (.pair (.own true 3 .no) .no) x0), (5, .v U1 x1)] : Env)
abbrev e45 := fun x0 x1 => ([(2, .dead), (3, .dead), (4, .loc U5 (.pair (.own true 3 .no) .no) x0), (5, .v U1 x1)] : Env)
abbrev e46 := fun x0 x1 x2 => ([(2, .loc U5 .no x0), (3, .loc U5 .no x1), (4, .loc U5 (.pair (.own true 3 .no) .no) x2), (5, .dead)] : Env)
abbrev e47 := fun x0 x1 x2 => ([(4, .loc U5 (.pair (.own true 3 .no) .no) x0), (6, .v U2 x1), (7, .v U2 x2)] : Env)
abbrev e48 := fun x0 x1 x2 x3 => ([(4, .loc U5 (.pair (.own true 3 .no) .no) x0), (6, .v U2 x1), (7, .v U2 x2), (26, .v .bool x3)] : Env)
abbrev e49 := fun x0 x1 => ([(4, .loc U5 .no x0), (5, .v U1 x1)] : Env)
abbrev e50 := fun x0 x1 => ([(4, .loc U5 .no x0), (5, .v U1 x1), (6, .dead), (7, .dead)] : Env)
abbrev e51 := fun x0 x1 x2 => ([(4, .loc U5 (.pair (.own true 3 .no) .no) x0), (5, .dead), (6, .v U2 x1), (7, .v U2 x2)] : Env)
abbrev e52 := fun x0 x1 x2 x3 => ([(4, .loc U5 (.pair (.own true 3 .no) .no) x0), (6, .v U2 x1), (7, .v U2 x2), (8, .v U1 x3)] : Env)
abbrev e53 := fun x0 x1 x2 x3 x4 => ([(4, .loc U5 (.pair (.own true 3 .no) .no) x0), (6, .v U2 x1), (7, .v U2 x2), (8, .v U1 x3), (33, .v .bool x4)] : Env)
abbrev e54 := fun x0 x1 x2 x3 x4 => ([(4, .loc U5 (.pair (.own true 3 .no) .no) x0), (6, .v U2 x1), (7, .v U2 x2), (8, .v U1 x3), (37, .v .bool x4)] : Env)
abbrev e55 := fun x0 x1 x2 x3 x4 => ([(4, .loc U5 (.pair (.own true 3 .no) .no) x0), (6, .v U2 x1), (7, .v U2 x2), (8, .v U1 x3), (50, .v .bool x4)] : Env)
abbrev e56 := fun x0 x1 x2 x3 x4 => ([(4, .loc U5 (.pair (.own true 3 .no) .no) x0), (6, .v U2 x1), (7, .v U2 x2), (8, .v U1 x3), (55, .v .bool x4)] : Env)
abbrev e57 := fun x0 x1 x2 x3 x4 => ([(4, .loc U5 (.pair (.own true 3 .no) .no) x0), (6, .v U2 x1), (7, .v U2 x2), (8, .v U1 x3), (60, .v .bool x4)] : Env)
abbrev e58 := fun x0 x1 x2 => ([(4, .loc U5 (.pair (.own true 3 .no) .no) x0), (6, .v U2 x1), (8, .v U1 x2)] : Env)
abbrev e59 := fun x0 x1 x2 => ([(4, .loc U5 (.pair (.own true 3 .no) .no) x0), (8, .v U1 x1), (9, .v U2 x2)] : Env)
abbrev e60 := fun x0 x1 x2 x3 => ([(4, .loc U5 (.pair (.own true 3 .no) .no) x0), (8, .v U1 x1), (9, .v U2 x2), (10, .v U1 x3)] : Env)
abbrev e61 := fun x0 x1 x2 x3 x4 => ([(4, .loc U5 (.pair (.own true 3 .no) .no) x0), (8, .v U1 x1), (9, .v U2 x2), (10, .v U1 x3), (74, .v .bool x4)] : Env)
abbrev e62 := fun x0 x1 => ([(4, .loc U5 (.pair (.own true 3 .no) .no) x0), (9, .v U2 x1)] : Env)
abbrev e63 := fun x0 x1 x2 => ([(0, .v U2 x0), (1, .v U2 x1), (5, .own true 3 U1 .no x2)] : Env)
abbrev e64 := fun x0 x1 x2 x3 x4 => ([(0, .v U2 x0), (1, .v U2 x1), (5, .own true 3 U1 .no x2), (6, .v U1 x3), (20, .v .bool x4)] : Env)
abbrev e65 := fun x0 x1 x2 x3 x4 x5 x6 => ([(0, .v U2 x0), (1, .v U2 x1), (5, .own true 3 U1 .no x2), (6, .v U1 x3), (7, .v U1 x4), (8, .v U1 x5), (30, .v .bool x6)] : Env)
abbrev e66 := fun x0 x1 x2 x3 => ([(0, .v U2 x0), (1, .v U2 x1), (6, .own true 3 U1 .no x2), (7, .v U2 x3)] : Env)
abbrev e67 := fun x0 x1 x2 x3 x4 => ([(0, .v U2 x0), (1, .v U2 x1), (6, .own true 3 U1 .no x2), (7, .v U2 x3), (8, .v U1 x4)] : Env)
abbrev e68 := fun x0 x1 x2 x3 x4 x5 => ([(0, .v U2 x0), (1, .v U2 x1), (6, .own true 3 U1 .no x2), (7, .v U2 x3), (8, .v U1 x4), (19, .v .bool x5)] : Env)
abbrev e69 := fun x0 x1 x2 x3 x4 x5 x6 => ([(0, .v U2 x0), (1, .v U2 x1), (6, .own true 3 U1 .no x2), (7, .v U2 x3), (8, .v U1 x4), (9, .v U1 x5), (10, .v U1 x6)] : Env)
abbrev e70 := fun x0 x1 x2 x3 x4 x5 x6 x7 => ([(0, .v U2 x0), (1, .v U2 x1), (6, .own true 3 U1 .no x2), (7, .v U2 x3), (8, .v U1 x4), (9, .v U1 x5), (10, .v U1 x6), (32, .v .bool x7)] : Env)
abbrev e71 := fun x0 x1 x2 x3 x4 x5 x6 x7 x8 => ([(0, .v U2 x0), (1, .v U2 x1), (6, .own true 3 U1 .no x2), (7, .v U2 x3), (8, .v U1 x4), (9, .v U1 x5), (10, .v U1 x6), (11, .v U1 x7), (44, .v .bool x8)] : Env)
abbrev e72 := fun x0 x1 x2 x3 x4 x5 => ([(0, .v U2 x0), (1, .v U2 x1), (6, .own true 3 U1 .no x2), (7, .v U2 x3), (8, .v U1 x4), (9, .v U1 x5)] : Env)
abbrev e73 := fun x0 x1 => ([(6, .own true 3 U1 .no x0), (7, .v U2 x1)] : Env)
abbrev e74 := fun x0 x1 => ([(4, .v U2 x0), (5, .v U2 x1)] : Env)
abbrev e75 := fun x0 x1 x2 x3 => ([(2, .loc U5 .no x0), (3, .loc U5 .no x1), (4, .loc U5 (.pair (.own true 3 .no) .no) x2), (5, .loc U5 (.pair (.own true 3 .no) .no) x3)] : Env)
abbrev e76 := fun x0 x1 x2 x3 x4 => ([(2, .loc U5 .no x0), (3, .loc U5 .no x1), (4, .loc U5 (.pair (.own true 3 .no) .no) x2), (5, .loc U5 (.pair (.own true 3 .no) .no) x3), (16, .v .bool x4)] : Env)
abbrev e77 := fun x0 x1 x2 => ([(4, .loc U5 (.pair (.own true 3 .no) .no) x0), (5, .loc U5 (.pair (.own true 3 .no) .no) x1), (6, .v U1 x2)] : Env)
abbrev e78 := fun x0 x1 x2 => ([(2, .dead), (3, .dead), (4, .loc U5 (.pair (.own true 3 .no) .no) x0), (5, .loc U5 (.pair (.own true 3 .no) .no) x1), (6, .v U1 x2)] : Env)
abbrev e79 := fun x0 x1 x2 x3 => ([(2, .loc U5 .no x0), (3, .loc U5 .no x1), (4, .loc U5 (.pair (.own true 3 .no) .no) x2), (5, .loc U5 (.pair (.own true 3 .no) .no) x3), (6, .dead)] : Env)
abbrev e80 := fun x0 x1 x2 x3 x4 => ([(2, .loc U5 .no x0), (3, .loc U5 .no x1), (4, .loc U5 (.pair (.own true 3 .no) .no) x2), (5, .loc U5 (.pair (.own true 3 .no) .no) x3), (22, .v .bool x4)] : Env)
abbrev e81 := fun x0 x1 x2 => ([(4, .loc U5 .no x0), (5, .loc U5 .no x1), (6, .v U1 x2)] : Env)
abbrev e82 := fun x0 x1 x2 => ([(0, .v .bool x0), (1, .v U5 x1), (2, .v U5 x2)] : Env)
abbrev e83 := fun x0 x1 => ([(0, .v U1 x0), (1, .v U1 x1)] : Env)
abbrev e84 := fun x0 x1 x2 => ([(0, .v U1 x0), (1, .v U1 x1), (4, .loc U12 (.pair .no (.pair (.pair (.own true 3 .no) .no) (.pair (.pair (.own true 3 .no) .no) .no))) x2)] : Env)
abbrev e85 := fun x0 x1 x2 x3 => ([(0, .v U1 x0), (1, .v U1 x1), (4, .loc U12 (.pair .no (.pair (.pair (.own true 3 .no) .no) (.pair (.pair (.own true 3 .no) .no) .no))) x2), (8, .v .bool x3)] : Env)
abbrev e86 := fun x0 x1 => ([(4, .loc U12 .no x0), (5, .v U1 x1)] : Env)
abbrev e87 := fun x0 x1 => ([(0, .dead), (1, .dead), (4, .loc U12 .no x0), (5, .v U1 x1)] : Env)
abbrev e88 := fun x0 x1 x2 => ([(0, .v U1 x0), (1, .v U1 x1), (4, .loc U12 (.pair .no (.pair (.pair (.own true 3 .no) .no) (.pair (.pair (.own true 3 .no) .no) .no))) x2), (5, .dead)] : Env)
abbrev e89 := fun x0 x1 x2 x3 => ([(0, .v U1 x0), (1, .v U1 x1), (4, .loc U12 (.pair .no (.pair (.pair (.own true 3 .no) .no) (.pair (.pair (.own true 3 .no) .no) .no))) x2), (23, .v .bool x3)] : Env)
abbrev e90 := fun x0 x1 x2 x3 => ([(0, .v U1 x0), (1, .v U1 x1), (4, .loc U12 (.pair .no (.pair (.pair (.own true 3 .no) .no) (.pair (.pair (.own true 3 .no) .no) .no))) x2), (6, .v .bool x3)] : Env)
abbrev e91 := fun x0 x1 x2 x3 x4 => ([(0, .v U1 x0), (1, .v U1 x1), (4, .loc U12 (.pair .no (.pair (.pair (.own true 3 .no) .no) (.pair (.pair (.own true 3 .no) .no) .no))) x2), (6, .v .bool x3), (31, .v .bool x4)] : Env)
abbrev e92 := fun x0 x1 x2 x3 x4 => ([(0, .v U1 x0), (1, .v U1 x1), (4, .loc U12 (.pair .no (.pair (.pair (.own true 3 .no) .no) (.pair (.pair (.own true 3 .no) .no) .no))) x2), (6, .v .bool x3), (35, .v .bool x4)] : Env)
abbrev e93 := fun x0 x1 => ([(0, .v U2 x0), (1, .v U6 x1)] : Env)
abbrev e94 := fun x0 x1 x2 x3 => ([(0, .v U2 x0), (1, .v U6 x1), (7, .v U1 x2), (8, .v U1 x3)] : Env)
abbrev e95 := fun x0 x1 x2 x3 x4 => ([(0, .v U2 x0), (1, .v U6 x1), (7, .v U1 x2), (8, .v U1 x3), (9, .v .bool x4)] : Env)
abbrev e96 := fun x0 x1 x2 x3 x4 x5 => ([(0, .v U2 x0), (1, .v U6 x1), (5, .v U1 x2), (7, .v U1 x3), (8, .v U1 x4), (16, .v .bool x5)] : Env)
abbrev e97 := fun x0 => ([(0, .dead), (1, .dead), (4, .v U1 x0), (7, .dead), (8, .dead)] : Env)
abbrev e98 := fun x0 x1 x2 x3 => ([(0, .v U2 x0), (1, .v U6 x1), (4, .dead), (7, .v U1 x2), (8, .v U1 x3)] : Env)
abbrev e99 := fun x0 x1 => ([(3, .v U2 x0), (22, .v .bool x1)] : Env)
abbrev e100 := fun x0 x1 x2 x3 x4 => ([(1, .v U2 x0), (5, .own true 3 U1 .no x1), (17, .v U2 x2), (18, .v U1 x3), (19, .v U1 x4)] : Env)
abbrev e101 := fun x0 x1 x2 x3 x4 x5 => ([(1, .v U2 x0), (5, .own true 3 U1 .no x1), (17, .v U2 x2), (18, .v U1 x3), (19, .v U1 x4), (20, .v .bool x5)] : Env)
abbrev e102 := fun x0 x1 x2 x3 x4 x5 x6 x7 => ([(1, .v U2 x0), (5, .own true 3 U1 .no x1), (6, .v U1 x2), (7, .v U1 x3), (8, .v U1 x4), (17, .v U2 x5), (18, .v U1 x6), (19, .v U1 x7)] : Env)
abbrev e103 := fun x0 x1 x2 x3 x4 x5 x6 x7 x8 x9 x10 => ([(1, .v U2 x0), (5, .own true 3 U1 .no x1), (6, .v U1 x2), (7, .v U1 x3), (8, .v U1 x4), (17, .v U2 x5), (18, .v U1 x6), (19, .v U1 x7), (24, .v U2 x8), (25, .v U1 x9), (26, .v U1 x10)] : Env)
abbrev e104 := fun x0 x1 x2 x3 x4 x5 x6 x7 x8 x9 x10 x11 => ([(1, .v U2 x0), (5, .own true 3 U1 .no x1), (6, .v U1 x2), (7, .v U1 x3), (8, .v U1 x4), (17, .v U2 x5), (18, .v U1 x6), (19, .v U1 x7), (24, .v U2 x8), (25, .v U1 x9), (26, .v U1 x10), (27, .v .bool x11)] : Env)
abbrev e105 := fun x0 x1 x2 x3 x4 x5 x6 => ([(1, .v U2 x0), (5, .own true 3 U1 .no x1), (6, .v U1 x2), (8, .v U1 x3), (17, .v U2 x4), (18, .v U1 x5), (19, .v U1 x6)] : Env)
abbrev e106 := fun x0 x1 x2 x3 x4 => ([(1, .v U2 x0), (5, .own true 3 U1 .no x1), (6, .v U1 x2), (11, .v U1 x3), (12, .v U1 x4)] : Env)
abbrev e107 := fun x0 x1 x2 x3 x4 x5 => ([(1, .v U2 x0), (5, .own true 3 U1 .no x1), (6, .v U1 x2), (11, .v U1 x3), (12, .v U1 x4), (13, .v .bool x5)] : Env)
abbrev e108 := fun x0 x1 x2 x3 x4 => ([(1, .v U2 x0), (5, .own true 3 U1 .no x1), (7, .v U1 x2), (11, .v U1 x3), (12, .v U1 x4)] : Env)
abbrev e109 := fun x0 x1 x2 x3 x4 x5 => ([(1, .v U2 x0), (5, .own true 3 U1 .no x1), (7, .v U1 x2), (11, .v U1 x3), (12, .v U1 x4), (25, .v .bool x5)] : Env)
abbrev e110 := fun x0 x1 x2 x3 x4 x5 x6 => ([(1, .v U2 x0), (5, .own true 3 U1 .no x1), (6, .v U1 x2), (7, .v U1 x3), (11, .v U1 x4), (12, .v U1 x5), (40, .v .bool x6)] : Env)
abbrev e111 := fun x0 x1 x2 x3 x4 x5 => ([(0, .v U2 x0), (1, .v U2 x1), (6, .own true 3 U1 .no x2), (7, .v U2 x3), (8, .v U1 x4), (16, .v .bool x5)] : Env)
abbrev e112 := fun x0 x1 x2 x3 x4 x5 x6 x7 => ([(0, .v U2 x0), (1, .v U2 x1), (6, .own true 3 U1 .no x2), (7, .v U2 x3), (8, .v U1 x4), (9, .v U1 x5), (10, .v U1 x6), (29, .v .bool x7)] : Env)
abbrev e113 := fun x0 x1 x2 x3 x4 x5 x6 x7 x8 => ([(0, .v U2 x0), (1, .v U2 x1), (6, .own true 3 U1 .no x2), (7, .v U2 x3), (8, .v U1 x4), (9, .v U1 x5), (10, .v U1 x6), (11, .v U1 x7), (41, .v .bool x8)] : Env)
abbrev e114 := fun x0 x1 x2 x3 x4 x5 x6 => ([(0, .v U2 x0), (1, .v U2 x1), (6, .own true 3 U1 .no x2), (7, .v U2 x3), (8, .v U1 x4), (9, .v U1 x5), (46, .v .bool x6)] : Env)
abbrev e115 := fun x0 x1 => ([(0, .v U2 x0), (2, .loc U5 (.pair (.own true 3 .no) .no) x1)] : Env)
abbrev e116 := fun x0 x1 x2 => ([(0, .v U2 x0), (2, .loc U5 (.pair (.own true 3 .no) .no) x1), (7, .v .bool x2)] : Env)
abbrev e117 := fun x0 => ([(0, .dead), (2, .loc U5 (.pair (.own true 3 .no) .no) x0)] : Env)
abbrev e118 := fun x0 x1 x2 x3 => ([(2, .loc U5 .no x0), (3, .loc U5 .no x1), (4, .loc U5 (.pair (.own true 3 .no) .no) x2), (17, .v .bool x3)] : Env)
abbrev e119 := fun x0 x1 x2 x3 => ([(4, .loc U5 (.pair (.own true 3 .no) .no) x0), (6, .v U2 x1), (7, .v U2 x2), (27, .v .bool x3)] : Env)
abbrev e120 := fun x0 x1 => ([(4, .loc U5 (.pair (.own true 3 .no) .no) x0), (6, .v U2 x1)] : Env)
abbrev e121 := fun x0 x1 => ([(1, .loc U12 .no x0), (28, .v .bool x1)] : Env)
abbrev e122 := fun x0 => ([(1, .dead), (2, .v .bool x0)] : Env)
abbrev e123 := fun x0 => ([(1, .loc U12 .no x0), (2, .dead)] : Env)
abbrev e124 := fun x0 x1 => ([(1, .loc U5 .no x0), (6, .v .bool x1)] : Env)
abbrev e125 := fun x0 x1 => ([(1, .loc U12 .no x0), (7, .v .bool x1)] : Env)
abbrev e126 := fun x0 x1 x2 => ([(2, .v U1 x0), (3, .v U1 x1), (4, .v U1 x2)] : Env)
abbrev e127 := fun x0 x1 x2 => ([(1, .dead), (2, .v U1 x0), (3, .v U1 x1), (4, .v U1 x2)] : Env)
abbrev e128 := fun x0 => ([(1, .loc U12 .no x0), (2, .dead), (3, .dead), (4, .dead)] : Env)
abbrev e129 := fun x0 x1 => ([(1, .loc U12 .no x0), (24, .v .bool x1)] : Env)
abbrev e130 := fun x0 x1 x2 x3 x4 => ([(0, .v U1 x0), (1, .v U1 x1), (2, .v U1 x2), (3, .v U1 x3), (4, .v U12 x4)] : Env)
abbrev e131 := fun x0 x1 x2 x3 x4 x5 x6 => ([(0, .v U1 x0), (1, .v U1 x1), (2, .v U1 x2), (3, .v U1 x3), (13, .v U1 x4), (14, .v U1 x5), (15, .v U1 x6)] : Env)
abbrev e132 := fun x0 x1 x2 x3 x4 x5 x6 x7 => ([(0, .v U1 x0), (1, .v U1 x1), (2, .v U1 x2), (3, .v U1 x3), (13, .v U1 x4), (14, .v U1 x5), (15, .v U1 x6), (23, .v .bool x7)] : Env)
abbrev e133 := fun x0 x1 x2 => ([(10, .v U1 x0), (11, .v U1 x1), (12, .v U1 x2)] : Env)
abbrev e134 := fun x0 x1 x2 => ([(0, .dead), (1, .dead), (2, .dead), (3, .dead), (10, .v U1 x0), (11, .v U1 x1), (12, .v U1 x2), (13, .dead), (14, .dead)] : Env)
abbrev e135 := fun x0 x1 x2 x3 x4 x5 => ([(0, .v U1 x0), (1, .v U1 x1), (2, .v U1 x2), (3, .v U1 x3), (10, .dead), (11, .dead), (12, .dead), (13, .v U1 x4), (14, .v U1 x5)] : Env)
abbrev e136 := fun x0 x1 x2 => ([(13, .v U1 x0), (14, .v U1 x1), (40, .v .bool x2)] : Env)
abbrev e137 := fun x0 x1 x2 => ([(10, .v U1 x0), (11, .v U1 x1), (12, .v U1 x2), (13, .dead), (14, .dead)] : Env)
abbrev e138 := fun x0 x1 => ([(10, .dead), (11, .dead), (12, .dead), (13, .v U1 x0), (14, .v U1 x1)] : Env)
abbrev e139 := fun x0 x1 x2 => ([(0, .v U2 x0), (2, .loc U5 (.pair (.own true 3 .no) .no) x1), (6, .v .bool x2)] : Env)
abbrev e140 := fun x0 x1 => ([(0, .v U2 x0), (2, .loc U5 (.pair (.own true 3 .no) .no) x1), (3, .dead)] : Env)
abbrev e141 := fun x0 x1 x2 => ([(0, .v U1 x0), (1, .v U1 x1), (4, .loc U5 (.pair (.own true 3 .no) .no) x2)] : Env)
abbrev e142 := fun x0 x1 x2 x3 => ([(0, .v U1 x0), (1, .v U1 x1), (4, .loc U5 (.pair (.own true 3 .no) .no) x2), (22, .v .bool x3)] : Env)
abbrev e143 := fun x0 x1 => ([(0, .dead), (1, .dead), (4, .loc U5 (.pair (.own true 3 .no) .no) x0), (5, .v U1 x1)] : Env)
abbrev e144 := fun x0 x1 x2 => ([(0, .v U1 x0), (1, .v U1 x1), (4, .loc U5 (.pair (.own true 3 .no) .no) x2), (5, .dead)] : Env)
abbrev e145 := fun x0 x1 x2 x3 => ([(0, .v U1 x0), (1, .v U1 x1), (4, .loc U5 (.pair (.own true 3 .no) .no) x2), (6, .v U2 x3)] : Env)
abbrev e146 := fun x0 x1 x2 x3 x4 => ([(0, .v U1 x0), (1, .v U1 x1), (4, .loc U5 (.pair (.own true 3 .no) .no) x2), (6, .v U2 x3), (7, .v U1 x4)] : Env)
abbrev e147 := fun x0 x1 x2 x3 x4 x5 => ([(0, .v U1 x0), (1, .v U1 x1), (4, .loc U5 (.pair (.own true 3 .no) .no) x2), (6, .v U2 x3), (7, .v U1 x4), (31, .v .bool x5)] : Env)
abbrev e148 := fun x0 x1 x2 x3 => ([(0, .v U1 x0), (1, .v U1 x1), (4, .loc U5 (.pair (.own true 3 .no) .no) x2), (13, .v .bool x3)] : Env)
abbrev e149 := fun x0 => ([(0, .dead), (1, .dead), (4, .loc U5 .no x0)] : Env)
abbrev e150 := fun x0 x1 x2 x3 => ([(2, .loc U5 .no x0), (3, .loc U5 .no x1), (4, .loc U5 (.pair (.own true 3 .no) .no) x2), (13, .v .bool x3)] : Env)
abbrev e151 := fun x0 x1 x2 x3 => ([(1, .v U1 x0), (4, .loc U5 (.pair (.own true 3 .no) .no) x1), (5, .loc U5 .no x2), (6, .loc U5 .no x3)] : Env)
abbrev e152 := fun x0 x1 x2 x3 x4 => ([(4, .loc U5 (.pair (.own true 3 .no) .no) x0), (5, .loc U5 .no x1), (6, .loc U5 .no x2), (10, .v U1 x3), (11, .v U1 x4)] : Env)
abbrev e153 := fun x0 x1 x2 x3 x4 x5 => ([(4, .loc U5 (.pair (.own true 3 .no) .no) x0), (5, .loc U5 .no x1), (6, .loc U5 .no x2), (10, .v U1 x3), (11, .v U1 x4), (12, .v .bool x5)] : Env)
abbrev e154 := fun x0 x1 => ([(4, .loc U5 (.pair (.own true 3 .no) .no) x0), (5, .loc U5 .no x1)] : Env)
abbrev e155 := fun x0 x1 x2 x3 => ([(0, .v U1 x0), (1, .v U1 x1), (2, .v U1 x2), (3, .v U1 x3)] : Env)
abbrev e156 := fun x0 x1 x2 x3 x4 => ([(2, .loc U5 .no x0), (3, .loc U5 .no x1), (4, .loc U5 (.pair (.own true 3 .no) .no) x2), (5, .loc U5 (.pair (.own true 3 .no) .no) x3), (9, .v .bool x4)] : Env)
abbrev e157 := fun x0 x1 x2 x3 x4 => ([(2, .loc U5 .no x0), (3, .loc U5 .no x1), (4, .loc U5 (.pair (.own true 3 .no) .no) x2), (5, .loc U5 (.pair (.own true 3 .no) .no) x3), (20, .v .bool x4)] : Env)
abbrev e158 := fun x0 x1 x2 => ([(2, .loc U5 .no x0), (3, .loc U5 .no x1), (4, .loc U12 (.pair .no (.pair (.pair (.own true 3 .no) .no) (.pair (.pair (.own true 3 .no) .no) .no))) x2)] : Env)
abbrev e159 := fun x0 x1 x2 x3 => ([(2, .loc U5 .no x0), (3, .loc U5 .no x1), (4, .loc U12 (.pair .no (.pair (.pair (.own true 3 .no) .no) (.pair (.pair (.own true 3 .no) .no) .no))) x2), (13, .v .bool x3)] : Env)
abbrev e160 := fun x0 x1 => ([(2, .dead), (3, .dead), (4, .loc U12 .no x0), (5, .v U1 x1)] : Env)
abbrev e161 := fun x0 x1 x2 => ([(2, .loc U5 .no x0), (3, .loc U5 .no x1), (4, .loc U12 (.pair .no (.pair (.pair (.own true 3 .no) .no) (.pair (.pair (.own true 3 .no) .no) .no))) x2), (5, .dead)] : Env)
abbrev e162 := fun x0 x1 x2 x3 => ([(2, .loc U5 .no x0), (3, .loc U5 .no x1), (4, .loc U12 (.pair .no (.pair (.pair (.own true 3 .no) .no) (.pair (.pair (.own true 3 .no) .no) .no))) x2), (16, .v .bool x3)] : Env)
abbrev e163 := fun x0 x1 => ([(0, .v U1 x0), (1, .v U12 x1)] : Env)
abbrev e164 := fun x0 x1 x2 x3 => ([(0, .v U1 x0), (6, .v U1 x1), (7, .v U1 x2), (8, .v U1 x3)] : Env)
abbrev e165 := fun x0 x1 x2 x3 x4 => ([(0, .v U1 x0), (6, .v U1 x1), (7, .v U1 x2), (8, .v U1 x3), (21, .v .bool x4)] : Env)
abbrev e166 := fun x0 x1 => ([(4, .own true 26 U12 .no x0), (5, .v U1 x1)] : Env)
abbrev e167 := fun x0 x1 => ([(0, .dead), (4, .own true 26 U12 .no x0), (5, .v U1 x1), (6, .dead), (7, .dead)] : Env)
abbrev e168 := fun x0 x1 x2 => ([(0, .v U1 x0), (4, .dead), (5, .dead), (6, .v U1 x1), (7, .v U1 x2)] : Env)
abbrev e169 := fun x0 x1 x2 x3 x4 x5 => ([(0, .v U1 x0), (6, .v U1 x1), (7, .v U1 x2), (9, .own true 26 U12 .no x3), (24, .v U1 x4), (25, .v U1 x5)] : Env)
abbrev e170 := fun x0 x1 x2 x3 x4 x5 x6 => ([(0, .v U1 x0), (6, .v U1 x1), (7, .v U1 x2), (9, .own true 26 U12 .no x3), (24, .v U1 x4), (25, .v U1 x5), (26, .v .bool x6)] : Env)
abbrev e171 := fun x0 x1 x2 x3 x4 x5 x6 x7 => ([(0, .v U1 x0), (6, .v U1 x1), (7, .v U1 x2), (9, .own true 26 U12 .no x3), (11, .loc U12 .no x4), (12, .v U1 x5), (24, .v U1 x6), (25, .v U1 x7)] : Env)
abbrev e172 := fun x0 x1 x2 x3 x4 x5 x6 x7 x8 => ([(0, .v U1 x0), (6, .v U1 x1), (7, .v U1 x2), (9, .own true 26 U12 .no x3), (11, .loc U12 .no x4), (12, .v U1 x5), (24, .v U1 x6), (25, .v U1 x7), (41, .v .bool x8)] : Env)
abbrev e173 := fun x0 x1 => ([(0, .dead), (4, .own true 26 U12 .no x0), (5, .v U1 x1), (6, .dead), (7, .dead), (9, .dead), (11, .dead), (24, .dead), (25, .dead)] : Env)
abbrev e174 := fun x0 x1 x2 x3 x4 x5 x6 => ([(0, .v U1 x0), (4, .dead), (5, .dead), (6, .v U1 x1), (7, .v U1 x2), (9, .own true 26 U12 .no x3), (11, .loc U12 .no x4), (24, .v U1 x5), (25, .v U1 x6)] : Env)
abbrev e175 := fun x0 x1 => ([(0, .dead), (4, .own true 26 U12 .no x0), (5, .v U1 x1), (6, .dead), (7, .dead), (9, .dead), (24, .dead), (25, .dead)] : Env)
abbrev e176 := fun x0 x1 x2 x3 x4 x5 => ([(0, .v U1 x0), (4, .dead), (5, .dead), (6, .v U1 x1), (7, .v U1 x2), (9, .own true 26 U12 .no x3), (24, .v U1 x4), (25, .v U1 x5)] : Env)
abbrev e177 := fun x0 x1 => ([(4, .own true 26 U12 .no x0), (5, .v U1 x1), (9, .dead)] : Env)
abbrev e178 := fun x0 => ([(4, .dead), (5, .dead), (9, .own true 26 U12 .no x0)] : Env)
abbrev e179 := fun x0 x1 => ([(4, .ref 9 []), (5, .v U1 x0), (9, .own true 26 U12 .no x1)] : Env)
abbrev e180 := fun x0 x1 x2 x3 => ([(0, .v U5 x0), (1, .v U5 x1), (2, .v U5 x2), (3, .v U5 x3)] : Env)
abbrev e181 := fun x0 x1 x2 x3 x4 x5 => ([(6, .loc U5 .no x0), (7, .loc U5 .no x1), (8, .loc U5 .no x2), (9, .loc U5 .no x3), (11, .loc U5 .no x4), (12, .v U1 x5)] : Env)
abbrev e182 := fun x0 x1 x2 x3 x4 x5 x6 => ([(6, .loc U5 .no x0), (7, .loc U5 .no x1), (8, .loc U5 .no x2), (9, .loc U5 .no x3), (11, .loc U5 .no x4), (12, .v U1 x5), (21, .v .bool x6)] : Env)
abbrev e183 := fun x0 x1 x2 => ([(8, .loc U5 .no x0), (9, .loc U5 .no x1), (10, .v U1 x2)] : Env)
abbrev e184 := fun x0 x1 x2 => ([(6, .dead), (7, .dead), (8, .loc U5 .no x0), (9, .loc U5 .no x1), (10, .v U1 x2), (11, .dead)] : Env)
abbrev e185 := fun x0 x1 x2 x3 x4 => ([(6, .loc U5 .no x0), (7, .loc U5 .no x1), (8, .loc U5 .no x2), (9, .loc U5 .no x3), (10, .dead), (11, .loc U5 .no x4)] : Env)
abbrev e186 := fun x0 x1 => ([(0, .v U12 x0), (1, .v U12 x1)] : Env)
abbrev e187 := fun x0 x1 x2 => ([(2, .loc U12 .no x0), (3, .loc U12 .no x1), (4, .loc U12 (.pair .no (.pair (.pair (.own true 3 .no) .no) (.pair (.pair (.own true 3 .no) .no) .no))) x2)] : Env)
abbrev e188 := fun x0 x1 x2 x3 => ([(2, .loc U12 .no x0), (3, .loc U12 .no x1), (4, .loc U12 (.pair .no (.pair (.pair (.own true 3 .no) .no) (.pair (.pair (.own true 3 .no) .no) .no))) x2), (23, .v .bool x3)] : Env)
abbrev e189 := fun x0 x1 x2 => ([(2, .loc U12 .no x0), (3, .loc U12 .no x1), (4, .loc U12 (.pair .no (.pair (.pair (.own true 3 .no) .no) (.pair (.pair (.own true 3 .no) .no) .no))) x2), (5, .dead)] : Env)
abbrev e190 := fun x0 x1 x2 x3 x4 x5 => ([(2, .loc U12 .no x0), (3, .loc U12 .no x1), (4, .loc U12 (.pair .no (.pair (.pair (.own true 3 .no) .no) (.pair (.pair (.own true 3 .no) .no) .no))) x2), (6, .loc U5 .no x3), (7, .loc U5 .no x4), (8, .v U1 x5)] : Env)
abbrev e191 := fun x0 x1 x2 x3 x4 x5 x6 => ([(2, .loc U12 .no x0), (3, .loc U12 .no x1), (4, .loc U12 (.pair .no (.pair (.pair (.own true 3 .no) .no) (.pair (.pair (.own true 3 .no) .no) .no))) x2), (6, .loc U5 .no x3), (7, .loc U5 .no x4), (8, .v U1 x5), (39, .v .bool x6)] : Env)
abbrev e192 := fun x0 x1 => ([(2, .dead), (3, .dead), (4, .loc U12 .no x0), (5, .v U1 x1), (6, .dead), (7, .dead)] : Env)
abbrev e193 := fun x0 x1 x2 x3 x4 => ([(2, .loc U12 .no x0), (3, .loc U12 .no x1), (4, .loc U12 (.pair .no (.pair (.pair (.own true 3 .no) .no) (.pair (.pair (.own true 3 .no) .no) .no))) x2), (5, .dead), (6, .loc U5 .no x3), (7, .loc U5 .no x4)] : Env)
abbrev e194 := fun x0 x1 x2 x3 x4 x5 x6 => ([(2, .loc U12 .no x0), (3, .loc U12 .no x1), (4, .loc U12 (.pair .no (.pair (.pair (.own true 3 .no) .no) (.pair (.pair (.own true 3 .no) .no) .no))) x2), (6, .loc U5 .no x3), (7, .loc U5 .no x4), (8, .v U1 x5), (9, .loc U5 .no x6)] : Env)
abbrev e195 := fun x0 x1 x2 x3 x4 x5 x6 x7 => ([(2, .loc U12 .no x0), (3, .loc U12 .no x1), (4, .loc U12 (.pair .no (.pair (.pair (.own true 3 .no) .no) (.pair (.pair (.own true 3 .no) .no) .no))) x2), (6, .loc U5 .no x3), (7, .loc U5 .no x4), (8, .v U1 x5), (9, .loc U5 .no x6), (51, .v .bool x7)] : Env)
abbrev e196 := fun x0 x1 => ([(2, .dead), (3, .dead), (4, .loc U12 .no x0), (5, .v U1 x1), (6, .dead), (7, .dead), (9, .dead)] : Env)
abbrev e197 := fun x0 x1 x2 x3 x4 x5 => ([(2, .loc U12 .no x0), (3, .loc U12 .no x1), (4, .loc U12 (.pair .no (.pair (.pair (.own true 3 .no) .no) (.pair (.pair (.own true 3 .no) .no) .no))) x2), (5, .dead), (6, .loc U5 .no x3), (7, .loc U5 .no x4), (9, .loc U5 .no x5)] : Env)
abbrev e198 := fun x0 x1 x2 x3 x4 x5 x6 => ([(2, .loc U12 .no x0), (3, .loc U12 .no x1), (4, .loc U12 (.pair .no (.pair (.pair (.own true 3 .no) .no) (.pair (.pair (.own true 3 .no) .no) .no))) x2), (6, .loc U5 .no x3), (7, .loc U5 .no x4), (9, .loc U5 .no x5), (58, .v .bool x6)] : Env)
abbrev e199 := fun x0 x1 x2 x3 x4 => ([(2, .loc U12 .no x0), (4, .loc U12 (.pair .no (.pair (.pair (.own true 3 .no) .no) (.pair (.pair (.own true 3 .no) .no) .no))) x1), (9, .loc U5 .no x2), (10, .loc U5 .no x3), (11, .v U1 x4)] : Env)
abbrev e200 := fun x0 x1 x2 x3 x4 x5 => ([(2, .loc U12 .no x0), (4, .loc U12 (.pair .no (.pair (.pair (.own true 3 .no) .no) (.pair (.pair (.own true 3 .no) .no) .no))) x1), (9, .loc U5 .no x2), (10, .loc U5 .no x3), (11, .v U1 x4), (66, .v .bool x5)] : Env)
abbrev e201 := fun x0 x1 => ([(2, .dead), (4, .loc U12 .no x0), (5, .v U1 x1), (9, .dead), (10, .dead)] : Env)
abbrev e202 := fun x0 x1 x2 x3 => ([(2, .loc U12 .no x0), (4, .loc U12 (.pair .no (.pair (.pair (.own true 3 .no) .no) (.pair (.pair (.own true 3 .no) .no) .no))) x1), (5, .dead), (9, .loc U5 .no x2), (10, .loc U5 .no x3)] : Env)
abbrev e203 := fun x0 x1 x2 x3 x4 x5 x6 => ([(2, .loc U12 .no x0), (3, .loc U12 .no x1), (4, .loc U12 (.pair .no (.pair (.pair (.own true 3 .no) .no) (.pair (.pair (.own true 3 .no) .no) .no))) x2), (6, .loc U5 .no x3), (7, .loc U5 .no x4), (9, .loc U5 .no x5), (77, .v .bool x6)] : Env)
abbrev e204 := fun x0 x1 => ([(3, .dead), (4, .loc U12 .no x0), (5, .v U1 x1), (6, .dead), (7, .dead), (9, .dead)] : Env)
abbrev e205 := fun x0 x1 x2 x3 x4 => ([(3, .loc U12 .no x0), (4, .loc U12 (.pair .no (.pair (.pair (.own true 3 .no) .no) (.pair (.pair (.own true 3 .no) .no) .no))) x1), (5, .dead), (6, .loc U5 .no x2), (7, .loc U5 .no x3), (9, .loc U5 .no x4)] : Env)
abbrev e206 := fun x0 x1 => ([(0, .v U13 x0), (2, .loc U12 (.pair .no (.pair (.pair (.own true 3 .no) .no) (.pair (.pair (.own true 3 .no) .no) .no))) x1)] : Env)
abbrev e207 := fun x0 x1 x2 => ([(0, .v U13 x0), (2, .loc U12 (.pair .no (.pair (.pair (.own true 3 .no) .no) (.pair (.pair (.own true 3 .no) .no) .no))) x1), (4, .v U1 x2)] : Env)
abbrev e208 := fun x0 x1 x2 x3 => ([(0, .v U13 x0), (2, .loc U12 (.pair .no (.pair (.pair (.own true 3 .no) .no) (.pair (.pair (.own true 3 .no) .no) .no))) x1), (4, .v U1 x2), (12, .v .bool x3)] : Env)
abbrev e209 := fun x0 x1 x2 x3 => ([(0, .v U13 x0), (2, .loc U12 (.pair .no (.pair (.pair (.own true 3 .no) .no) (.pair (.pair (.own true 3 .no) .no) .no))) x1), (4, .v U1 x2), (20, .v .bool x3)] : Env)
abbrev e210 := fun x0 x1 => ([(2, .loc U12 .no x0), (3, .v U1 x1)] : Env)
abbrev e211 := fun x0 x1 => ([(0, .dead), (2, .loc U12 .no x0), (3, .v U1 x1), (4, .dead)] : Env)
abbrev e212 := fun x0 x1 x2 => ([(0, .v U13 x0), (2, .loc U12 (.pair .no (.pair (.pair (.own true 3 .no) .no) (.pair (.pair (.own true 3 .no) .no) .no))) x1), (3, .dead), (4, .v U1 x2)] : Env)
abbrev e213 := fun x0 x1 => ([(0, .dead), (2, .loc U12 .no x0), (3, .v U1 x1)] : Env)
abbrev e214 := fun x0 x1 => ([(0, .v U13 x0), (2, .loc U12 (.pair .no (.pair (.pair (.own true 3 .no) .no) (.pair (.pair (.own true 3 .no) .no) .no))) x1), (3, .dead)] : Env)
abbrev e215 := fun x0 x1 x2 => ([(0, .v U13 x0), (2, .loc U12 (.pair .no (.pair (.pair (.own true 3 .no) .no) (.pair (.pair (.own true 3 .no) .no) .no))) x1), (5, .loc U12 .no x2)] : Env)
abbrev e216 := fun x0 x1 x2 x3 => ([(0, .v U13 x0), (2, .loc U12 (.pair .no (.pair (.pair (.own true 3 .no) .no) (.pair (.pair (.own true 3 .no) .no) .no))) x1), (5, .loc U12 .no x2), (6, .v U1 x3)] : Env)
abbrev e217 := fun x0 x1 x2 x3 x4 => ([(0, .v U13 x0), (2, .loc U12 (.pair .no (.pair (.pair (.own true 3 .no) .no) (.pair (.pair (.own true 3 .no) .no) .no))) x1), (5, .loc U12 .no x2), (6, .v U1 x3), (26, .v .bool x4)] : Env)
abbrev e218 := fun x0 x1 x2 x3 x4 x5 => ([(0, .v U13 x0), (2, .loc U12 (.pair .no (.pair (.pair (.own true 3 .no) .no) (.pair (.pair (.own true 3 .no) .no) .no))) x1), (5, .loc U12 .no x2), (6, .v U1 x3), (7, .loc U12 .no x4), (8, .v U1 x5)] : Env)
abbrev e219 := fun x0 x1 x2 x3 x4 x5 x6 => ([(0, .v U13 x0), (2, .loc U12 (.pair .no (.pair (.pair (.own true 3 .no) .no) (.pair (.pair (.own true 3 .no) .no) .no))) x1), (5, .loc U12 .no x2), (6, .v U1 x3), (7, .loc U12 .no x4), (8, .v U1 x5), (39, .v .bool x6)] : Env)
abbrev e220 := fun x0 x1 => ([(0, .dead), (2, .loc U12 .no x0), (3, .v U1 x1), (5, .dead), (6, .dead), (7, .dead)] : Env)
abbrev e221 := fun x0 x1 x2 x3 x4 => ([(0, .v U13 x0), (2, .loc U12 (.pair .no (.pair (.pair (.own true 3 .no) .no) (.pair (.pair (.own true 3 .no) .no) .no))) x1), (3, .dead), (5, .loc U12 .no x2), (6, .v U1 x3), (7, .loc U12 .no x4)] : Env)
abbrev e222 := fun x0 x1 => ([(0, .dead), (2, .loc U12 .no x0), (3, .v U1 x1), (5, .dead), (6, .dead)] : Env)
abbrev e223 := fun x0 x1 x2 x3 => ([(0, .v U13 x0), (2, .loc U12 (.pair .no (.pair (.pair (.own true 3 .no) .no) (.pair (.pair (.own true 3 .no) .no) .no))) x1), (3, .dead), (5, .loc U12 .no x2), (6, .v U1 x3)] : Env)
abbrev e224 := fun x0 x1 => ([(2, .loc U12 .no x0), (3, .v U1 x1), (5, .dead)] : Env)
abbrev e225 := fun x0 x1 => ([(2, .loc U12 (.pair .no (.pair (.pair (.own true 3 .no) .no) (.pair (.pair (.own true 3 .no) .no) .no))) x0), (3, .dead), (5, .loc U12 .no x1)] : Env)
abbrev e226 := fun x0 x1 x2 => ([(2, .loc U12 (.pair .no (.pair (.pair (.own true 3 .no) .no) (.pair (.pair (.own true 3 .no) .no) .no))) x0), (3, .loc U12 .no x1), (4, .v U1 x2)] : Env)
abbrev e227 := fun x0 x1 x2 => ([(2, .loc U12 (.pair .no (.pair (.pair (.own true 3 .no) .no) (.pair (.pair (.own true 3 .no) .no) .no))) x0), (3, .loc U12 .no x1), (11, .v .bool x2)] : Env)
abbrev e228 := fun x0 => ([(2, .loc U12 .no x0), (3, .dead)] : Env)
abbrev e229 := fun x0 x1 => ([(2, .loc U12 (.pair .no (.pair (.pair (.own true 3 .no) .no) (.pair (.pair (.own true 3 .no) .no) .no))) x0), (3, .loc U12 .no x1)] : Env)
abbrev e230 := fun x0 x1 x2 => ([(0, .v U2 x0), (1, .v U2 x1), (13, .v .bool x2)] : Env)
abbrev e231 := fun x0 x1 x2 x3 x4 x5 => ([(1, .v U2 x0), (5, .own true 3 U1 .no x1), (6, .v U1 x2), (20, .v U2 x3), (21, .v U1 x4), (22, .v U1 x5)] : Env)
abbrev e232 := fun x0 x1 x2 x3 x4 x5 x6 => ([(1, .v U2 x0), (5, .own true 3 U1 .no x1), (6, .v U1 x2), (20, .v U2 x3), (21, .v U1 x4), (22, .v U1 x5), (23, .v .bool x6)] : Env)
abbrev e233 := fun x0 x1 x2 x3 x4 x5 x6 => ([(1, .v U2 x0), (5, .own true 3 U1 .no x1), (6, .v U1 x2), (7, .v U1 x3), (20, .v U2 x4), (21, .v U1 x5), (22, .v U1 x6)] : Env)
abbrev e234 := fun x0 x1 x2 x3 x4 x5 x6 x7 => ([(1, .v U2 x0), (5, .own true 3 U1 .no x1), (6, .v U1 x2), (7, .v U1 x3), (20, .v U2 x4), (21, .v U1 x5), (22, .v U1 x6), (33, .v .bool x7)] : Env)
abbrev e235 := fun x0 x1 x2 => ([(5, .own true 3 U1 .no x0), (6, .v U1 x1), (49, .v .bool x2)] : Env)
abbrev e236 := fun x0 => ([(4, .ref 5 []), (5, .own true 3 U1 .no x0)] : Env)
abbrev e237 := fun x0 x1 x2 => ([(0, .v U1 x0), (1, .v U1 x1), (2, .v U12 x2)] : Env)
abbrev e238 := fun x0 x1 x2 x3 x4 x5 => ([(0, .v U1 x0), (1, .v U1 x1), (6, .loc U12 (.pair .no (.pair (.pair (.own true 3 .no) .no) (.pair (.pair (.own true 3 .no) .no) .no))) x2), (8, .v U1 x3), (9, .v U1 x4), (10, .v U1 x5)] : Env)
abbrev e239 := fun x0 x1 x2 x3 x4 x5 x6 => ([(0, .v U1 x0), (1, .v U1 x1), (6, .loc U12 (.pair .no (.pair (.pair (.own true 3 .no) .no) (.pair (.pair (.own true 3 .no) .no) .no))) x2), (8, .v U1 x3), (9, .v U1 x4), (10, .v U1 x5), (23, .v .bool x6)] : Env)
abbrev e240 := fun x0 x1 => ([(6, .loc U12 .no x0), (7, .v U1 x1)] : Env)
abbrev e241 := fun x0 x1 => ([(0, .dead), (1, .dead), (6, .loc U12 .no x0), (7, .v U1 x1), (8, .dead), (9, .dead)] : Env)
abbrev e242 := fun x0 x1 x2 x3 x4 => ([(0, .v U1 x0), (1, .v U1 x1), (6, .loc U12 (.pair .no (.pair (.pair (.own true 3 .no) .no) (.pair (.pair (.own true 3 .no) .no) .no))) x2), (7, .dead), (8, .v U1 x3), (9, .v U1 x4)] : Env)
abbrev e243 := fun x0 x1 x2 x3 x4 x5 => ([(0, .v U1 x0), (1, .v U1 x1), (6, .loc U12 (.pair .no (.pair (.pair (.own true 3 .no) .no) (.pair (.pair (.own true 3 .no) .no) .no))) x2), (8, .v U1 x3), (9, .v U1 x4), (11, .loc U5 .no x5)] : Env)
abbrev e244 := fun x0 x1 x2 x3 x4 x5 => ([(0, .v U1 x0), (6, .loc U12 (.pair .no (.pair (.pair (.own true 3 .no) .no) (.pair (.pair (.own true 3 .no) .no) .no))) x1), (8, .v U1 x2), (9, .v U1 x3), (11, .loc U5 .no x4), (12, .v U1 x5)] : Env)
abbrev e245 := fun x0 x1 x2 x3 x4 x5 x6 => ([(0, .v U1 x0), (6, .loc U12 (.pair .no (.pair (.pair (.own true 3 .no) .no) (.pair (.pair (.own true 3 .no) .no) .no))) x1), (8, .v U1 x2), (9, .v U1 x3), (11, .loc U5 .no x4), (12, .v U1 x5), (30, .v .bool x6)] : Env)
abbrev e246 := fun x0 x1 x2 x3 => ([(0, .v U1 x0), (6, .loc U12 (.pair .no (.pair (.pair (.own true 3 .no) .no) (.pair (.pair (.own true 3 .no) .no) .no))) x1), (9, .v U1 x2), (11, .loc U5 .no x3)] : Env)
abbrev e247 := fun x0 x1 x2 x3 => ([(0, .v U1 x0), (1, .v U1 x1), (4, .loc U12 (.pair .no (.pair (.pair (.own true 3 .no) .no) (.pair (.pair (.own true 3 .no) .no) .no))) x2), (7, .v .bool x3)] : Env)
abbrev e248 := fun x0 x1 x2 x3 => ([(0, .v U1 x0), (1, .v U1 x1), (4, .loc U12 (.pair .no (.pair (.pair (.own true 3 .no) .no) (.pair (.pair (.own true 3 .no) .no) .no))) x2), (18, .v .bool x3)] : Env)
abbrev e249 := fun x0 x1 x2 x3 x4 => ([(0, .v U1 x0), (4, .loc U12 (.pair .no (.pair (.pair (.own true 3 .no) .no) (.pair (.pair (.own true 3 .no) .no) .no))) x1), (6, .v U1 x2), (7, .v U1 x3), (8, .v U1 x4)] : Env)
abbrev e250 := fun x0 x1 x2 x3 x4 x5 => ([(0, .v U1 x0), (4, .loc U12 (.pair .no (.pair (.pair (.own true 3 .no) .no) (.pair (.pair (.own true 3 .no) .no) .no))) x1), (6, .v U1 x2), (7, .v U1 x3), (8, .v U1 x4), (17, .v .bool x5)] : Env)
abbrev e251 := fun x0 x1 => ([(0, .dead), (4, .loc U12 .no x0), (5, .v U1 x1), (6, .dead), (7, .dead)] : Env)
abbrev e252 := fun x0 x1 x2 x3 => ([(0, .v U1 x0), (4, .loc U12 (.pair .no (.pair (.pair (.own true 3 .no) .no) (.pair (.pair (.own true 3 .no) .no) .no))) x1), (5, .dead), (6, .v U1 x2), (7, .v U1 x3)] : Env)
abbrev e253 := fun x0 x1 => ([(4, .v U1 x0), (5, .v U1 x1)] : Env)
abbrev e254 := fun x0 x1 => ([(0, .dead), (4, .v U1 x0), (5, .v U1 x1), (6, .dead), (7, .dead)] : Env)
abbrev e255 := fun x0 x1 x2 x3 x4 x5 => ([(0, .v U1 x0), (6, .v U1 x1), (7, .v U1 x2), (9, .v U1 x3), (10, .loc U5 .no x4), (11, .v U1 x5)] : Env)
abbrev e256 := fun x0 x1 x2 x3 x4 x5 x6 => ([(0, .v U1 x0), (6, .v U1 x1), (7, .v U1 x2), (9, .v U1 x3), (10, .loc U5 .no x4), (11, .v U1 x5), (29, .v .bool x6)] : Env)
abbrev e257 := fun x0 x1 x2 x3 x4 x5 x6 x7 => ([(0, .v U1 x0), (6, .v U1 x1), (7, .v U1 x2), (9, .v U1 x3), (10, .loc U5 .no x4), (11, .v U1 x5), (12, .loc U5 .no x6), (40, .v .bool x7)] : Env)
abbrev e258 := fun x0 x1 x2 x3 => ([(2, .loc U12 .no x0), (3, .loc U12 .no x1), (4, .loc U12 (.pair .no (.pair (.pair (.own true 3 .no) .no) (.pair (.pair (.own true 3 .no) .no) .no))) x2), (16, .v .bool x3)] : Env)
abbrev e259 := fun x0 x1 x2 x3 x4 x5 x6 => ([(2, .loc U12 .no x0), (3, .loc U12 .no x1), (4, .loc U12 (.pair .no (.pair (.pair (.own true 3 .no) .no) (.pair (.pair (.own true 3 .no) .no) .no))) x2), (6, .loc U5 .no x3), (7, .loc U5 .no x4), (8, .v U1 x5), (32, .v .bool x6)] : Env)
abbrev e260 := fun x0 x1 x2 x3 x4 x5 => ([(5, .loc U5 .no x0), (7, .loc U5 .no x1), (9, .loc U5 .no x2), (10, .loc U5 .no x3), (12, .loc U5 .no x4), (13, .loc U5 .no x5)] : Env)
abbrev e261 := fun x0 x1 x2 x3 x4 x5 => ([(5, .loc U5 .no x0), (7, .loc U5 .no x1), (10, .loc U5 .no x2), (13, .loc U5 .no x3), (15, .v U1 x4), (34, .v .bool x5)] : Env)
abbrev e262 := fun x0 => ([(5, .dead), (7, .dead), (8, .v U1 x0), (10, .dead), (13, .dead)] : Env)
abbrev e263 := fun x0 x1 x2 x3 => ([(5, .loc U5 .no x0), (7, .loc U5 .no x1), (8, .dead), (10, .loc U5 .no x2), (13, .loc U5 .no x3)] : Env)
abbrev e264 := fun x0 x1 x2 x3 x4 => ([(5, .loc U5 .no x0), (7, .loc U5 .no x1), (10, .loc U5 .no x2), (13, .loc U5 .no x3), (41, .v .bool x4)] : Env)
abbrev e265 := fun x0 x1 x2 => ([(2, .loc U12 .no x0), (3, .loc U12 .no x1), (12, .v .bool x2)] : Env)
abbrev e266 := fun x0 => ([(2, .dead), (3, .dead), (4, .v U1 x0)] : Env)
abbrev e267 := fun x0 x1 => ([(2, .loc U12 .no x0), (3, .loc U12 .no x1), (4, .dead)] : Env)
abbrev e268 := fun x0 x1 x2 => ([(2, .loc U12 .no x0), (3, .loc U12 .no x1), (17, .v .bool x2)] : Env)
abbrev e269 := fun x0 x1 x2 => ([(2, .loc U12 .no x0), (3, .loc U12 .no x1), (21, .v .bool x2)] : Env)
abbrev e270 := fun x0 x1 => ([(1, .loc U10 .no x0), (22, .v .bool x1)] : Env)
abbrev e271 := fun x0 x1 x2 x3 x4 => ([(1, .loc U10 .no x0), (3, .v U1 x1), (4, .loc U12 .no x2), (5, .v U13 x3), (6, .v U1 x4)] : Env)
abbrev e272 := fun x0 x1 x2 x3 x4 => ([(1, .loc U10 .no x0), (3, .v U1 x1), (4, .loc U12 .no x2), (5, .v U13 x3), (52, .v .bool x4)] : Env)
abbrev e273 := fun x0 => ([(1, .dead), (2, .v .bool x0), (3, .dead), (4, .dead), (5, .dead)] : Env)
abbrev e274 := fun x0 x1 x2 x3 => ([(1, .loc U10 .no x0), (2, .dead), (3, .v U1 x1), (4, .loc U12 .no x2), (5, .v U13 x3)] : Env)
abbrev e275 := fun x0 x1 x2 x3 x4 x5 x6 x7 x8 => ([(3, .v U1 x0), (5, .v U13 x1), (7, .v U1 x2), (8, .loc U12 .no x3), (9, .v U1 x4), (10, .loc U12 .no x5), (11, .v U1 x6), (12, .v U1 x7), (13, .v U1 x8)] : Env)
abbrev e276 := fun x0 x1 x2 x3 => ([(5, .v U13 x0), (10, .loc U12 .no x1), (12, .v U1 x2), (105, .v .bool x3)] : Env)
abbrev e277 := fun x0 => ([(2, .v .bool x0), (5, .dead), (10, .dead), (12, .dead)] : Env)
abbrev e278 := fun x0 x1 x2 x3 => ([(5, .v U13 x0), (10, .loc U12 .no x1), (12, .v U1 x2), (14, .own true 26 U12 .no x3)] : Env)
abbrev e279 := fun x0 x1 x2 x3 x4 x5 x6 => ([(5, .v U13 x0), (10, .loc U12 .no x1), (12, .v U1 x2), (14, .own true 26 U12 .no x3), (106, .v U13 x4), (107, .v U1 x5), (108, .v U1 x6)] : Env)
abbrev e280 := fun x0 x1 x2 x3 x4 x5 x6 x7 => ([(5, .v U13 x0), (10, .loc U12 .no x1), (12, .v U1 x2), (14, .own true 26 U12 .no x3), (106, .v U13 x4), (107, .v U1 x5), (108, .v U1 x6), (109, .v .bool x7)] : Env)
abbrev e281 := fun x0 x1 x2 x3 x4 x5 x6 x7 x8 x9 x10 => ([(5, .v U13 x0), (10, .loc U12 .no x1), (12, .v U1 x2), (14, .own true 26 U12 .no x3), (15, .v U1 x4), (16, .loc U12 .no x5), (19, .loc U12 .no x6), (20, .v U1 x7), (106, .v U13 x8), (107, .v U1 x9), (108, .v U1 x10)] : Env)
abbrev e282 := fun x0 x1 x2 x3 x4 x5 x6 x7 x8 => ([(5, .v U13 x0), (10, .loc U12 .no x1), (12, .v U1 x2), (14, .own true 26 U12 .no x3), (19, .loc U12 .no x4), (106, .v U13 x5), (107, .v U1 x6), (108, .v U1 x7), (148, .v .bool x8)] : Env)
abbrev e283 := fun x0 => ([(2, .v .bool x0), (5, .dead), (10, .dead), (12, .dead), (14, .dead), (19, .dead), (106, .dead), (107, .dead), (108, .dead)] : Env)
abbrev e284 := fun x0 x1 x2 x3 x4 x5 x6 x7 => ([(2, .dead), (5, .v U13 x0), (10, .loc U12 .no x1), (12, .v U1 x2), (14, .own true 26 U12 .no x3), (19, .loc U12 .no x4), (106, .v U13 x5), (107, .v U1 x6), (108, .v U1 x7)] : Env)
abbrev e285 := fun x0 => ([(2, .v .bool x0), (5, .dead), (10, .dead), (12, .dead), (14, .dead), (106, .dead), (107, .dead), (108, .dead)] : Env)
abbrev e286 := fun x0 x1 x2 x3 x4 x5 x6 => ([(2, .dead), (5, .v U13 x0), (10, .loc U12 .no x1), (12, .v U1 x2), (14, .own true 26 U12 .no x3), (106, .v U13 x4), (107, .v U1 x5), (108, .v U1 x6)] : Env)
abbrev e287 := fun x0 => ([(2, .v .bool x0), (10, .dead), (14, .dead)] : Env)
abbrev e288 := fun x0 x1 => ([(2, .dead), (10, .loc U12 .no x0), (14, .own true 26 U12 .no x1)] : Env)
variable {N : Nat} {cl : Cal} {R : Type} {K : KE R}
def g111_0 (k0 : Int → V5 → Option R) (x0 : Int) := k0 x0 ([], ())
theorem t111_0 (x0) : exec cl N c111_0 [(0, .v U1 x0)] K = g111_0 (fun y0 y1 => K .normal (e0 y0 y1)) x0 := by kernel_rfl
def g111_1 (k0 : Int → V5 → Bool → Option R) (x0 : Int) (x1 : V5) := k0 x0 x1 (decide (x0 < (0 : Int)))
theorem t111_1 (x0 x1) : exec cl N c111_1 (e0 x0 x1) K = g111_1 (fun y0 y1 y2 => K .normal (e1 y0 y1 y2)) x0 x1 := by kernel_rfl
def g111_2 (k0 : K3 R) (x0 : Int) (x1 : V5) (x2 : Bool) := k0 ([], ()) (6 : Int)
theorem t111_2 (x0 x1 x2) : exec cl N c111_2 (e1 x0 x1 x2) K = g111_2 (fun y0 y1 => K .normal (e2 y0 y1)) x0 x1 x2 := by kernel_rfl
theorem kp111_0 (x0 x1) : keep [0, 2, 3] (e2 x0 x1) = e3 x0 x1 := by kernel_rfl
theorem kp111_1 (x0 x1 x2) : keep [0, 2, 3] (e1 x0 x1 x2) = e4 x0 x1 := by kernel_rfl
theorem hb111_0 (x0 x1 x2) : boolOf? (ent (e1 x0 x1 x2) (.t 6)) = some x2 := by kernel_rfl
def g111_4 (k0 : K24 R) (x0 : Int) (x1 : V5) := k0 x0 x1 []
theorem t111_4 (x0 x1) : exec cl N c111_4 (e4 x0 x1) K = g111_4 (fun y0 y1 y2 => K .normal (e5 y0 y1 y2)) x0 x1 := by kernel_rfl
theorem kp111_2 (x0 x1 x2) : keep [0, 2, 4] (e5 x0 x1 x2) = e5 x0 x1 x2 := by kernel_rfl
def g111_5 (k0 : Int → V5 → V0 → Bool → Option R) (x0 : Int) (x1 : V5) (x2 : V0) := k0 x0 x1 x2 (decide (x0 > (0 : Int)))
theorem t111_5 (x0 x1 x2) : exec cl N c111_5 (e5 x0 x1 x2) K = g111_5 (fun y0 y1 y2 y3 => K .normal (e6 y0 y1 y2 y3)) x0 x1 x2 := by kernel_rfl
theorem kp111_3 (x0 x1 x2 x3) : keep [0, 2, 4] (e6 x0 x1 x2 x3) = e5 x0 x1 x2 := by kernel_rfl
theorem hb111_1 (x0 x1 x2 x3) : boolOf? (ent (e6 x0 x1 x2 x3) (.t 9)) = some x3 := by kernel_rfl
def g111_9 (k0 : K24 R) (x0 : Int) (x1 : V5) (x2 : V0) : Option R :=
let v36 : Int := (Int.tmod x0 (10000 : Int))
if x2.length + [v36].length ≤ 17592186044416 then
k0 (IntKind.i64.wrap (Int.tdiv x0 (10000 : Int))) x1 (x2 ++ [v36])
else none
theorem t111_9 (x0 x1 x2) : exec cl N c111_9 (e5 x0 x1 x2) K = g111_9 (fun y0 y1 y2 => K .normal (e5 y0 y1 y2)) x0 x1 x2 := by kernel_rfl
def g111_11 (k0 : K24 R) (k1 : K24 R) (x0 : Int) (x1 : V5) (x2 : V0) := (g111_5 (fun y0 y1 y2 y3 => brB y3 ((g111_9 k0) y0 y1 y2) (k1 y0 y1 y2)) x0 x1 x2)
theorem t111_11 (x0 x1 x2) : exec cl N c111_11 (e5 x0 x1 x2) K = g111_11 (fun y0 y1 y2 => K .normal (e5 y0 y1 y2)) (fun y0 y1 y2 => K (.exit 0) (e5 y0 y1 y2)) x0 x1 x2 := by
 simp only [c111_11, B0, t111_5, c111_6, exec_out, B1, hb111_1, Option.bind_some, exec_exit, kp111_3, c111_10, B2, t111_9, kp111_2]
 rfl
def l111_12 {R : Type} (k0 : K24 R) : Nat → Int → V5 → V0 → Option R
 | 0, _, _, _ => none
 | m + 1, x0, x1, x2 => (g111_11 (l111_12 k0 m) k0 x0 x1 x2)
theorem lt111_12 : ∀ (m) (x0 x1 x2), iter [0, 2, 4] (fun env K => exec cl N c111_11 env K) K m (e5 x0 x1 x2) = l111_12 (fun y0 y1 y2 => K (.exit 0) (e5 y0 y1 y2)) m x0 x1 x2 := by
 intro m
 induction m with
 | zero => intros; rfl
 | succ m ih =>
   intro x0 x1 x2
   simp only [B3, t111_11, kp111_2, ih]
   rfl
theorem kp111_4 (x0 x1 x2) : keep [2, 4] (e5 x0 x1 x2) = e7 x1 x2 := by kernel_rfl
def g111_12 (N : Nat) (k0 : V5 → V0 → Option R) (x0 : Int) (x1 : V5) (x2 : V0) : Option R :=
l111_12 (fun y0 y1 y2 => k0 y1 y2) N x0 x1 x2
theorem t111_12 (x0 x1 x2) : exec cl N c111_12 (e5 x0 x1 x2) K = g111_12 N (fun y0 y1 => K (.exit 0) (e7 y0 y1)) x0 x1 x2 := by
 simp only [c111_12, exec_out, exec_loop, kp111_2, lt111_12, kp111_4]
 rfl
theorem kp111_5 (x0 x1) : keep [2, 4] (e7 x0 x1) = e7 x0 x1 := by kernel_rfl
def g111_14 (k0 : K3 R) (x0 : V5) (x1 : V0) := k0 (x1, ()) (0 : Int)
theorem t111_14 (x0 x1) : exec cl N c111_14 (e7 x0 x1) K = g111_14 (fun y0 y1 => K .normal (e8 y0 y1)) x0 x1 := by kernel_rfl
def g111_15 (N : Nat) (k0 : K3 R) (k1 : K3 R) (x0 : Int) := (g111_0 (g111_1 (fun y0 y1 y2 => brB y2 (g111_2 k0 y0 y1 y2) ((g111_4 (g111_12 N ((g111_14 k1)))) y0 y1))) x0)
theorem t111_15 (x0) : exec cl N c111_15 [(0, .v U1 x0)] K = g111_15 N (fun y0 y1 => K .ret (e3 y0 y1)) (fun y0 y1 => K .ret (e8 y0 y1)) x0 := by
 simp only [c111_15, B0, t111_0, t111_1, c111_3, exec_out, B1, hb111_0, Option.bind_some, t111_2, exec_ret, kp111_0, kp111_1, t111_4, c111_13, B2, t111_12, kp111_5, t111_14]
 rfl
theorem rk111_0 (y0 y1) : retK d111 .ret (e3 y0 y1) = some [.v U5 y0, .v U1 y1] := by kernel_rfl
theorem rk111_1 (y0 y1) : retK d111 .ret (e8 y0 y1) = some [.v U5 y0, .v U1 y1] := by kernel_rfl
def g111 (N : Nat) (x0 : Int) (k : V5 → Int → Option R) := (g111_15 N k k x0)
theorem gen111 (x0) (k : List E → Option R) : exec cl N c111 [(0, .v U1 x0)] (fun e env => (retK d111 e env).bind k) = g111 N x0 (fun r0 r1 => k [.v U5 r0, .v U1 r1]) := by
 simp only [c111, t111_15, rk111_0, rk111_1, Option.bind_some]
 rfl
def ctr111 (S : s111) : Ctr := cv1 111 U1 S fun b => [.v U5 b.1, .v U1 b.2]
def S111 (N : Nat) (x0 : Int) : Option V9 := g111 N x0 (fun r0 r1 => some (r0, r1))
def g85_3 (S111 : s111) (k0 : K46 R) (x0 : Int) : Option R :=
(S111 x0).bind fun r41 =>
k0 r41.1
theorem t85_3 (S111) (h111 : (ctr111 S111).holds cl) (x0) : exec cl N c85_3 [(0, .v U1 x0)] K = g85_3 S111 (fun y0 => exec cl N .ret [(2, .loc U5 .no y0)] K) x0 := by
 rw [← put_eq h111]
 kernel_rfl
def g85_3b (S111 : s111) (k0 : K46 R) (x0 : Int) := (g85_3 S111 k0 x0)
theorem t85_3b (S111) (h111 : (ctr111 S111).holds cl) (x0) : exec cl N c85_3 [(0, .v U1 x0)] K = g85_3b S111 (fun y0 => K .ret [(2, .loc U5 .no y0)]) x0 := by
 simp only [B0, t85_3 S111 h111, exec_ret]
 rfl
theorem rk85_0 (y0) : retK d85 .ret [(2, .loc U5 .no y0)] = some [.v U5 y0] := by kernel_rfl
def g85 (S111 : s111) (x0 : Int) (k : V5 → Option R) := (g85_3b S111 k x0)
theorem gen85 (S111) (h111 : (ctr111 S111).holds cl) (x0) (k : List E → Option R) : exec cl N c85 [(0, .v U1 x0)] (fun e env => (retK d85 e env).bind k) = g85 S111 x0 (fun r0 => k [.v U5 r0]) := by
 simp only [c85, t85_3b S111 h111, rk85_0, Option.bind_some]
 rfl
def ctr85 (S : s85) : Ctr := cv1 85 U1 S fun b => [.v U5 b]
def S85 (N : Nat) (x0 : Int) : Option V7 := g85 (S111 N) x0 (fun r0 => some (r0))
def g53_2 (S85 : s85) (k0 : K46 R) (x0 : Int) : Option R :=
(S85 (if (0 : Int) > x0 then (0 : Int) else x0)).bind fun r44 =>
k0 r44
theorem t53_2 (S85) (h85 : (ctr85 S85).holds cl) (x0) : exec cl N c53_2 [(0, .v U1 x0)] K = g53_2 S85 (fun y0 => exec cl N .ret [(2, .loc U5 .no y0)] K) x0 := by
 rw [← put_eq h85]
 kernel_rfl
def g53_2b (S85 : s85) (k0 : K46 R) (x0 : Int) := (g53_2 S85 k0 x0)
theorem t53_2b (S85) (h85 : (ctr85 S85).holds cl) (x0) : exec cl N c53_2 [(0, .v U1 x0)] K = g53_2b S85 (fun y0 => K .ret [(2, .loc U5 .no y0)]) x0 := by
 simp only [B0, t53_2 S85 h85, exec_ret]
 rfl
theorem rk53_0 (y0) : retK d53 .ret [(2, .loc U5 .no y0)] = some [.v U5 y0] := by kernel_rfl
def g53 (S85 : s85) (x0 : Int) (k : V5 → Option R) := (g53_2b S85 k x0)
theorem gen53 (S85) (h85 : (ctr85 S85).holds cl) (x0) (k : List E → Option R) : exec cl N c53 [(0, .v U1 x0)] (fun e env => (retK d53 e env).bind k) = g53 S85 x0 (fun r0 => k [.v U5 r0]) := by
 simp only [c53, t53_2b S85 h85, rk53_0, Option.bind_some]
 rfl
def ctr53 (S : s53) : Ctr := cv1 53 U1 S fun b => [.v U5 b]
def S53 (N : Nat) (x0 : Int) : Option V7 := g53 (S85 N) x0 (fun r0 => some (r0))
def g86_17 (k0 : K3 R) (x0 : V5) := k0 x0 (x0.1.length : Int)
theorem t86_17 (x0) : exec cl N c86_17 [(0, .v U5 x0)] K = g86_17 (fun y0 y1 => exec cl N (.seq (.seq c86_2 c86_4) (.seq (.seq c86_5 c86_15) (.seq c86_16 .ret))) [(1, .loc U5 .no y0), (3, .v U1 y1)] K) x0 := by kernel_rfl
def g86_2 (k0 : V5 → Int → Bool → Option R) (x0 : V5) (x1 : Int) : Option R :=
brB (decide (x1 > (200 : Int))) (k0 x0 x1 true) (brB (decide (x1 > (0 : Int))) (let v57 : Int := (IntKind.i64.wrap (x1 - (1 : Int)))
if 0 ≤ v57 ∧ v57 < (x0.1.length : Int) then
k0 x0 x1 ((x0.1.getD v57.toNat (0 : Int)) == (0 : Int))
else none) (k0 x0 x1 false))
theorem t86_2 (x0 x1) : exec cl N c86_2 [(1, .loc U5 .no x0), (3, .v U1 x1)] K = g86_2 (fun y0 y1 y2 => K .normal (e9 y0 y1 y2)) x0 x1 := by kernel_rfl
def g86_3 (k0 : K11 R) (x0 : V5) (x1 : Int) (x2 : Bool) := k0 false
theorem t86_3 (x0 x1 x2) : exec cl N c86_3 (e9 x0 x1 x2) K = g86_3 (fun y0 => K .normal [(2, .v .bool y0)]) x0 x1 x2 := by kernel_rfl
theorem kp86_0 (x0) : keep [1, 2, 3] [(2, .v .bool x0)] = e10 x0 := by kernel_rfl
theorem kp86_1 (x0 x1 x2) : keep [1, 2, 3] (e9 x0 x1 x2) = [(1, .loc U5 .no x0), (2, .dead), (3, .v U1 x1)] := by kernel_rfl
theorem hb86_0 (x0 x1 x2) : boolOf? (ent (e9 x0 x1 x2) (.t 22)) = some x2 := by kernel_rfl
def g86_5 (k0 : K41 R) (x0 : V5) (x1 : Int) := k0 x0 x1 (0 : Int)
theorem t86_5 (x0 x1) : exec cl N c86_5 [(1, .loc U5 .no x0), (2, .dead), (3, .v U1 x1)] K = g86_5 (fun y0 y1 y2 => K .normal (e11 y0 y1 y2)) x0 x1 := by kernel_rfl
theorem kp86_2 (x0 x1 x2) : keep [1, 3, 4] (e11 x0 x1 x2) = e11 x0 x1 x2 := by kernel_rfl
def g86_6 (k0 : V5 → Int → Int → Bool → Option R) (x0 : V5) (x1 x2 : Int) := k0 x0 x1 x2 (decide (x2 < x1))
theorem t86_6 (x0 x1 x2) : exec cl N c86_6 (e11 x0 x1 x2) K = g86_6 (fun y0 y1 y2 y3 => K .normal (e12 y0 y1 y2 y3)) x0 x1 x2 := by kernel_rfl
theorem kp86_3 (x0 x1 x2 x3) : keep [1, 3, 4] (e12 x0 x1 x2 x3) = e11 x0 x1 x2 := by kernel_rfl
theorem hb86_1 (x0 x1 x2 x3) : boolOf? (ent (e12 x0 x1 x2 x3) (.t 25)) = some x3 := by kernel_rfl
def g86_8 (k0 : V5 → Int → Int → Bool → Option R) (x0 : V5) (x1 x2 : Int) : Option R :=
if 0 ≤ x2 ∧ x2 < (x0.1.length : Int) then
brB (decide ((x0.1.getD x2.toNat (0 : Int)) < (0 : Int))) (k0 x0 x1 x2 true) (if 0 ≤ x2 ∧ x2 < (x0.1.length : Int) then
k0 x0 x1 x2 (decide ((x0.1.getD x2.toNat (0 : Int)) ≥ (10000 : Int)))
else none)
else none
theorem t86_8 (x0 x1 x2) : exec cl N c86_8 (e11 x0 x1 x2) K = g86_8 (fun y0 y1 y2 y3 => K .normal (e13 y0 y1 y2 y3)) x0 x1 x2 := by kernel_rfl
def g86_9 (k0 : K11 R) (x0 : V5) (x1 x2 : Int) (x3 : Bool) := k0 false
theorem t86_9 (x0 x1 x2 x3) : exec cl N c86_9 (e13 x0 x1 x2 x3) K = g86_9 (fun y0 => K .normal [(2, .v .bool y0)]) x0 x1 x2 x3 := by kernel_rfl
theorem kp86_4 (x0) : keep [1, 2, 3, 4] [(2, .v .bool x0)] = e14 x0 := by kernel_rfl
theorem kp86_5 (x0 x1 x2 x3) : keep [1, 2, 3, 4] (e13 x0 x1 x2 x3) = e15 x0 x1 x2 := by kernel_rfl
theorem hb86_2 (x0 x1 x2 x3) : boolOf? (ent (e13 x0 x1 x2 x3) (.t 41)) = some x3 := by kernel_rfl
theorem kp86_6 (x0) : keep [1, 2, 3, 4] (e14 x0) = e14 x0 := by kernel_rfl
theorem kp86_7 (x0 x1 x2) : keep [1, 2, 3, 4] (e15 x0 x1 x2) = e15 x0 x1 x2 := by kernel_rfl
def g86_12 (k0 : K41 R) (x0 : V5) (x1 x2 : Int) := k0 x0 x1 (IntKind.i64.wrap (x2 + (1 : Int)))
theorem t86_12 (x0 x1 x2) : exec cl N c86_12 (e15 x0 x1 x2) K = g86_12 (fun y0 y1 y2 => K .normal (e11 y0 y1 y2)) x0 x1 x2 := by kernel_rfl
def g86_13 (k0 : K11 R) (k1 : K41 R) (k2 : K41 R) (x0 : V5) (x1 x2 : Int) := (g86_6 (fun y0 y1 y2 y3 => brB y3 ((g86_8 (fun y0 y1 y2 y3 => brB y3 (g86_9 k0 y0 y1 y2 y3) (((g86_12 k1)) y0 y1 y2))) y0 y1 y2) (k2 y0 y1 y2)) x0 x1 x2)
theorem t86_13 (x0 x1 x2) : exec cl N c86_13 (e11 x0 x1 x2) K = g86_13 (fun y0 => K .ret (e14 y0)) (fun y0 y1 y2 => K .normal (e11 y0 y1 y2)) (fun y0 y1 y2 => K (.exit 0) (e11 y0 y1 y2)) x0 x1 x2 := by
 simp only [c86_13, B0, t86_6, c86_7, exec_out, B1, hb86_1, Option.bind_some, exec_exit, kp86_3, c86_11, B2, t86_8, c86_10, hb86_2, t86_9, exec_ret, kp86_4, kp86_5, kp86_6, kp86_7, t86_12]
 rfl
def l86_14 {R : Type} (k0 : K11 R) (k1 : K41 R) : Nat → V5 → Int → Int → Option R
 | 0, _, _, _ => none
 | m + 1, x0, x1, x2 => (g86_13 k0 (l86_14 k0 k1 m) k1 x0 x1 x2)
theorem lt86_14 : ∀ (m) (x0 x1 x2), iter [1, 3, 4] (fun env K => exec cl N c86_13 env K) K m (e11 x0 x1 x2) = l86_14 (fun y0 => K .ret (e14 y0)) (fun y0 y1 y2 => K (.exit 0) (e11 y0 y1 y2)) m x0 x1 x2 := by
 intro m
 induction m with
 | zero => intros; rfl
 | succ m ih =>
   intro x0 x1 x2
   simp only [B3, t86_13, kp86_2, ih]
   rfl
theorem kp86_8 (x0) : keep [2] (e14 x0) = [(2, .v .bool x0)] := by kernel_rfl
theorem kp86_9 (x0 x1 x2) : keep [2] (e11 x0 x1 x2) = [(2, .dead)] := by kernel_rfl
def g86_14 (N : Nat) (k0 : K11 R) (k1 : Option R) (x0 : V5) (x1 x2 : Int) : Option R :=
l86_14 k0 (fun y0 y1 y2 => k1) N x0 x1 x2
theorem t86_14 (x0 x1 x2) : exec cl N c86_14 (e11 x0 x1 x2) K = g86_14 N (fun y0 => K .ret [(2, .v .bool y0)]) (K (.exit 0) [(2, .dead)]) x0 x1 x2 := by
 simp only [c86_14, exec_out, exec_loop, kp86_2, lt86_14, kp86_8, kp86_9]
 rfl
theorem kp86_10 (x0) : keep [2] [(2, .v .bool x0)] = [(2, .v .bool x0)] := by kernel_rfl
theorem kp86_11 : keep [2] [(2, .dead)] = [(2, .dead)] := by kernel_rfl
def g86_16 (k0 : K11 R) := k0 true
theorem t86_16 : exec cl N c86_16 [(2, .dead)] K = g86_16 (fun y0 => K .normal [(2, .v .bool y0)]) := by kernel_rfl
def g86_17b (N : Nat) (k0 : K11 R) (k1 : K11 R) (x0 : V5) := (g86_17 (g86_2 (fun y0 y1 y2 => brB y2 (g86_3 k0 y0 y1 y2) ((g86_5 (g86_14 N k1 (g86_16 k1))) y0 y1))) x0)
theorem t86_17b (x0) : exec cl N c86_17 [(0, .v U5 x0)] K = g86_17b N (fun y0 => K .ret (e10 y0)) (fun y0 => K .ret [(2, .v .bool y0)]) x0 := by
 simp only [B0, t86_17, t86_2, c86_4, exec_out, B1, hb86_0, Option.bind_some, t86_3, exec_ret, kp86_0, kp86_1, t86_5, c86_15, B2, t86_14, kp86_10, kp86_11, t86_16]
 rfl
theorem rk86_0 (y0) : retK d86 .ret (e10 y0) = some [.v .bool y0] := by kernel_rfl
theorem rk86_1 (y0) : retK d86 .ret [(2, .v .bool y0)] = some [.v .bool y0] := by kernel_rfl
def g86 (N : Nat) (x0 : V5) (k : Bool → Option R) := (g86_17b N k k x0)
theorem gen86 (x0) (k : List E → Option R) : exec cl N c86 [(0, .v U5 x0)] (fun e env => (retK d86 e env).bind k) = g86 N x0 (fun r0 => k [.v .bool r0]) := by
 simp only [c86, t86_17b, rk86_0, rk86_1, Option.bind_some]
 rfl
def ctr86 (S : s86) : Ctr := cv1 86 U5 S fun b => [.v .bool b]
def S86 (N : Nat) (x0 : V5) : Option (Bool) := g86 N x0 (fun r0 => some (r0))
def g108_2 (k0 : K11 R) (x0 : V0) : Option R :=
brB ((x0.length : Int) == (0 : Int)) (k0 true) (if 0 ≤ (0 : Int) ∧ (0 : Int) < (x0.length : Int) then
k0 ((Int.tmod (x0.getD (0 : Int).toNat (0 : Int)) (2 : Int)) == (0 : Int))
else none)
theorem t108_2 (x0) : exec cl N c108_2 [(0, .v U2 x0)] K = g108_2 (fun y0 => exec cl N .ret [(2, .v .bool y0)] K) x0 := by kernel_rfl
def g108_2b (k0 : K11 R) (x0 : V0) := (g108_2 k0 x0)
theorem t108_2b (x0) : exec cl N c108_2 [(0, .v U2 x0)] K = g108_2b (fun y0 => K .ret [(2, .v .bool y0)]) x0 := by
 simp only [B0, t108_2, exec_ret]
 rfl
theorem rk108_0 (y0) : retK d108 .ret [(2, .v .bool y0)] = some [.v .bool y0] := by kernel_rfl
def g108 (x0 : V0) (k : Bool → Option R) := (g108_2b k x0)
theorem gen108 (x0) (k : List E → Option R) : exec cl N c108 [(0, .v U2 x0)] (fun e env => (retK d108 e env).bind k) = g108 x0 (fun r0 => k [.v .bool r0]) := by
 simp only [c108, t108_2b, rk108_0, Option.bind_some]
 rfl
def ctr108 (S : s108) : Ctr := cv1 108 U2 S fun b => [.v .bool b]
def S108 (N : Nat) (x0 : V0) : Option (Bool) := g108 x0 (fun r0 => some (r0))
def g113_0 (k0 : K38 R) (x0 : V0) := k0 x0
theorem t113_0 (x0) : exec cl N c113_0 [(0, .v U2 x0)] K = g113_0 (fun y0 => K .normal [(0, .v U2 y0)]) x0 := by kernel_rfl
theorem kp113_0 (x0) : keep [0] [(0, .v U2 x0)] = [(0, .v U2 x0)] := by kernel_rfl
def g113_1 (k0 : V0 → Bool → Option R) (x0 : V0) : Option R :=
brB (decide ((x0.length : Int) > (0 : Int))) (let v94 : Int := (IntKind.i64.wrap ((x0.length : Int) - (1 : Int)))
if 0 ≤ v94 ∧ v94 < (x0.length : Int) then
k0 x0 ((x0.getD v94.toNat (0 : Int)) == (0 : Int))
else none) (k0 x0 false)
theorem t113_1 (x0) : exec cl N c113_1 [(0, .v U2 x0)] K = g113_1 (fun y0 y1 => K .normal (e16 y0 y1)) x0 := by kernel_rfl
theorem kp113_1 (x0 x1) : keep [0] (e16 x0 x1) = [(0, .v U2 x0)] := by kernel_rfl
theorem hb113_0 (x0 x1) : boolOf? (ent (e16 x0 x1) (.t 14)) = some x1 := by kernel_rfl
def g113_3 (k0 : K38 R) (x0 : V0) : Option R :=
let v96 : Int := (IntKind.i64.wrap ((x0.length : Int) - (1 : Int)))
if 0 ≤ (0 : Int) ∧ (0 : Int) ≤ v96 ∧ v96 ≤ (x0.length : Int) ∧ (x0.length : Int) ≤ (x0.length : Int) then
k0 ((x0.drop (0 : Int).toNat).take (v96.toNat - (0 : Int).toNat))
else none
theorem t113_3 (x0) : exec cl N c113_3 [(0, .v U2 x0)] K = g113_3 (fun y0 => K .normal [(0, .v U2 y0)]) x0 := by kernel_rfl
def g113_5 (k0 : K38 R) (k1 : K38 R) (x0 : V0) := (g113_1 (fun y0 y1 => brB y1 ((g113_3 k0) y0) (k1 y0)) x0)
theorem t113_5 (x0) : exec cl N c113_5 [(0, .v U2 x0)] K = g113_5 (fun y0 => K .normal [(0, .v U2 y0)]) (fun y0 => K (.exit 0) [(0, .v U2 y0)]) x0 := by
 simp only [c113_5, B0, t113_1, c113_2, exec_out, B1, hb113_0, Option.bind_some, exec_exit, kp113_1, c113_4, B2, t113_3, kp113_0]
 rfl
def l113_6 {R : Type} (k0 : K38 R) : Nat → V0 → Option R
 | 0, _ => none
 | m + 1, x0 => (g113_5 (l113_6 k0 m) k0 x0)
theorem lt113_6 : ∀ (m) (x0), iter [0] (fun env K => exec cl N c113_5 env K) K m [(0, .v U2 x0)] = l113_6 (fun y0 => K (.exit 0) [(0, .v U2 y0)]) m x0 := by
 intro m
 induction m with
 | zero => intros; rfl
 | succ m ih =>
   intro x0
   simp only [B3, t113_5, kp113_0, ih]
   rfl
def g113_6 (N : Nat) (k0 : K38 R) (x0 : V0) : Option R :=
l113_6 k0 N x0
theorem t113_6 (x0) : exec cl N c113_6 [(0, .v U2 x0)] K = g113_6 N (fun y0 => K (.exit 0) [(0, .v U2 y0)]) x0 := by
 simp only [c113_6, exec_out, exec_loop, kp113_0, lt113_6, kp113_0]
 rfl
def g113_8 (k0 : K38 R) (x0 : V0) := k0 x0
theorem t113_8 (x0) : exec cl N c113_8 [(0, .v U2 x0)] K = g113_8 (fun y0 => K .normal [(2, .v U2 y0)]) x0 := by kernel_rfl
def g113_9 (N : Nat) (k0 : K38 R) (x0 : V0) := (g113_0 (g113_6 N ((g113_8 k0))) x0)
theorem t113_9 (x0) : exec cl N c113_9 [(0, .v U2 x0)] K = g113_9 N (fun y0 => K .ret [(2, .v U2 y0)]) x0 := by
 simp only [c113_9, B0, t113_0, c113_7, exec_out, B2, t113_6, kp113_0, t113_8, exec_ret]
 rfl
theorem rk113_0 (y0) : retK d113 .ret [(2, .v U2 y0)] = some [.v U2 y0] := by kernel_rfl
def g113 (N : Nat) (x0 : V0) (k : V0 → Option R) := (g113_9 N k x0)
theorem gen113 (x0) (k : List E → Option R) : exec cl N c113 [(0, .v U2 x0)] (fun e env => (retK d113 e env).bind k) = g113 N x0 (fun r0 => k [.v U2 r0]) := by
 simp only [c113, t113_9, rk113_0, Option.bind_some]
 rfl
def ctr113 (S : s113) : Ctr := cv1 113 U2 S fun b => [.v U2 b]
def S113 (N : Nat) (x0 : V0) : Option V2 := g113 N x0 (fun r0 => some (r0))
def g109_16 (k0 : K19 R) (x0 : V0) : Option R :=
if 0 ≤ (x0.length : Int) ∧ (x0.length : Int) ≤ (x0.length : Int) ∧ (x0.length : Int) ≤ ((17592186044416 : Nat) : Int) then
k0 x0 (List.replicate (x0.length : Int).toNat (0 : Int)) (0 : Int)
else none
theorem t109_16 (x0) : exec cl N c109_16 [(0, .v U2 x0)] K = g109_16 (fun y0 y1 y2 => exec cl N (.seq (.seq c109_3 c109_14) (.seq c109_15 .ret)) [(0, .v U2 y0), (3, .own true 3 U1 .no y1), (4, .v U1 y2)] K) x0 := by kernel_rfl
def g109_3 (k0 : K29 R) (x0 x1 : V0) (x2 : Int) := k0 x0 x1 x2 (IntKind.i64.wrap ((x0.length : Int) - (1 : Int)))
theorem t109_3 (x0 x1 x2) : exec cl N c109_3 [(0, .v U2 x0), (3, .own true 3 U1 .no x1), (4, .v U1 x2)] K = g109_3 (fun y0 y1 y2 y3 => K .normal (e17 y0 y1 y2 y3)) x0 x1 x2 := by kernel_rfl
theorem kp109_0 (x0 x1 x2 x3) : keep [0, 3, 4, 5] (e17 x0 x1 x2 x3) = e17 x0 x1 x2 x3 := by kernel_rfl
def g109_4 (k0 : V0 → V0 → Int → Int → Bool → Option R) (x0 x1 : V0) (x2 x3 : Int) := k0 x0 x1 x2 x3 (decide (x3 ≥ (0 : Int)))
theorem t109_4 (x0 x1 x2 x3) : exec cl N c109_4 (e17 x0 x1 x2 x3) K = g109_4 (fun y0 y1 y2 y3 y4 => K .normal (e18 y0 y1 y2 y3 y4)) x0 x1 x2 x3 := by kernel_rfl
theorem kp109_1 (x0 x1 x2 x3 x4) : keep [0, 3, 4, 5] (e18 x0 x1 x2 x3 x4) = e17 x0 x1 x2 x3 := by kernel_rfl
theorem hb109_0 (x0 x1 x2 x3 x4) : boolOf? (ent (e18 x0 x1 x2 x3 x4) (.t 14)) = some x4 := by kernel_rfl
def g109_9 (k0 : K29 R) (x0 x1 : V0) (x2 x3 : Int) : Option R :=
if 0 ≤ x3 ∧ x3 < (x0.length : Int) then
let v107 : Int := (IntKind.i64.wrap ((IntKind.i64.wrap (x2 * (10000 : Int))) + (x0.getD x3.toNat (0 : Int))))
if 0 ≤ x3 ∧ x3 < (x1.length : Int) then
if x3.toNat < x1.length then
k0 x0 (x1.set x3.toNat (IntKind.i64.wrap (Int.tdiv v107 (2 : Int)))) (Int.tmod v107 (2 : Int)) x3
else none
else none
else none
theorem t109_9 (x0 x1 x2 x3) : exec cl N c109_9 (e17 x0 x1 x2 x3) K = g109_9 (fun y0 y1 y2 y3 => K .normal (e17 y0 y1 y2 y3)) x0 x1 x2 x3 := by kernel_rfl
def g109_11 (k0 : K29 R) (x0 x1 : V0) (x2 x3 : Int) := k0 x0 x1 x2 (IntKind.i64.wrap (x3 - (1 : Int)))
theorem t109_11 (x0 x1 x2 x3) : exec cl N c109_11 (e17 x0 x1 x2 x3) K = g109_11 (fun y0 y1 y2 y3 => K .normal (e17 y0 y1 y2 y3)) x0 x1 x2 x3 := by kernel_rfl
def g109_12 (k0 : K29 R) (k1 : K29 R) (x0 x1 : V0) (x2 x3 : Int) := (g109_4 (fun y0 y1 y2 y3 y4 => brB y4 ((g109_9 ((g109_11 k0))) y0 y1 y2 y3) (k1 y0 y1 y2 y3)) x0 x1 x2 x3)
theorem t109_12 (x0 x1 x2 x3) : exec cl N c109_12 (e17 x0 x1 x2 x3) K = g109_12 (fun y0 y1 y2 y3 => K .normal (e17 y0 y1 y2 y3)) (fun y0 y1 y2 y3 => K (.exit 0) (e17 y0 y1 y2 y3)) x0 x1 x2 x3 := by
 simp only [c109_12, B0, t109_4, c109_5, exec_out, B1, hb109_0, Option.bind_some, exec_exit, kp109_1, c109_10, B2, t109_9, kp109_0, t109_11]
 rfl
def l109_13 {R : Type} (k0 : K29 R) : Nat → V0 → V0 → Int → Int → Option R
 | 0, _, _, _, _ => none
 | m + 1, x0, x1, x2, x3 => (g109_12 (l109_13 k0 m) k0 x0 x1 x2 x3)
theorem lt109_13 : ∀ (m) (x0 x1 x2 x3), iter [0, 3, 4, 5] (fun env K => exec cl N c109_12 env K) K m (e17 x0 x1 x2 x3) = l109_13 (fun y0 y1 y2 y3 => K (.exit 0) (e17 y0 y1 y2 y3)) m x0 x1 x2 x3 := by
 intro m
 induction m with
 | zero => intros; rfl
 | succ m ih =>
   intro x0 x1 x2 x3
   simp only [B3, t109_12, kp109_0, ih]
   rfl
theorem kp109_2 (x0 x1 x2 x3) : keep [3] (e17 x0 x1 x2 x3) = e19 x1 := by kernel_rfl
def g109_13 (N : Nat) (k0 : K38 R) (x0 x1 : V0) (x2 x3 : Int) : Option R :=
l109_13 (fun y0 y1 y2 y3 => k0 y1) N x0 x1 x2 x3
theorem t109_13 (x0 x1 x2 x3) : exec cl N c109_13 (e17 x0 x1 x2 x3) K = g109_13 N (fun y0 => K (.exit 0) (e19 y0)) x0 x1 x2 x3 := by
 simp only [c109_13, exec_out, exec_loop, kp109_0, lt109_13, kp109_2]
 rfl
theorem kp109_3 (x0) : keep [3] (e19 x0) = e19 x0 := by kernel_rfl
def g109_15 (S113 : s113) (k0 : K38 R) (x0 : V0) : Option R :=
(S113 x0).bind fun r111 =>
k0 r111
theorem t109_15 (S113) (h113 : (ctr113 S113).holds cl) (x0) : exec cl N c109_15 (e19 x0) K = g109_15 S113 (fun y0 => K .normal [(2, .v U2 y0)]) x0 := by
 rw [← put_eq h113]
 kernel_rfl
def g109_16b (N : Nat) (S113 : s113) (k0 : K38 R) (x0 : V0) := (g109_16 (g109_3 (g109_13 N ((g109_15 S113 k0)))) x0)
theorem t109_16b (S113) (h113 : (ctr113 S113).holds cl) (x0) : exec cl N c109_16 [(0, .v U2 x0)] K = g109_16b N S113 (fun y0 => K .ret [(2, .v U2 y0)]) x0 := by
 simp only [B0, t109_16, t109_3, c109_14, exec_out, B2, t109_13, kp109_3, t109_15 S113 h113, exec_ret]
 rfl
theorem rk109_0 (y0) : retK d109 .ret [(2, .v U2 y0)] = some [.v U2 y0] := by kernel_rfl
def g109 (N : Nat) (S113 : s113) (x0 : V0) (k : V0 → Option R) := (g109_16b N S113 k x0)
theorem gen109 (S113) (h113 : (ctr113 S113).holds cl) (x0) (k : List E → Option R) : exec cl N c109 [(0, .v U2 x0)] (fun e env => (retK d109 e env).bind k) = g109 N S113 x0 (fun r0 => k [.v U2 r0]) := by
 simp only [c109, t109_16b S113 h113, rk109_0, Option.bind_some]
 rfl
def ctr109 (S : s109) : Ctr := cv1 109 U2 S fun b => [.v U2 b]
def S109 (N : Nat) (x0 : V0) : Option V2 := g109 N (S113 N) x0 (fun r0 => some (r0))
def g90_0 (k0 : K37 R) (x0 x1 : V0) := k0 x0 x1
theorem t90_0 (x0 x1) : exec cl N c90_0 (e20 x0 x1) K = g90_0 (fun y0 y1 => K .normal (e20 y0 y1)) x0 x1 := by kernel_rfl
def g90_1 (k0 : K45 R) (x0 x1 : V0) := k0 x0 x1 (decide ((x0.length : Int) < (x1.length : Int)))
theorem t90_1 (x0 x1) : exec cl N c90_1 (e20 x0 x1) K = g90_1 (fun y0 y1 y2 => K .normal (e21 y0 y1 y2)) x0 x1 := by kernel_rfl
def g90_2 (k0 : K21 R) (x0 x1 : V0) (x2 : Bool) := k0 (-1 : Int)
theorem t90_2 (x0 x1 x2) : exec cl N c90_2 (e21 x0 x1 x2) K = g90_2 (fun y0 => K .normal [(4, .v U1 y0)]) x0 x1 x2 := by kernel_rfl
theorem kp90_0 (x0) : keep [0, 1, 4] [(4, .v U1 x0)] = e22 x0 := by kernel_rfl
theorem kp90_1 (x0 x1 x2) : keep [0, 1, 4] (e21 x0 x1 x2) = e23 x0 x1 := by kernel_rfl
theorem hb90_0 (x0 x1 x2) : boolOf? (ent (e21 x0 x1 x2) (.t 10)) = some x2 := by kernel_rfl
def g90_4 (k0 : K45 R) (x0 x1 : V0) := k0 x0 x1 (decide ((x0.length : Int) > (x1.length : Int)))
theorem t90_4 (x0 x1) : exec cl N c90_4 (e23 x0 x1) K = g90_4 (fun y0 y1 y2 => K .normal (e24 y0 y1 y2)) x0 x1 := by kernel_rfl
def g90_5 (k0 : K21 R) (x0 x1 : V0) (x2 : Bool) := k0 (1 : Int)
theorem t90_5 (x0 x1 x2) : exec cl N c90_5 (e24 x0 x1 x2) K = g90_5 (fun y0 => K .normal [(4, .v U1 y0)]) x0 x1 x2 := by kernel_rfl
theorem kp90_2 (x0 x1 x2) : keep [0, 1, 4] (e24 x0 x1 x2) = e23 x0 x1 := by kernel_rfl
theorem hb90_1 (x0 x1 x2) : boolOf? (ent (e24 x0 x1 x2) (.t 15)) = some x2 := by kernel_rfl
def g90_7 (k0 : K19 R) (x0 x1 : V0) := k0 x0 x1 (IntKind.i64.wrap ((x0.length : Int) - (1 : Int)))
theorem t90_7 (x0 x1) : exec cl N c90_7 (e23 x0 x1) K = g90_7 (fun y0 y1 y2 => K .normal (e25 y0 y1 y2)) x0 x1 := by kernel_rfl
theorem kp90_3 (x0 x1 x2) : keep [0, 1, 5] (e25 x0 x1 x2) = e25 x0 x1 x2 := by kernel_rfl
def g90_8 (k0 : K31 R) (x0 x1 : V0) (x2 : Int) := k0 x0 x1 x2 (decide (x2 ≥ (0 : Int)))
theorem t90_8 (x0 x1 x2) : exec cl N c90_8 (e25 x0 x1 x2) K = g90_8 (fun y0 y1 y2 y3 => K .normal (e26 y0 y1 y2 y3)) x0 x1 x2 := by kernel_rfl
theorem kp90_4 (x0 x1 x2 x3) : keep [0, 1, 5] (e26 x0 x1 x2 x3) = e25 x0 x1 x2 := by kernel_rfl
theorem hb90_2 (x0 x1 x2 x3) : boolOf? (ent (e26 x0 x1 x2 x3) (.t 20)) = some x3 := by kernel_rfl
def g90_10 (k0 : K31 R) (x0 x1 : V0) (x2 : Int) : Option R :=
if 0 ≤ x2 ∧ x2 < (x0.length : Int) then
if 0 ≤ x2 ∧ x2 < (x1.length : Int) then
k0 x0 x1 x2 (decide ((x0.getD x2.toNat (0 : Int)) < (x1.getD x2.toNat (0 : Int))))
else none
else none
theorem t90_10 (x0 x1 x2) : exec cl N c90_10 (e25 x0 x1 x2) K = g90_10 (fun y0 y1 y2 y3 => K .normal (e27 y0 y1 y2 y3)) x0 x1 x2 := by kernel_rfl
def g90_11 (k0 : K21 R) (x0 x1 : V0) (x2 : Int) (x3 : Bool) := k0 (-1 : Int)
theorem t90_11 (x0 x1 x2 x3) : exec cl N c90_11 (e27 x0 x1 x2 x3) K = g90_11 (fun y0 => K .normal [(4, .v U1 y0)]) x0 x1 x2 x3 := by kernel_rfl
theorem kp90_5 (x0) : keep [0, 1, 4, 5] [(4, .v U1 x0)] = e28 x0 := by kernel_rfl
theorem kp90_6 (x0 x1 x2 x3) : keep [0, 1, 4, 5] (e27 x0 x1 x2 x3) = e29 x0 x1 x2 := by kernel_rfl
theorem hb90_3 (x0 x1 x2 x3) : boolOf? (ent (e27 x0 x1 x2 x3) (.t 31)) = some x3 := by kernel_rfl
def g90_13 (k0 : K31 R) (x0 x1 : V0) (x2 : Int) : Option R :=
if 0 ≤ x2 ∧ x2 < (x0.length : Int) then
if 0 ≤ x2 ∧ x2 < (x1.length : Int) then
k0 x0 x1 x2 (decide ((x0.getD x2.toNat (0 : Int)) > (x1.getD x2.toNat (0 : Int))))
else none
else none
theorem t90_13 (x0 x1 x2) : exec cl N c90_13 (e29 x0 x1 x2) K = g90_13 (fun y0 y1 y2 y3 => K .normal (e30 y0 y1 y2 y3)) x0 x1 x2 := by kernel_rfl
def g90_14 (k0 : K21 R) (x0 x1 : V0) (x2 : Int) (x3 : Bool) := k0 (1 : Int)
theorem t90_14 (x0 x1 x2 x3) : exec cl N c90_14 (e30 x0 x1 x2 x3) K = g90_14 (fun y0 => K .normal [(4, .v U1 y0)]) x0 x1 x2 x3 := by kernel_rfl
theorem kp90_7 (x0 x1 x2 x3) : keep [0, 1, 4, 5] (e30 x0 x1 x2 x3) = e29 x0 x1 x2 := by kernel_rfl
theorem hb90_4 (x0 x1 x2 x3) : boolOf? (ent (e30 x0 x1 x2 x3) (.t 40)) = some x3 := by kernel_rfl
theorem kp90_8 (x0) : keep [0, 1, 4, 5] (e28 x0) = e28 x0 := by kernel_rfl
theorem kp90_9 (x0 x1 x2) : keep [0, 1, 4, 5] (e29 x0 x1 x2) = e29 x0 x1 x2 := by kernel_rfl
def g90_17 (k0 : K19 R) (x0 x1 : V0) (x2 : Int) := k0 x0 x1 (IntKind.i64.wrap (x2 - (1 : Int)))
theorem t90_17 (x0 x1 x2) : exec cl N c90_17 (e29 x0 x1 x2) K = g90_17 (fun y0 y1 y2 => K .normal (e25 y0 y1 y2)) x0 x1 x2 := by kernel_rfl
def g90_18 (k0 : K21 R) (k1 : K19 R) (k2 : K19 R) (x0 x1 : V0) (x2 : Int) := (g90_8 (fun y0 y1 y2 y3 => brB y3 ((g90_10 (fun y0 y1 y2 y3 => brB y3 (g90_11 k0 y0 y1 y2 y3) ((g90_13 (fun y0 y1 y2 y3 => brB y3 (g90_14 k0 y0 y1 y2 y3) (((g90_17 k1)) y0 y1 y2))) y0 y1 y2))) y0 y1 y2) (k2 y0 y1 y2)) x0 x1 x2)
theorem t90_18 (x0 x1 x2) : exec cl N c90_18 (e25 x0 x1 x2) K = g90_18 (fun y0 => K .ret (e28 y0)) (fun y0 y1 y2 => K .normal (e25 y0 y1 y2)) (fun y0 y1 y2 => K (.exit 0) (e25 y0 y1 y2)) x0 x1 x2 := by
 simp only [c90_18, B0, t90_8, c90_9, exec_out, B1, hb90_2, Option.bind_some, exec_exit, kp90_4, c90_16, B2, t90_10, c90_12, hb90_3, t90_11, exec_ret, kp90_5, kp90_6, t90_13, c90_15, hb90_4, t90_14, kp90_7, kp90_8, kp90_9, t90_17]
 rfl
def l90_19 {R : Type} (k0 : K21 R) (k1 : K19 R) : Nat → V0 → V0 → Int → Option R
 | 0, _, _, _ => none
 | m + 1, x0, x1, x2 => (g90_18 k0 (l90_19 k0 k1 m) k1 x0 x1 x2)
theorem lt90_19 : ∀ (m) (x0 x1 x2), iter [0, 1, 5] (fun env K => exec cl N c90_18 env K) K m (e25 x0 x1 x2) = l90_19 (fun y0 => K .ret (e28 y0)) (fun y0 y1 y2 => K (.exit 0) (e25 y0 y1 y2)) m x0 x1 x2 := by
 intro m
 induction m with
 | zero => intros; rfl
 | succ m ih =>
   intro x0 x1 x2
   simp only [B3, t90_18, kp90_3, ih]
   rfl
theorem kp90_10 (x0) : keep [4] (e28 x0) = [(4, .v U1 x0)] := by kernel_rfl
theorem kp90_11 (x0 x1 x2) : keep [4] (e25 x0 x1 x2) = [(4, .dead)] := by kernel_rfl
def g90_19 (N : Nat) (k0 : K21 R) (k1 : Option R) (x0 x1 : V0) (x2 : Int) : Option R :=
l90_19 k0 (fun y0 y1 y2 => k1) N x0 x1 x2
theorem t90_19 (x0 x1 x2) : exec cl N c90_19 (e25 x0 x1 x2) K = g90_19 N (fun y0 => K .ret [(4, .v U1 y0)]) (K (.exit 0) [(4, .dead)]) x0 x1 x2 := by
 simp only [c90_19, exec_out, exec_loop, kp90_3, lt90_19, kp90_10, kp90_11]
 rfl
theorem kp90_12 (x0) : keep [4] [(4, .v U1 x0)] = [(4, .v U1 x0)] := by kernel_rfl
theorem kp90_13 : keep [4] [(4, .dead)] = [(4, .dead)] := by kernel_rfl
def g90_21 (k0 : K21 R) := k0 (0 : Int)
theorem t90_21 : exec cl N c90_21 [(4, .dead)] K = g90_21 (fun y0 => K .normal [(4, .v U1 y0)]) := by kernel_rfl
def g90_22 (N : Nat) (k0 : K21 R) (k1 : K21 R) (x0 x1 : V0) := (g90_0 (g90_1 (fun y0 y1 y2 => brB y2 (g90_2 k0 y0 y1 y2) ((g90_4 (fun y0 y1 y2 => brB y2 (g90_5 k0 y0 y1 y2) ((g90_7 (g90_19 N k1 (g90_21 k1))) y0 y1))) y0 y1))) x0 x1)
theorem t90_22 (x0 x1) : exec cl N c90_22 (e20 x0 x1) K = g90_22 N (fun y0 => K .ret (e22 y0)) (fun y0 => K .ret [(4, .v U1 y0)]) x0 x1 := by
 simp only [c90_22, B0, t90_0, t90_1, c90_3, exec_out, B1, hb90_0, Option.bind_some, t90_2, exec_ret, kp90_0, kp90_1, t90_4, c90_6, hb90_1, t90_5, kp90_2, t90_7, c90_20, B2, t90_19, kp90_12, kp90_13, t90_21]
 rfl
theorem rk90_0 (y0) : retK d90 .ret (e22 y0) = some [.v U1 y0] := by kernel_rfl
theorem rk90_1 (y0) : retK d90 .ret [(4, .v U1 y0)] = some [.v U1 y0] := by kernel_rfl
def g90 (N : Nat) (x0 x1 : V0) (k : Int → Option R) := (g90_22 N k k x0 x1)
theorem gen90 (x0 x1) (k : List E → Option R) : exec cl N c90 (e20 x0 x1) (fun e env => (retK d90 e env).bind k) = g90 N x0 x1 (fun r0 => k [.v U1 r0]) := by
 simp only [c90, t90_22, rk90_0, rk90_1, Option.bind_some]
 rfl
def ctr90 (S : s90) : Ctr := cv2 90 U2 U2 S fun b => [.v U1 b]
def S90 (N : Nat) (x0 : V0) (x1 : V0) : Option (Int) := g90 N x0 x1 (fun r0 => some (r0))
def g112_0 (k0 : V0 → Int → Option R) (x0 : V0) (x1 : Int) := k0 x0 x1
theorem t112_0 (x0 x1) : exec cl N c112_0 (e31 x0 x1) K = g112_0 (fun y0 y1 => K .normal (e31 y0 y1)) x0 x1 := by kernel_rfl
def g112_1 (k0 : V0 → Int → Bool → Option R) (x0 : V0) (x1 : Int) := k0 x0 x1 (decide (x1 < (x0.length : Int)))
theorem t112_1 (x0 x1) : exec cl N c112_1 (e31 x0 x1) K = g112_1 (fun y0 y1 y2 => K .normal (e32 y0 y1 y2)) x0 x1 := by kernel_rfl
def g112_2 (k0 : K21 R) (x0 : V0) (x1 : Int) (x2 : Bool) : Option R :=
if 0 ≤ x1 ∧ x1 < (x0.length : Int) then
k0 (x0.getD x1.toNat (0 : Int))
else none
theorem t112_2 (x0 x1 x2) : exec cl N c112_2 (e32 x0 x1 x2) K = g112_2 (fun y0 => K .normal [(4, .v U1 y0)]) x0 x1 x2 := by kernel_rfl
theorem kp112_0 (x0) : keep [4] [(4, .v U1 x0)] = [(4, .v U1 x0)] := by kernel_rfl
theorem kp112_1 (x0 x1 x2) : keep [4] (e32 x0 x1 x2) = [(4, .dead)] := by kernel_rfl
theorem hb112_0 (x0 x1 x2) : boolOf? (ent (e32 x0 x1 x2) (.t 8)) = some x2 := by kernel_rfl
def g112_4 (k0 : K21 R) := k0 (0 : Int)
theorem t112_4 : exec cl N c112_4 [(4, .dead)] K = g112_4 (fun y0 => K .normal [(4, .v U1 y0)]) := by kernel_rfl
def g112_5 (k0 : K21 R) (x0 : V0) (x1 : Int) := (g112_0 (g112_1 (fun y0 y1 y2 => brB y2 (g112_2 k0 y0 y1 y2) (g112_4 k0))) x0 x1)
theorem t112_5 (x0 x1) : exec cl N c112_5 (e31 x0 x1) K = g112_5 (fun y0 => K .ret [(4, .v U1 y0)]) x0 x1 := by
 simp only [c112_5, B0, t112_0, t112_1, c112_3, exec_out, B1, hb112_0, Option.bind_some, t112_2, exec_ret, kp112_0, kp112_1, t112_4]
 rfl
theorem rk112_0 (y0) : retK d112 .ret [(4, .v U1 y0)] = some [.v U1 y0] := by kernel_rfl
def g112 (x0 : V0) (x1 : Int) (k : Int → Option R) := (g112_5 k x0 x1)
theorem gen112 (x0 x1) (k : List E → Option R) : exec cl N c112 (e31 x0 x1) (fun e env => (retK d112 e env).bind k) = g112 x0 x1 (fun r0 => k [.v U1 r0]) := by
 simp only [c112, t112_5, rk112_0, Option.bind_some]
 rfl
def ctr112 (S : s112) : Ctr := cv2 112 U2 U1 S fun b => [.v U1 b]
def S112 (N : Nat) (x0 : V0) (x1 : Int) : Option (Int) := g112 x0 x1 (fun r0 => some (r0))
def g91_22 (k0 : K17 R) (x0 x1 : V0) := k0 x0 x1 [] (0 : Int)
theorem t91_22 (x0 x1) : exec cl N c91_22 (e20 x0 x1) K = g91_22 (fun y0 y1 y2 y3 => exec cl N (.seq (.seq c91_3 c91_20) (.seq c91_21 .ret)) (e33 y0 y1 y2 y3) K) x0 x1 := by kernel_rfl
def g91_3 (k0 : K1 R) (x0 x1 x2 : V0) (x3 : Int) := k0 x0 x1 x2 x3 (0 : Int)
theorem t91_3 (x0 x1 x2 x3) : exec cl N c91_3 (e33 x0 x1 x2 x3) K = g91_3 (fun y0 y1 y2 y3 y4 => K .normal (e34 y0 y1 y2 y3 y4)) x0 x1 x2 x3 := by kernel_rfl
theorem kp91_0 (x0 x1 x2 x3 x4) : keep [0, 1, 5, 6, 7] (e34 x0 x1 x2 x3 x4) = e34 x0 x1 x2 x3 x4 := by kernel_rfl
def g91_4 (k0 : K34 R) (x0 x1 x2 : V0) (x3 x4 : Int) := k0 x0 x1 x2 x3 x4 (decide (x4 < (x0.length : Int)))
theorem t91_4 (x0 x1 x2 x3 x4) : exec cl N c91_4 (e34 x0 x1 x2 x3 x4) K = g91_4 (fun y0 y1 y2 y3 y4 y5 => K .normal (e35 y0 y1 y2 y3 y4 y5)) x0 x1 x2 x3 x4 := by kernel_rfl
theorem kp91_1 (x0 x1 x2 x3 x4 x5) : keep [0, 1, 5, 6, 7] (e35 x0 x1 x2 x3 x4 x5) = e34 x0 x1 x2 x3 x4 := by kernel_rfl
theorem hb91_0 (x0 x1 x2 x3 x4 x5) : boolOf? (ent (e35 x0 x1 x2 x3 x4 x5) (.t 12)) = some x5 := by kernel_rfl
def g91_15 (S112 : s112) (k0 : K6 R) (x0 x1 x2 : V0) (x3 x4 : Int) : Option R :=
if 0 ≤ x4 ∧ x4 < (x0.length : Int) then
(S112 x1 x4).bind fun r155 =>
k0 x0 x1 x2 (0 : Int) x4 (IntKind.i64.wrap ((IntKind.i64.wrap ((x0.getD x4.toNat (0 : Int)) - r155)) - x3))
else none
theorem t91_15 (S112) (h112 : (ctr112 S112).holds cl) (x0 x1 x2 x3 x4) : exec cl N c91_15 (e34 x0 x1 x2 x3 x4) K = g91_15 S112 (fun y0 y1 y2 y3 y4 y5 => exec cl N (.seq c91_13 c91_14) (e36 y0 y1 y2 y3 y4 y5) K) x0 x1 x2 x3 x4 := by
 rw [← put_eq h112]
 kernel_rfl
def g91_8 (k0 : V0 → V0 → V0 → Int → Int → Int → Bool → Option R) (x0 x1 x2 : V0) (x3 x4 x5 : Int) := k0 x0 x1 x2 x3 x4 x5 (decide (x5 < (0 : Int)))
theorem t91_8 (x0 x1 x2 x3 x4 x5) : exec cl N c91_8 (e36 x0 x1 x2 x3 x4 x5) K = g91_8 (fun y0 y1 y2 y3 y4 y5 y6 => K .normal (e37 y0 y1 y2 y3 y4 y5 y6)) x0 x1 x2 x3 x4 x5 := by kernel_rfl
def g91_11 (k0 : K6 R) (x0 x1 x2 : V0) (x3 x4 x5 : Int) (x6 : Bool) := k0 x0 x1 x2 (1 : Int) x4 (IntKind.i64.wrap (x5 + (10000 : Int)))
theorem t91_11 (x0 x1 x2 x3 x4 x5 x6) : exec cl N c91_11 (e37 x0 x1 x2 x3 x4 x5 x6) K = g91_11 (fun y0 y1 y2 y3 y4 y5 => K .normal (e36 y0 y1 y2 y3 y4 y5)) x0 x1 x2 x3 x4 x5 x6 := by kernel_rfl
theorem kp91_2 (x0 x1 x2 x3 x4 x5) : keep [0, 1, 5, 6, 7, 8] (e36 x0 x1 x2 x3 x4 x5) = e36 x0 x1 x2 x3 x4 x5 := by kernel_rfl
theorem kp91_3 (x0 x1 x2 x3 x4 x5 x6) : keep [0, 1, 5, 6, 7, 8] (e37 x0 x1 x2 x3 x4 x5 x6) = e36 x0 x1 x2 x3 x4 x5 := by kernel_rfl
theorem hb91_1 (x0 x1 x2 x3 x4 x5 x6) : boolOf? (ent (e37 x0 x1 x2 x3 x4 x5 x6) (.t 26)) = some x6 := by kernel_rfl
def g91_13 (k0 : K6 R) (x0 x1 x2 : V0) (x3 x4 x5 : Int) := (g91_8 (fun y0 y1 y2 y3 y4 y5 y6 => brB y6 (g91_11 k0 y0 y1 y2 y3 y4 y5 y6) (k0 y0 y1 y2 y3 y4 y5)) x0 x1 x2 x3 x4 x5)
theorem t91_13 (x0 x1 x2 x3 x4 x5) : exec cl N c91_13 (e36 x0 x1 x2 x3 x4 x5) K = g91_13 (fun y0 y1 y2 y3 y4 y5 => K .normal (e36 y0 y1 y2 y3 y4 y5)) x0 x1 x2 x3 x4 x5 := by
 simp only [c91_13, B0, t91_8, c91_12, exec_out, B1, hb91_1, Option.bind_some, t91_11, kp91_2, kp91_3]
 rfl
def g91_14 (k0 : K1 R) (x0 x1 x2 : V0) (x3 x4 x5 : Int) : Option R :=
if x2.length + [x5].length ≤ 17592186044416 then
k0 x0 x1 (x2 ++ [x5]) x3 x4
else none
theorem t91_14 (x0 x1 x2 x3 x4 x5) : exec cl N c91_14 (e36 x0 x1 x2 x3 x4 x5) K = g91_14 (fun y0 y1 y2 y3 y4 => K .normal (e34 y0 y1 y2 y3 y4)) x0 x1 x2 x3 x4 x5 := by kernel_rfl
def g91_17 (k0 : K1 R) (x0 x1 x2 : V0) (x3 x4 : Int) := k0 x0 x1 x2 x3 (IntKind.i64.wrap (x4 + (1 : Int)))
theorem t91_17 (x0 x1 x2 x3 x4) : exec cl N c91_17 (e34 x0 x1 x2 x3 x4) K = g91_17 (fun y0 y1 y2 y3 y4 => K .normal (e34 y0 y1 y2 y3 y4)) x0 x1 x2 x3 x4 := by kernel_rfl
def g91_18 (S112 : s112) (k0 : K1 R) (k1 : K1 R) (x0 x1 x2 : V0) (x3 x4 : Int) := (g91_4 (fun y0 y1 y2 y3 y4 y5 => brB y5 ((g91_15 S112 (g91_13 (g91_14 ((g91_17 k0))))) y0 y1 y2 y3 y4) (k1 y0 y1 y2 y3 y4)) x0 x1 x2 x3 x4)
theorem t91_18 (S112) (h112 : (ctr112 S112).holds cl) (x0 x1 x2 x3 x4) : exec cl N c91_18 (e34 x0 x1 x2 x3 x4) K = g91_18 S112 (fun y0 y1 y2 y3 y4 => K .normal (e34 y0 y1 y2 y3 y4)) (fun y0 y1 y2 y3 y4 => K (.exit 0) (e34 y0 y1 y2 y3 y4)) x0 x1 x2 x3 x4 := by
 simp only [c91_18, B0, t91_4, c91_5, exec_out, B1, hb91_0, Option.bind_some, exec_exit, kp91_1, c91_16, B2, t91_15 S112 h112, t91_13, t91_14, kp91_0, t91_17]
 rfl
def l91_19 {R : Type} (S112 : s112) (k0 : K1 R) : Nat → V0 → V0 → V0 → Int → Int → Option R
 | 0, _, _, _, _, _ => none
 | m + 1, x0, x1, x2, x3, x4 => (g91_18 S112 (l91_19 S112 k0 m) k0 x0 x1 x2 x3 x4)
theorem lt91_19 (S112) (h112 : (ctr112 S112).holds cl) : ∀ (m) (x0 x1 x2 x3 x4), iter [0, 1, 5, 6, 7] (fun env K => exec cl N c91_18 env K) K m (e34 x0 x1 x2 x3 x4) = l91_19 S112 (fun y0 y1 y2 y3 y4 => K (.exit 0) (e34 y0 y1 y2 y3 y4)) m x0 x1 x2 x3 x4 := by
 intro m
 induction m with
 | zero => intros; rfl
 | succ m ih =>
   intro x0 x1 x2 x3 x4
   simp only [B3, t91_18 S112 h112, kp91_0, ih]
   rfl
theorem kp91_4 (x0 x1 x2 x3 x4) : keep [5] (e34 x0 x1 x2 x3 x4) = e38 x2 := by kernel_rfl
def g91_19 (N : Nat) (S112 : s112) (k0 : K38 R) (x0 x1 x2 : V0) (x3 x4 : Int) : Option R :=
l91_19 S112 (fun y0 y1 y2 y3 y4 => k0 y2) N x0 x1 x2 x3 x4
theorem t91_19 (S112) (h112 : (ctr112 S112).holds cl) (x0 x1 x2 x3 x4) : exec cl N c91_19 (e34 x0 x1 x2 x3 x4) K = g91_19 N S112 (fun y0 => K (.exit 0) (e38 y0)) x0 x1 x2 x3 x4 := by
 simp only [c91_19, exec_out, exec_loop, kp91_0, lt91_19 S112 h112, kp91_4]
 rfl
theorem kp91_5 (x0) : keep [5] (e38 x0) = e38 x0 := by kernel_rfl
def g91_21 (S113 : s113) (k0 : K38 R) (x0 : V0) : Option R :=
(S113 x0).bind fun r162 =>
k0 r162
theorem t91_21 (S113) (h113 : (ctr113 S113).holds cl) (x0) : exec cl N c91_21 (e38 x0) K = g91_21 S113 (fun y0 => K .normal [(4, .v U2 y0)]) x0 := by
 rw [← put_eq h113]
 kernel_rfl
def g91_22b (N : Nat) (S112 : s112) (S113 : s113) (k0 : K38 R) (x0 x1 : V0) := (g91_22 (g91_3 (g91_19 N S112 ((g91_21 S113 k0)))) x0 x1)
theorem t91_22b (S112) (S113) (h112 : (ctr112 S112).holds cl) (h113 : (ctr113 S113).holds cl) (x0 x1) : exec cl N c91_22 (e20 x0 x1) K = g91_22b N S112 S113 (fun y0 => K .ret [(4, .v U2 y0)]) x0 x1 := by
 simp only [B0, t91_22, t91_3, c91_20, exec_out, B2, t91_19 S112 h112, kp91_5, t91_21 S113 h113, exec_ret]
 rfl
theorem rk91_0 (y0) : retK d91 .ret [(4, .v U2 y0)] = some [.v U2 y0] := by kernel_rfl
def g91 (N : Nat) (S112 : s112) (S113 : s113) (x0 x1 : V0) (k : V0 → Option R) := (g91_22b N S112 S113 k x0 x1)
theorem gen91 (S112) (S113) (h112 : (ctr112 S112).holds cl) (h113 : (ctr113 S113).holds cl) (x0 x1) (k : List E → Option R) : exec cl N c91 (e20 x0 x1) (fun e env => (retK d91 e env).bind k) = g91 N S112 S113 x0 x1 (fun r0 => k [.v U2 r0]) := by
 simp only [c91, t91_22b S112 S113 h112 h113, rk91_0, Option.bind_some]
 rfl
def ctr91 (S : s91) : Ctr := cv2 91 U2 U2 S fun b => [.v U2 b]
def S91 (N : Nat) (x0 : V0) (x1 : V0) : Option V2 := g91 N (S112 N) (S113 N) x0 x1 (fun r0 => some (r0))
def g89_16 (k0 : K17 R) (x0 x1 : V0) := k0 x0 x1 [] (0 : Int)
theorem t89_16 (x0 x1) : exec cl N c89_16 (e20 x0 x1) K = g89_16 (fun y0 y1 y2 y3 => exec cl N (.seq (.seq c89_3 c89_14) (.seq c89_15 .ret)) (e33 y0 y1 y2 y3) K) x0 x1 := by kernel_rfl
def g89_3 (k0 : K1 R) (x0 x1 x2 : V0) (x3 : Int) := k0 x0 x1 x2 x3 (0 : Int)
theorem t89_3 (x0 x1 x2 x3) : exec cl N c89_3 (e33 x0 x1 x2 x3) K = g89_3 (fun y0 y1 y2 y3 y4 => K .normal (e34 y0 y1 y2 y3 y4)) x0 x1 x2 x3 := by kernel_rfl
theorem kp89_0 (x0 x1 x2 x3 x4) : keep [0, 1, 5, 6, 7] (e34 x0 x1 x2 x3 x4) = e34 x0 x1 x2 x3 x4 := by kernel_rfl
def g89_4 (k0 : K34 R) (x0 x1 x2 : V0) (x3 x4 : Int) : Option R :=
brB (decide (x4 < (x0.length : Int))) (k0 x0 x1 x2 x3 x4 true) (k0 x0 x1 x2 x3 x4 (decide (x4 < (x1.length : Int))))
theorem t89_4 (x0 x1 x2 x3 x4) : exec cl N c89_4 (e34 x0 x1 x2 x3 x4) K = g89_4 (fun y0 y1 y2 y3 y4 y5 => K .normal (e39 y0 y1 y2 y3 y4 y5)) x0 x1 x2 x3 x4 := by kernel_rfl
theorem kp89_1 (x0 x1 x2 x3 x4 x5) : keep [0, 1, 5, 6, 7] (e39 x0 x1 x2 x3 x4 x5) = e34 x0 x1 x2 x3 x4 := by kernel_rfl
theorem hb89_0 (x0 x1 x2 x3 x4 x5) : boolOf? (ent (e39 x0 x1 x2 x3 x4 x5) (.t 18)) = some x5 := by kernel_rfl
def g89_9 (S112 : s112) (k0 : K1 R) (x0 x1 x2 : V0) (x3 x4 : Int) : Option R :=
(S112 x0 x4).bind fun r196 =>
(S112 x1 x4).bind fun r197 =>
let v199 : Int := (IntKind.i64.wrap ((IntKind.i64.wrap (r196 + r197)) + x3))
let v200 : Int := (Int.tmod v199 (10000 : Int))
if x2.length + [v200].length ≤ 17592186044416 then
k0 x0 x1 (x2 ++ [v200]) (IntKind.i64.wrap (Int.tdiv v199 (10000 : Int))) x4
else none
theorem t89_9 (S112) (h112 : (ctr112 S112).holds cl) (x0 x1 x2 x3 x4) : exec cl N c89_9 (e34 x0 x1 x2 x3 x4) K = g89_9 S112 (fun y0 y1 y2 y3 y4 => K .normal (e34 y0 y1 y2 y3 y4)) x0 x1 x2 x3 x4 := by
 rw [← put_eq h112]
 kernel_rfl
def g89_11 (k0 : K1 R) (x0 x1 x2 : V0) (x3 x4 : Int) := k0 x0 x1 x2 x3 (IntKind.i64.wrap (x4 + (1 : Int)))
theorem t89_11 (x0 x1 x2 x3 x4) : exec cl N c89_11 (e34 x0 x1 x2 x3 x4) K = g89_11 (fun y0 y1 y2 y3 y4 => K .normal (e34 y0 y1 y2 y3 y4)) x0 x1 x2 x3 x4 := by kernel_rfl
def g89_12 (S112 : s112) (k0 : K1 R) (k1 : K1 R) (x0 x1 x2 : V0) (x3 x4 : Int) := (g89_4 (fun y0 y1 y2 y3 y4 y5 => brB y5 ((g89_9 S112 ((g89_11 k0))) y0 y1 y2 y3 y4) (k1 y0 y1 y2 y3 y4)) x0 x1 x2 x3 x4)
theorem t89_12 (S112) (h112 : (ctr112 S112).holds cl) (x0 x1 x2 x3 x4) : exec cl N c89_12 (e34 x0 x1 x2 x3 x4) K = g89_12 S112 (fun y0 y1 y2 y3 y4 => K .normal (e34 y0 y1 y2 y3 y4)) (fun y0 y1 y2 y3 y4 => K (.exit 0) (e34 y0 y1 y2 y3 y4)) x0 x1 x2 x3 x4 := by
 simp only [c89_12, B0, t89_4, c89_5, exec_out, B1, hb89_0, Option.bind_some, exec_exit, kp89_1, c89_10, B2, t89_9 S112 h112, kp89_0, t89_11]
 rfl
def l89_13 {R : Type} (S112 : s112) (k0 : K1 R) : Nat → V0 → V0 → V0 → Int → Int → Option R
 | 0, _, _, _, _, _ => none
 | m + 1, x0, x1, x2, x3, x4 => (g89_12 S112 (l89_13 S112 k0 m) k0 x0 x1 x2 x3 x4)
theorem lt89_13 (S112) (h112 : (ctr112 S112).holds cl) : ∀ (m) (x0 x1 x2 x3 x4), iter [0, 1, 5, 6, 7] (fun env K => exec cl N c89_12 env K) K m (e34 x0 x1 x2 x3 x4) = l89_13 S112 (fun y0 y1 y2 y3 y4 => K (.exit 0) (e34 y0 y1 y2 y3 y4)) m x0 x1 x2 x3 x4 := by
 intro m
 induction m with
 | zero => intros; rfl
 | succ m ih =>
   intro x0 x1 x2 x3 x4
   simp only [B3, t89_12 S112 h112, kp89_0, ih]
   rfl
theorem kp89_2 (x0 x1 x2 x3 x4) : keep [5, 6] (e34 x0 x1 x2 x3 x4) = e40 x2 x3 := by kernel_rfl
def g89_13 (N : Nat) (S112 : s112) (k0 : V0 → Int → Option R) (x0 x1 x2 : V0) (x3 x4 : Int) : Option R :=
l89_13 S112 (fun y0 y1 y2 y3 y4 => k0 y2 y3) N x0 x1 x2 x3 x4
theorem t89_13 (S112) (h112 : (ctr112 S112).holds cl) (x0 x1 x2 x3 x4) : exec cl N c89_13 (e34 x0 x1 x2 x3 x4) K = g89_13 N S112 (fun y0 y1 => K (.exit 0) (e40 y0 y1)) x0 x1 x2 x3 x4 := by
 simp only [c89_13, exec_out, exec_loop, kp89_0, lt89_13 S112 h112, kp89_2]
 rfl
theorem kp89_3 (x0 x1) : keep [5, 6] (e40 x0 x1) = e40 x0 x1 := by kernel_rfl
def g89_15 (S113 : s113) (k0 : K38 R) (x0 : V0) (x1 : Int) : Option R :=
if x0.length + [x1].length ≤ 17592186044416 then
(S113 (x0 ++ [x1])).bind fun r203 =>
k0 r203
else none
theorem t89_15 (S113) (h113 : (ctr113 S113).holds cl) (x0 x1) : exec cl N c89_15 (e40 x0 x1) K = g89_15 S113 (fun y0 => K .normal [(4, .v U2 y0)]) x0 x1 := by
 rw [← put_eq h113]
 kernel_rfl
def g89_16b (N : Nat) (S112 : s112) (S113 : s113) (k0 : K38 R) (x0 x1 : V0) := (g89_16 (g89_3 (g89_13 N S112 ((g89_15 S113 k0)))) x0 x1)
theorem t89_16b (S112) (S113) (h112 : (ctr112 S112).holds cl) (h113 : (ctr113 S113).holds cl) (x0 x1) : exec cl N c89_16 (e20 x0 x1) K = g89_16b N S112 S113 (fun y0 => K .ret [(4, .v U2 y0)]) x0 x1 := by
 simp only [B0, t89_16, t89_3, c89_14, exec_out, B2, t89_13 S112 h112, kp89_3, t89_15 S113 h113, exec_ret]
 rfl
theorem rk89_0 (y0) : retK d89 .ret [(4, .v U2 y0)] = some [.v U2 y0] := by kernel_rfl
def g89 (N : Nat) (S112 : s112) (S113 : s113) (x0 x1 : V0) (k : V0 → Option R) := (g89_16b N S112 S113 k x0 x1)
theorem gen89 (S112) (S113) (h112 : (ctr112 S112).holds cl) (h113 : (ctr113 S113).holds cl) (x0 x1) (k : List E → Option R) : exec cl N c89 (e20 x0 x1) (fun e env => (retK d89 e env).bind k) = g89 N S112 S113 x0 x1 (fun r0 => k [.v U2 r0]) := by
 simp only [c89, t89_16b S112 S113 h112 h113, rk89_0, Option.bind_some]
 rfl
def ctr89 (S : s89) : Ctr := cv2 89 U2 U2 S fun b => [.v U2 b]
def S89 (N : Nat) (x0 : V0) (x1 : V0) : Option V2 := g89 N (S112 N) (S113 N) x0 x1 (fun r0 => some (r0))
def g83_0 (k0 : K35 R) (x0 x1 : V5) := k0 x0 x1 ([], ())
theorem t83_0 (x0 x1) : exec cl N c83_0 (e41 x0 x1) K = g83_0 (fun y0 y1 y2 => K .normal (e42 y0 y1 y2)) x0 x1 := by kernel_rfl
def g83_1 (S86 : s86) (k0 : K20 R) (x0 x1 x2 : V5) : Option R :=
(S86 x0).bind fun r206 =>
brB (!r206) (k0 x0 x1 x2 true) ((S86 x1).bind fun r207 =>
k0 x0 x1 x2 (!r207))
theorem t83_1 (S86) (h86 : (ctr86 S86).holds cl) (x0 x1 x2) : exec cl N c83_1 (e42 x0 x1 x2) K = g83_1 S86 (fun y0 y1 y2 y3 => K .normal (e43 y0 y1 y2 y3)) x0 x1 x2 := by
 rw [← put_eq h86]
 kernel_rfl
def g83_2 (k0 : K3 R) (x0 x1 x2 : V5) (x3 : Bool) := k0 ([], ()) (1 : Int)
theorem t83_2 (x0 x1 x2 x3) : exec cl N c83_2 (e43 x0 x1 x2 x3) K = g83_2 (fun y0 y1 => K .normal (e44 y0 y1)) x0 x1 x2 x3 := by kernel_rfl
theorem kp83_0 (x0 x1) : keep [2, 3, 4, 5] (e44 x0 x1) = e45 x0 x1 := by kernel_rfl
theorem kp83_1 (x0 x1 x2 x3) : keep [2, 3, 4, 5] (e43 x0 x1 x2 x3) = e46 x0 x1 x2 := by kernel_rfl
theorem hb83_0 (x0 x1 x2 x3) : boolOf? (ent (e43 x0 x1 x2 x3) (.t 18)) = some x3 := by kernel_rfl
def g83_4 (k0 : K40 R) (x0 x1 x2 : V5) := k0 x2 x0.1 x1.1
theorem t83_4 (x0 x1 x2) : exec cl N c83_4 (e46 x0 x1 x2) K = g83_4 (fun y0 y1 y2 => K .normal (e47 y0 y1 y2)) x0 x1 x2 := by kernel_rfl
def g83_5 (k0 : V5 → V0 → V0 → Bool → Option R) (x0 : V5) (x1 x2 : V0) := k0 x0 x1 x2 ((x1.length : Int) == (0 : Int))
theorem t83_5 (x0 x1 x2) : exec cl N c83_5 (e47 x0 x1 x2) K = g83_5 (fun y0 y1 y2 y3 => K .normal (e48 y0 y1 y2 y3)) x0 x1 x2 := by kernel_rfl
def g83_6 (k0 : K3 R) (x0 : V5) (x1 x2 : V0) (x3 : Bool) : Option R :=
if ([] : List Int).length + x2.length ≤ 17592186044416 then
k0 ((([] : List Int) ++ x2), ()) (0 : Int)
else none
theorem t83_6 (x0 x1 x2 x3) : exec cl N c83_6 (e48 x0 x1 x2 x3) K = g83_6 (fun y0 y1 => K .normal (e49 y0 y1)) x0 x1 x2 x3 := by kernel_rfl
theorem kp83_2 (x0 x1) : keep [4, 5, 6, 7] (e49 x0 x1) = e50 x0 x1 := by kernel_rfl
theorem kp83_3 (x0 x1 x2 x3) : keep [4, 5, 6, 7] (e48 x0 x1 x2 x3) = e51 x0 x1 x2 := by kernel_rfl
theorem hb83_1 (x0 x1 x2 x3) : boolOf? (ent (e48 x0 x1 x2 x3) (.t 26)) = some x3 := by kernel_rfl
def g83_8 (k0 : K18 R) (x0 : V5) (x1 x2 : V0) := k0 x0 x1 x2 (0 : Int)
theorem t83_8 (x0 x1 x2) : exec cl N c83_8 (e51 x0 x1 x2) K = g83_8 (fun y0 y1 y2 y3 => K .normal (e52 y0 y1 y2 y3)) x0 x1 x2 := by kernel_rfl
theorem kp83_4 (x0 x1 x2 x3) : keep [4, 6, 7, 8] (e52 x0 x1 x2 x3) = e52 x0 x1 x2 x3 := by kernel_rfl
def g83_9 (k0 : K26 R) (x0 : V5) (x1 x2 : V0) (x3 : Int) := k0 x0 x1 x2 x3 (decide ((x2.length : Int) > (0 : Int)))
theorem t83_9 (x0 x1 x2 x3) : exec cl N c83_9 (e52 x0 x1 x2 x3) K = g83_9 (fun y0 y1 y2 y3 y4 => K .normal (e53 y0 y1 y2 y3 y4)) x0 x1 x2 x3 := by kernel_rfl
theorem kp83_5 (x0 x1 x2 x3 x4) : keep [4, 6, 7, 8] (e53 x0 x1 x2 x3 x4) = e52 x0 x1 x2 x3 := by kernel_rfl
theorem hb83_2 (x0 x1 x2 x3 x4) : boolOf? (ent (e53 x0 x1 x2 x3 x4) (.t 33)) = some x4 := by kernel_rfl
def g83_11 (S108 : s108) (k0 : K26 R) (x0 : V5) (x1 x2 : V0) (x3 : Int) : Option R :=
(S108 x1).bind fun r211 =>
brB r211 ((S108 x2).bind fun r212 =>
k0 x0 x1 x2 x3 r212) (k0 x0 x1 x2 x3 false)
theorem t83_11 (S108) (h108 : (ctr108 S108).holds cl) (x0 x1 x2 x3) : exec cl N c83_11 (e52 x0 x1 x2 x3) K = g83_11 S108 (fun y0 y1 y2 y3 y4 => K .normal (e54 y0 y1 y2 y3 y4)) x0 x1 x2 x3 := by
 rw [← put_eq h108]
 kernel_rfl
def g83_14 (S109 : s109) (k0 : K18 R) (x0 : V5) (x1 x2 : V0) (x3 : Int) (x4 : Bool) : Option R :=
(S109 x1).bind fun r215 =>
(S109 x2).bind fun r216 =>
k0 x0 r215 r216 (IntKind.i64.wrap (x3 + (1 : Int)))
theorem t83_14 (S109) (h109 : (ctr109 S109).holds cl) (x0 x1 x2 x3 x4) : exec cl N c83_14 (e54 x0 x1 x2 x3 x4) K = g83_14 S109 (fun y0 y1 y2 y3 => K .normal (e52 y0 y1 y2 y3)) x0 x1 x2 x3 x4 := by
 rw [← put_eq h109]
 kernel_rfl
def g83_15 (S108 : s108) (k0 : K26 R) (x0 : V5) (x1 x2 : V0) (x3 : Int) (x4 : Bool) : Option R :=
(S108 x1).bind fun r218 =>
k0 x0 x1 x2 x3 r218
theorem t83_15 (S108) (h108 : (ctr108 S108).holds cl) (x0 x1 x2 x3 x4) : exec cl N c83_15 (e54 x0 x1 x2 x3 x4) K = g83_15 S108 (fun y0 y1 y2 y3 y4 => K .normal (e55 y0 y1 y2 y3 y4)) x0 x1 x2 x3 x4 := by
 rw [← put_eq h108]
 kernel_rfl
def g83_16 (S109 : s109) (k0 : K18 R) (x0 : V5) (x1 x2 : V0) (x3 : Int) (x4 : Bool) : Option R :=
(S109 x1).bind fun r219 =>
k0 x0 r219 x2 x3
theorem t83_16 (S109) (h109 : (ctr109 S109).holds cl) (x0 x1 x2 x3 x4) : exec cl N c83_16 (e55 x0 x1 x2 x3 x4) K = g83_16 S109 (fun y0 y1 y2 y3 => K .normal (e52 y0 y1 y2 y3)) x0 x1 x2 x3 x4 := by
 rw [← put_eq h109]
 kernel_rfl
def g83_17 (S108 : s108) (k0 : K26 R) (x0 : V5) (x1 x2 : V0) (x3 : Int) (x4 : Bool) : Option R :=
(S108 x2).bind fun r220 =>
k0 x0 x1 x2 x3 r220
theorem t83_17 (S108) (h108 : (ctr108 S108).holds cl) (x0 x1 x2 x3 x4) : exec cl N c83_17 (e55 x0 x1 x2 x3 x4) K = g83_17 S108 (fun y0 y1 y2 y3 y4 => K .normal (e56 y0 y1 y2 y3 y4)) x0 x1 x2 x3 x4 := by
 rw [← put_eq h108]
 kernel_rfl
def g83_18 (S109 : s109) (k0 : K18 R) (x0 : V5) (x1 x2 : V0) (x3 : Int) (x4 : Bool) : Option R :=
(S109 x2).bind fun r221 =>
k0 x0 x1 r221 x3
theorem t83_18 (S109) (h109 : (ctr109 S109).holds cl) (x0 x1 x2 x3 x4) : exec cl N c83_18 (e56 x0 x1 x2 x3 x4) K = g83_18 S109 (fun y0 y1 y2 y3 => K .normal (e52 y0 y1 y2 y3)) x0 x1 x2 x3 x4 := by
 rw [← put_eq h109]
 kernel_rfl
def g83_19 (S90 : s90) (k0 : K26 R) (x0 : V5) (x1 x2 : V0) (x3 : Int) (x4 : Bool) : Option R :=
(S90 x1 x2).bind fun r222 =>
k0 x0 x1 x2 x3 (decide (r222 > (0 : Int)))
theorem t83_19 (S90) (h90 : (ctr90 S90).holds cl) (x0 x1 x2 x3 x4) : exec cl N c83_19 (e56 x0 x1 x2 x3 x4) K = g83_19 S90 (fun y0 y1 y2 y3 y4 => K .normal (e57 y0 y1 y2 y3 y4)) x0 x1 x2 x3 x4 := by
 rw [← put_eq h90]
 kernel_rfl
def g83_20 (S91 : s91) (k0 : K18 R) (x0 : V5) (x1 x2 : V0) (x3 : Int) (x4 : Bool) : Option R :=
(S91 x1 x2).bind fun r224 =>
k0 x0 x2 r224 x3
theorem t83_20 (S91) (h91 : (ctr91 S91).holds cl) (x0 x1 x2 x3 x4) : exec cl N c83_20 (e57 x0 x1 x2 x3 x4) K = g83_20 S91 (fun y0 y1 y2 y3 => K .normal (e52 y0 y1 y2 y3)) x0 x1 x2 x3 x4 := by
 rw [← put_eq h91]
 kernel_rfl
def g83_21 (S91 : s91) (k0 : K18 R) (x0 : V5) (x1 x2 : V0) (x3 : Int) (x4 : Bool) : Option R :=
(S91 x2 x1).bind fun r225 =>
k0 x0 x1 r225 x3
theorem t83_21 (S91) (h91 : (ctr91 S91).holds cl) (x0 x1 x2 x3 x4) : exec cl N c83_21 (e57 x0 x1 x2 x3 x4) K = g83_21 S91 (fun y0 y1 y2 y3 => K .normal (e52 y0 y1 y2 y3)) x0 x1 x2 x3 x4 := by
 rw [← put_eq h91]
 kernel_rfl
theorem hb83_3 (x0 x1 x2 x3 x4) : boolOf? (ent (e57 x0 x1 x2 x3 x4) (.t 60)) = some x4 := by kernel_rfl
theorem hb83_4 (x0 x1 x2 x3 x4) : boolOf? (ent (e56 x0 x1 x2 x3 x4) (.t 55)) = some x4 := by kernel_rfl
theorem hb83_5 (x0 x1 x2 x3 x4) : boolOf? (ent (e55 x0 x1 x2 x3 x4) (.t 50)) = some x4 := by kernel_rfl
theorem hb83_6 (x0 x1 x2 x3 x4) : boolOf? (ent (e54 x0 x1 x2 x3 x4) (.t 37)) = some x4 := by kernel_rfl
def g83_28 (S90 : s90) (S91 : s91) (S108 : s108) (S109 : s109) (k0 : K18 R) (k1 : K18 R) (x0 : V5) (x1 x2 : V0) (x3 : Int) := (g83_9 (fun y0 y1 y2 y3 y4 => brB y4 ((g83_11 S108 (fun y0 y1 y2 y3 y4 => brB y4 (g83_14 S109 k0 y0 y1 y2 y3 y4) (g83_15 S108 (fun y0 y1 y2 y3 y4 => brB y4 (g83_16 S109 k0 y0 y1 y2 y3 y4) (g83_17 S108 (fun y0 y1 y2 y3 y4 => brB y4 (g83_18 S109 k0 y0 y1 y2 y3 y4) (g83_19 S90 (fun y0 y1 y2 y3 y4 => brB y4 (g83_20 S91 k0 y0 y1 y2 y3 y4) (g83_21 S91 k0 y0 y1 y2 y3 y4)) y0 y1 y2 y3 y4)) y0 y1 y2 y3 y4)) y0 y1 y2 y3 y4))) y0 y1 y2 y3) (k1 y0 y1 y2 y3)) x0 x1 x2 x3)
theorem t83_28 (S90) (S91) (S108) (S109) (h90 : (ctr90 S90).holds cl) (h91 : (ctr91 S91).holds cl) (h108 : (ctr108 S108).holds cl) (h109 : (ctr109 S109).holds cl) (x0 x1 x2 x3) : exec cl N c83_28 (e52 x0 x1 x2 x3) K = g83_28 S90 S91 S108 S109 (fun y0 y1 y2 y3 => K .normal (e52 y0 y1 y2 y3)) (fun y0 y1 y2 y3 => K (.exit 0) (e52 y0 y1 y2 y3)) x0 x1 x2 x3 := by
 simp only [c83_28, B0, t83_9, c83_10, exec_out, B1, hb83_2, Option.bind_some, exec_exit, kp83_5, c83_27, B2, c83_26, t83_11 S108 h108, c83_25, hb83_6, t83_14 S109 h109, t83_15 S108 h108, c83_24, hb83_5, t83_16 S109 h109, t83_17 S108 h108, c83_23, hb83_4, t83_18 S109 h109, t83_19 S90 h90, c83_22, hb83_3, t83_20 S91 h91, t83_21 S91 h91, kp83_4]
 rfl
def l83_29 {R : Type} (S90 : s90) (S91 : s91) (S108 : s108) (S109 : s109) (k0 : K18 R) : Nat → V5 → V0 → V0 → Int → Option R
 | 0, _, _, _, _ => none
 | m + 1, x0, x1, x2, x3 => (g83_28 S90 S91 S108 S109 (l83_29 S90 S91 S108 S109 k0 m) k0 x0 x1 x2 x3)
theorem lt83_29 (S90) (S91) (S108) (S109) (h90 : (ctr90 S90).holds cl) (h91 : (ctr91 S91).holds cl) (h108 : (ctr108 S108).holds cl) (h109 : (ctr109 S109).holds cl) : ∀ (m) (x0 x1 x2 x3), iter [4, 6, 7, 8] (fun env K => exec cl N c83_28 env K) K m (e52 x0 x1 x2 x3) = l83_29 S90 S91 S108 S109 (fun y0 y1 y2 y3 => K (.exit 0) (e52 y0 y1 y2 y3)) m x0 x1 x2 x3 := by
 intro m
 induction m with
 | zero => intros; rfl
 | succ m ih =>
   intro x0 x1 x2 x3
   simp only [B3, t83_28 S90 S91 S108 S109 h90 h91 h108 h109, kp83_4, ih]
   rfl
theorem kp83_6 (x0 x1 x2 x3) : keep [4, 6, 8] (e52 x0 x1 x2 x3) = e58 x0 x1 x3 := by kernel_rfl
def g83_29 (N : Nat) (S90 : s90) (S91 : s91) (S108 : s108) (S109 : s109) (k0 : V5 → V0 → Int → Option R) (x0 : V5) (x1 x2 : V0) (x3 : Int) : Option R :=
l83_29 S90 S91 S108 S109 (fun y0 y1 y2 y3 => k0 y0 y1 y3) N x0 x1 x2 x3
theorem t83_29 (S90) (S91) (S108) (S109) (h90 : (ctr90 S90).holds cl) (h91 : (ctr91 S91).holds cl) (h108 : (ctr108 S108).holds cl) (h109 : (ctr109 S109).holds cl) (x0 x1 x2 x3) : exec cl N c83_29 (e52 x0 x1 x2 x3) K = g83_29 N S90 S91 S108 S109 (fun y0 y1 y2 => K (.exit 0) (e58 y0 y1 y2)) x0 x1 x2 x3 := by
 simp only [c83_29, exec_out, exec_loop, kp83_4, lt83_29 S90 S91 S108 S109 h90 h91 h108 h109, kp83_6]
 rfl
theorem kp83_7 (x0 x1 x2) : keep [4, 6, 8] (e58 x0 x1 x2) = e58 x0 x1 x2 := by kernel_rfl
def g83_31 (k0 : V5 → Int → V0 → Option R) (x0 : V5) (x1 : V0) (x2 : Int) : Option R :=
if ([] : List Int).length + x1.length ≤ 17592186044416 then
k0 x0 x2 (([] : List Int) ++ x1)
else none
theorem t83_31 (x0 x1 x2) : exec cl N c83_31 (e58 x0 x1 x2) K = g83_31 (fun y0 y1 y2 => K .normal (e59 y0 y1 y2)) x0 x1 x2 := by kernel_rfl
def g83_32 (k0 : K30 R) (x0 : V5) (x1 : Int) (x2 : V0) := k0 x0 x1 x2 (0 : Int)
theorem t83_32 (x0 x1 x2) : exec cl N c83_32 (e59 x0 x1 x2) K = g83_32 (fun y0 y1 y2 y3 => K .normal (e60 y0 y1 y2 y3)) x0 x1 x2 := by kernel_rfl
theorem kp83_8 (x0 x1 x2 x3) : keep [4, 8, 9, 10] (e60 x0 x1 x2 x3) = e60 x0 x1 x2 x3 := by kernel_rfl
def g83_33 (k0 : V5 → Int → V0 → Int → Bool → Option R) (x0 : V5) (x1 : Int) (x2 : V0) (x3 : Int) := k0 x0 x1 x2 x3 (decide (x3 < x1))
theorem t83_33 (x0 x1 x2 x3) : exec cl N c83_33 (e60 x0 x1 x2 x3) K = g83_33 (fun y0 y1 y2 y3 y4 => K .normal (e61 y0 y1 y2 y3 y4)) x0 x1 x2 x3 := by kernel_rfl
theorem kp83_9 (x0 x1 x2 x3 x4) : keep [4, 8, 9, 10] (e61 x0 x1 x2 x3 x4) = e60 x0 x1 x2 x3 := by kernel_rfl
theorem hb83_7 (x0 x1 x2 x3 x4) : boolOf? (ent (e61 x0 x1 x2 x3 x4) (.t 74)) = some x4 := by kernel_rfl
def g83_35 (S89 : s89) (k0 : K30 R) (x0 : V5) (x1 : Int) (x2 : V0) (x3 : Int) : Option R :=
(S89 x2 x2).bind fun r227 =>
k0 x0 x1 r227 x3
theorem t83_35 (S89) (h89 : (ctr89 S89).holds cl) (x0 x1 x2 x3) : exec cl N c83_35 (e60 x0 x1 x2 x3) K = g83_35 S89 (fun y0 y1 y2 y3 => K .normal (e60 y0 y1 y2 y3)) x0 x1 x2 x3 := by
 rw [← put_eq h89]
 kernel_rfl
def g83_37 (k0 : K30 R) (x0 : V5) (x1 : Int) (x2 : V0) (x3 : Int) := k0 x0 x1 x2 (IntKind.i64.wrap (x3 + (1 : Int)))
theorem t83_37 (x0 x1 x2 x3) : exec cl N c83_37 (e60 x0 x1 x2 x3) K = g83_37 (fun y0 y1 y2 y3 => K .normal (e60 y0 y1 y2 y3)) x0 x1 x2 x3 := by kernel_rfl
def g83_38 (S89 : s89) (k0 : K30 R) (k1 : K30 R) (x0 : V5) (x1 : Int) (x2 : V0) (x3 : Int) := (g83_33 (fun y0 y1 y2 y3 y4 => brB y4 ((g83_35 S89 ((g83_37 k0))) y0 y1 y2 y3) (k1 y0 y1 y2 y3)) x0 x1 x2 x3)
theorem t83_38 (S89) (h89 : (ctr89 S89).holds cl) (x0 x1 x2 x3) : exec cl N c83_38 (e60 x0 x1 x2 x3) K = g83_38 S89 (fun y0 y1 y2 y3 => K .normal (e60 y0 y1 y2 y3)) (fun y0 y1 y2 y3 => K (.exit 3) (e60 y0 y1 y2 y3)) x0 x1 x2 x3 := by
 simp only [c83_38, B0, t83_33, c83_34, exec_out, B1, hb83_7, Option.bind_some, exec_exit, kp83_9, c83_36, B2, t83_35 S89 h89, kp83_8, t83_37]
 rfl
def l83_39 {R : Type} (S89 : s89) (k0 : K30 R) : Nat → V5 → Int → V0 → Int → Option R
 | 0, _, _, _, _ => none
 | m + 1, x0, x1, x2, x3 => (g83_38 S89 (l83_39 S89 k0 m) k0 x0 x1 x2 x3)
theorem lt83_39 (S89) (h89 : (ctr89 S89).holds cl) : ∀ (m) (x0 x1 x2 x3), iter [4, 8, 9, 10] (fun env K => exec cl N c83_38 env K) K m (e60 x0 x1 x2 x3) = l83_39 S89 (fun y0 y1 y2 y3 => K (.exit 3) (e60 y0 y1 y2 y3)) m x0 x1 x2 x3 := by
 intro m
 induction m with
 | zero => intros; rfl
 | succ m ih =>
   intro x0 x1 x2 x3
   simp only [B3, t83_38 S89 h89, kp83_8, ih]
   rfl
theorem kp83_10 (x0 x1 x2 x3) : keep [4, 9] (e60 x0 x1 x2 x3) = e62 x0 x2 := by kernel_rfl
def g83_39 (N : Nat) (S89 : s89) (k0 : V5 → V0 → Option R) (x0 : V5) (x1 : Int) (x2 : V0) (x3 : Int) : Option R :=
l83_39 S89 (fun y0 y1 y2 y3 => k0 y0 y2) N x0 x1 x2 x3
theorem t83_39 (S89) (h89 : (ctr89 S89).holds cl) (x0 x1 x2 x3) : exec cl N c83_39 (e60 x0 x1 x2 x3) K = g83_39 N S89 (fun y0 y1 => K (.exit 3) (e62 y0 y1)) x0 x1 x2 x3 := by
 simp only [c83_39, exec_out, exec_loop, kp83_8, lt83_39 S89 h89, kp83_10]
 rfl
theorem kp83_11 (x0 x1) : keep [4, 9] (e62 x0 x1) = e62 x0 x1 := by kernel_rfl
def g83_41 (k0 : K3 R) (x0 : V5) (x1 : V0) := k0 (x1, ()) (0 : Int)
theorem t83_41 (x0 x1) : exec cl N c83_41 (e62 x0 x1) K = g83_41 (fun y0 y1 => K .normal (e49 y0 y1)) x0 x1 := by kernel_rfl
def g83_42 (N : Nat) (S86 : s86) (S89 : s89) (S90 : s90) (S91 : s91) (S108 : s108) (S109 : s109) (k0 : K3 R) (k1 : K3 R) (k2 : K3 R) (x0 x1 : V5) := (g83_0 (g83_1 S86 (fun y0 y1 y2 y3 => brB y3 (g83_2 k0 y0 y1 y2 y3) ((g83_4 (g83_5 (fun y0 y1 y2 y3 => brB y3 (g83_6 k1 y0 y1 y2 y3) ((g83_8 (g83_29 N S90 S91 S108 S109 ((g83_31 (g83_32 (g83_39 N S89 ((g83_41 k2)))))))) y0 y1 y2)))) y0 y1 y2))) x0 x1)
theorem t83_42 (S86) (S89) (S90) (S91) (S108) (S109) (h86 : (ctr86 S86).holds cl) (h89 : (ctr89 S89).holds cl) (h90 : (ctr90 S90).holds cl) (h91 : (ctr91 S91).holds cl) (h108 : (ctr108 S108).holds cl) (h109 : (ctr109 S109).holds cl) (x0 x1) : exec cl N c83_42 (e41 x0 x1) K = g83_42 N S86 S89 S90 S91 S108 S109 (fun y0 y1 => K .ret (e45 y0 y1)) (fun y0 y1 => K .ret (e50 y0 y1)) (fun y0 y1 => K .ret (e49 y0 y1)) x0 x1 := by
 simp only [c83_42, B0, t83_0, t83_1 S86 h86, c83_3, exec_out, B1, hb83_0, Option.bind_some, t83_2, exec_ret, kp83_0, kp83_1, t83_4, t83_5, c83_7, hb83_1, t83_6, kp83_2, kp83_3, t83_8, c83_30, B2, t83_29 S90 S91 S108 S109 h90 h91 h108 h109, kp83_7, t83_31, t83_32, c83_40, t83_39 S89 h89, kp83_11, t83_41]
 rfl
theorem rk83_0 (y0 y1) : retK d83 .ret (e45 y0 y1) = some [.v U5 y0, .v U1 y1] := by kernel_rfl
theorem rk83_1 (y0 y1) : retK d83 .ret (e50 y0 y1) = some [.v U5 y0, .v U1 y1] := by kernel_rfl
theorem rk83_2 (y0 y1) : retK d83 .ret (e49 y0 y1) = some [.v U5 y0, .v U1 y1] := by kernel_rfl
def g83 (N : Nat) (S86 : s86) (S89 : s89) (S90 : s90) (S91 : s91) (S108 : s108) (S109 : s109) (x0 x1 : V5) (k : V5 → Int → Option R) := (g83_42 N S86 S89 S90 S91 S108 S109 k k k x0 x1)
theorem gen83 (S86) (S89) (S90) (S91) (S108) (S109) (h86 : (ctr86 S86).holds cl) (h89 : (ctr89 S89).holds cl) (h90 : (ctr90 S90).holds cl) (h91 : (ctr91 S91).holds cl) (h108 : (ctr108 S108).holds cl) (h109 : (ctr109 S109).holds cl) (x0 x1) (k : List E → Option R) : exec cl N c83 (e41 x0 x1) (fun e env => (retK d83 e env).bind k) = g83 N S86 S89 S90 S91 S108 S109 x0 x1 (fun r0 r1 => k [.v U5 r0, .v U1 r1]) := by
 simp only [c83, t83_42 S86 S89 S90 S91 S108 S109 h86 h89 h90 h91 h108 h109, rk83_0, rk83_1, rk83_2, Option.bind_some]
 rfl
def ctr83 (S : s83) : Ctr := cv2 83 U5 U5 S fun b => [.v U5 b.1, .v U1 b.2]
def S83 (N : Nat) (x0 : V5) (x1 : V5) : Option V9 := g83 N (S86 N) (S89 N) (S90 N) (S91 N) (S108 N) (S109 N) x0 x1 (fun r0 r1 => some (r0, r1))
def g88_25 (k0 : V0 → V0 → V0 → Option R) (x0 x1 : V0) : Option R :=
let v277 : Int := (IntKind.i64.wrap ((IntKind.i64.wrap ((x0.length : Int) + (x1.length : Int))) + (1 : Int)))
if 0 ≤ v277 ∧ v277 ≤ v277 ∧ v277 ≤ ((17592186044416 : Nat) : Int) then
k0 x0 x1 (List.replicate v277.toNat (0 : Int))
else none
theorem t88_25 (x0 x1) : exec cl N c88_25 (e20 x0 x1) K = g88_25 (fun y0 y1 y2 => exec cl N (.seq (.seq c88_2 c88_23) (.seq c88_24 .ret)) (e63 y0 y1 y2) K) x0 x1 := by kernel_rfl
def g88_2 (k0 : K17 R) (x0 x1 x2 : V0) := k0 x0 x1 x2 (0 : Int)
theorem t88_2 (x0 x1 x2) : exec cl N c88_2 (e63 x0 x1 x2) K = g88_2 (fun y0 y1 y2 y3 => K .normal (e33 y0 y1 y2 y3)) x0 x1 x2 := by kernel_rfl
theorem kp88_0 (x0 x1 x2 x3) : keep [0, 1, 5, 6] (e33 x0 x1 x2 x3) = e33 x0 x1 x2 x3 := by kernel_rfl
def g88_3 (k0 : V0 → V0 → V0 → Int → Bool → Option R) (x0 x1 x2 : V0) (x3 : Int) := k0 x0 x1 x2 x3 (decide (x3 < (x0.length : Int)))
theorem t88_3 (x0 x1 x2 x3) : exec cl N c88_3 (e33 x0 x1 x2 x3) K = g88_3 (fun y0 y1 y2 y3 y4 => K .normal (e64 y0 y1 y2 y3 y4)) x0 x1 x2 x3 := by kernel_rfl
theorem kp88_1 (x0 x1 x2 x3 x4) : keep [0, 1, 5, 6] (e64 x0 x1 x2 x3 x4) = e33 x0 x1 x2 x3 := by kernel_rfl
theorem hb88_0 (x0 x1 x2 x3 x4) : boolOf? (ent (e64 x0 x1 x2 x3 x4) (.t 20)) = some x4 := by kernel_rfl
def g88_18 (k0 : K6 R) (x0 x1 x2 : V0) (x3 : Int) := k0 x0 x1 x2 x3 (0 : Int) (0 : Int)
theorem t88_18 (x0 x1 x2 x3) : exec cl N c88_18 (e33 x0 x1 x2 x3) K = g88_18 (fun y0 y1 y2 y3 y4 y5 => exec cl N c88_17 (e36 y0 y1 y2 y3 y4 y5) K) x0 x1 x2 x3 := by kernel_rfl
theorem kp88_2 (x0 x1 x2 x3 x4 x5) : keep [0, 1, 5, 6, 7, 8] (e36 x0 x1 x2 x3 x4 x5) = e36 x0 x1 x2 x3 x4 x5 := by kernel_rfl
def g88_7 (k0 : V0 → V0 → V0 → Int → Int → Int → Bool → Option R) (x0 x1 x2 : V0) (x3 x4 x5 : Int) : Option R :=
brB (decide (x5 < (x1.length : Int))) (k0 x0 x1 x2 x3 x4 x5 true) (k0 x0 x1 x2 x3 x4 x5 (decide (x4 > (0 : Int))))
theorem t88_7 (x0 x1 x2 x3 x4 x5) : exec cl N c88_7 (e36 x0 x1 x2 x3 x4 x5) K = g88_7 (fun y0 y1 y2 y3 y4 y5 y6 => K .normal (e65 y0 y1 y2 y3 y4 y5 y6)) x0 x1 x2 x3 x4 x5 := by kernel_rfl
theorem kp88_3 (x0 x1 x2 x3 x4 x5 x6) : keep [0, 1, 5, 6, 7, 8] (e65 x0 x1 x2 x3 x4 x5 x6) = e36 x0 x1 x2 x3 x4 x5 := by kernel_rfl
theorem hb88_1 (x0 x1 x2 x3 x4 x5 x6) : boolOf? (ent (e65 x0 x1 x2 x3 x4 x5 x6) (.t 30)) = some x6 := by kernel_rfl
def g88_12 (S112 : s112) (k0 : K6 R) (x0 x1 x2 : V0) (x3 x4 x5 : Int) : Option R :=
let v295 : Int := (IntKind.i64.wrap (x3 + x5))
if 0 ≤ v295 ∧ v295 < (x2.length : Int) then
if v295.toNat < x2.length then
if 0 ≤ x3 ∧ x3 < (x0.length : Int) then
(S112 x1 x5).bind fun r297 =>
let v300 : Int := (IntKind.i64.wrap ((IntKind.i64.wrap ((x2.getD v295.toNat (0 : Int)) + (IntKind.i64.wrap ((x0.getD x3.toNat (0 : Int)) * r297)))) + x4))
let v301 : Int := (IntKind.i64.wrap (x3 + x5))
if 0 ≤ v301 ∧ v301 < (x2.length : Int) then
if v301.toNat < x2.length then
k0 x0 x1 (x2.set v301.toNat (Int.tmod v300 (10000 : Int))) x3 (IntKind.i64.wrap (Int.tdiv v300 (10000 : Int))) x5
else none
else none
else none
else none
else none
theorem t88_12 (S112) (h112 : (ctr112 S112).holds cl) (x0 x1 x2 x3 x4 x5) : exec cl N c88_12 (e36 x0 x1 x2 x3 x4 x5) K = g88_12 S112 (fun y0 y1 y2 y3 y4 y5 => K .normal (e36 y0 y1 y2 y3 y4 y5)) x0 x1 x2 x3 x4 x5 := by
 rw [← put_eq h112]
 kernel_rfl
def g88_14 (k0 : K6 R) (x0 x1 x2 : V0) (x3 x4 x5 : Int) := k0 x0 x1 x2 x3 x4 (IntKind.i64.wrap (x5 + (1 : Int)))
theorem t88_14 (x0 x1 x2 x3 x4 x5) : exec cl N c88_14 (e36 x0 x1 x2 x3 x4 x5) K = g88_14 (fun y0 y1 y2 y3 y4 y5 => K .normal (e36 y0 y1 y2 y3 y4 y5)) x0 x1 x2 x3 x4 x5 := by kernel_rfl
def g88_15 (S112 : s112) (k0 : K6 R) (k1 : K6 R) (x0 x1 x2 : V0) (x3 x4 x5 : Int) := (g88_7 (fun y0 y1 y2 y3 y4 y5 y6 => brB y6 ((g88_12 S112 ((g88_14 k0))) y0 y1 y2 y3 y4 y5) (k1 y0 y1 y2 y3 y4 y5)) x0 x1 x2 x3 x4 x5)
theorem t88_15 (S112) (h112 : (ctr112 S112).holds cl) (x0 x1 x2 x3 x4 x5) : exec cl N c88_15 (e36 x0 x1 x2 x3 x4 x5) K = g88_15 S112 (fun y0 y1 y2 y3 y4 y5 => K .normal (e36 y0 y1 y2 y3 y4 y5)) (fun y0 y1 y2 y3 y4 y5 => K (.exit 2) (e36 y0 y1 y2 y3 y4 y5)) x0 x1 x2 x3 x4 x5 := by
 simp only [c88_15, B0, t88_7, c88_8, exec_out, B1, hb88_1, Option.bind_some, exec_exit, kp88_3, c88_13, B2, t88_12 S112 h112, kp88_2, t88_14]
 rfl
def l88_16 {R : Type} (S112 : s112) (k0 : K6 R) : Nat → V0 → V0 → V0 → Int → Int → Int → Option R
 | 0, _, _, _, _, _, _ => none
 | m + 1, x0, x1, x2, x3, x4, x5 => (g88_15 S112 (l88_16 S112 k0 m) k0 x0 x1 x2 x3 x4 x5)
theorem lt88_16 (S112) (h112 : (ctr112 S112).holds cl) : ∀ (m) (x0 x1 x2 x3 x4 x5), iter [0, 1, 5, 6, 7, 8] (fun env K => exec cl N c88_15 env K) K m (e36 x0 x1 x2 x3 x4 x5) = l88_16 S112 (fun y0 y1 y2 y3 y4 y5 => K (.exit 2) (e36 y0 y1 y2 y3 y4 y5)) m x0 x1 x2 x3 x4 x5 := by
 intro m
 induction m with
 | zero => intros; rfl
 | succ m ih =>
   intro x0 x1 x2 x3 x4 x5
   simp only [B3, t88_15 S112 h112, kp88_2, ih]
   rfl
theorem kp88_4 (x0 x1 x2 x3 x4 x5) : keep [0, 1, 5, 6] (e36 x0 x1 x2 x3 x4 x5) = e33 x0 x1 x2 x3 := by kernel_rfl
def g88_16 (N : Nat) (S112 : s112) (k0 : K17 R) (x0 x1 x2 : V0) (x3 x4 x5 : Int) : Option R :=
l88_16 S112 (fun y0 y1 y2 y3 y4 y5 => k0 y0 y1 y2 y3) N x0 x1 x2 x3 x4 x5
theorem t88_16 (S112) (h112 : (ctr112 S112).holds cl) (x0 x1 x2 x3 x4 x5) : exec cl N c88_16 (e36 x0 x1 x2 x3 x4 x5) K = g88_16 N S112 (fun y0 y1 y2 y3 => K (.exit 2) (e33 y0 y1 y2 y3)) x0 x1 x2 x3 x4 x5 := by
 simp only [c88_16, exec_out, exec_loop, kp88_2, lt88_16 S112 h112, kp88_4]
 rfl
def g88_20 (k0 : K17 R) (x0 x1 x2 : V0) (x3 : Int) := k0 x0 x1 x2 (IntKind.i64.wrap (x3 + (1 : Int)))
theorem t88_20 (x0 x1 x2 x3) : exec cl N c88_20 (e33 x0 x1 x2 x3) K = g88_20 (fun y0 y1 y2 y3 => K .normal (e33 y0 y1 y2 y3)) x0 x1 x2 x3 := by kernel_rfl
def g88_21 (N : Nat) (S112 : s112) (k0 : K17 R) (k1 : K17 R) (x0 x1 x2 : V0) (x3 : Int) := (g88_3 (fun y0 y1 y2 y3 y4 => brB y4 ((g88_18 (g88_16 N S112 (((g88_20 k0))))) y0 y1 y2 y3) (k1 y0 y1 y2 y3)) x0 x1 x2 x3)
theorem t88_21 (S112) (h112 : (ctr112 S112).holds cl) (x0 x1 x2 x3) : exec cl N c88_21 (e33 x0 x1 x2 x3) K = g88_21 N S112 (fun y0 y1 y2 y3 => K .normal (e33 y0 y1 y2 y3)) (fun y0 y1 y2 y3 => K (.exit 0) (e33 y0 y1 y2 y3)) x0 x1 x2 x3 := by
 simp only [c88_21, B0, t88_3, c88_4, exec_out, B1, hb88_0, Option.bind_some, exec_exit, kp88_1, c88_19, B2, t88_18, c88_17, t88_16 S112 h112, kp88_0, t88_20]
 rfl
def l88_22 {R : Type} (N : Nat) (S112 : s112) (k0 : K17 R) : Nat → V0 → V0 → V0 → Int → Option R
 | 0, _, _, _, _ => none
 | m + 1, x0, x1, x2, x3 => (g88_21 N S112 (l88_22 N S112 k0 m) k0 x0 x1 x2 x3)
theorem lt88_22 (S112) (h112 : (ctr112 S112).holds cl) : ∀ (m) (x0 x1 x2 x3), iter [0, 1, 5, 6] (fun env K => exec cl N c88_21 env K) K m (e33 x0 x1 x2 x3) = l88_22 N S112 (fun y0 y1 y2 y3 => K (.exit 0) (e33 y0 y1 y2 y3)) m x0 x1 x2 x3 := by
 intro m
 induction m with
 | zero => intros; rfl
 | succ m ih =>
   intro x0 x1 x2 x3
   simp only [B3, t88_21 S112 h112, kp88_0, ih]
   rfl
theorem kp88_5 (x0 x1 x2 x3) : keep [5] (e33 x0 x1 x2 x3) = e38 x2 := by kernel_rfl
def g88_22 (N : Nat) (S112 : s112) (k0 : K38 R) (x0 x1 x2 : V0) (x3 : Int) : Option R :=
l88_22 N S112 (fun y0 y1 y2 y3 => k0 y2) N x0 x1 x2 x3
theorem t88_22 (S112) (h112 : (ctr112 S112).holds cl) (x0 x1 x2 x3) : exec cl N c88_22 (e33 x0 x1 x2 x3) K = g88_22 N S112 (fun y0 => K (.exit 0) (e38 y0)) x0 x1 x2 x3 := by
 simp only [c88_22, exec_out, exec_loop, kp88_0, lt88_22 S112 h112, kp88_5]
 rfl
theorem kp88_6 (x0) : keep [5] (e38 x0) = e38 x0 := by kernel_rfl
def g88_24 (S113 : s113) (k0 : K38 R) (x0 : V0) : Option R :=
(S113 x0).bind fun r306 =>
k0 r306
theorem t88_24 (S113) (h113 : (ctr113 S113).holds cl) (x0) : exec cl N c88_24 (e38 x0) K = g88_24 S113 (fun y0 => K .normal [(4, .v U2 y0)]) x0 := by
 rw [← put_eq h113]
 kernel_rfl
def g88_25b (N : Nat) (S112 : s112) (S113 : s113) (k0 : K38 R) (x0 x1 : V0) := (g88_25 (g88_2 (g88_22 N S112 ((g88_24 S113 k0)))) x0 x1)
theorem t88_25b (S112) (S113) (h112 : (ctr112 S112).holds cl) (h113 : (ctr113 S113).holds cl) (x0 x1) : exec cl N c88_25 (e20 x0 x1) K = g88_25b N S112 S113 (fun y0 => K .ret [(4, .v U2 y0)]) x0 x1 := by
 simp only [B0, t88_25, t88_2, c88_23, exec_out, B2, t88_22 S112 h112, kp88_6, t88_24 S113 h113, exec_ret]
 rfl
theorem rk88_0 (y0) : retK d88 .ret [(4, .v U2 y0)] = some [.v U2 y0] := by kernel_rfl
def g88 (N : Nat) (S112 : s112) (S113 : s113) (x0 x1 : V0) (k : V0 → Option R) := (g88_25b N S112 S113 k x0 x1)
theorem gen88 (S112) (S113) (h112 : (ctr112 S112).holds cl) (h113 : (ctr113 S113).holds cl) (x0 x1) (k : List E → Option R) : exec cl N c88 (e20 x0 x1) (fun e env => (retK d88 e env).bind k) = g88 N S112 S113 x0 x1 (fun r0 => k [.v U2 r0]) := by
 simp only [c88, t88_25b S112 S113 h112 h113, rk88_0, Option.bind_some]
 rfl
def ctr88 (S : s88) : Ctr := cv2 88 U2 U2 S fun b => [.v U2 b]
def S88 (N : Nat) (x0 : V0) (x1 : V0) : Option V2 := g88 N (S112 N) (S113 N) x0 x1 (fun r0 => some (r0))
def g110_30 (k0 : V0 → V0 → V0 → V0 → Option R) (x0 x1 : V0) : Option R :=
if 0 ≤ (x0.length : Int) ∧ (x0.length : Int) ≤ (x0.length : Int) ∧ (x0.length : Int) ≤ ((17592186044416 : Nat) : Int) then
k0 x0 x1 (List.replicate (x0.length : Int).toNat (0 : Int)) []
else none
theorem t110_30 (x0 x1) : exec cl N c110_30 (e20 x0 x1) K = g110_30 (fun y0 y1 y2 y3 => exec cl N (.seq (.seq c110_3 c110_28) (.seq c110_29 .ret)) (e66 y0 y1 y2 y3) K) x0 x1 := by kernel_rfl
def g110_3 (k0 : K5 R) (x0 x1 x2 x3 : V0) := k0 x0 x1 x2 x3 (IntKind.i64.wrap ((x0.length : Int) - (1 : Int)))
theorem t110_3 (x0 x1 x2 x3) : exec cl N c110_3 (e66 x0 x1 x2 x3) K = g110_3 (fun y0 y1 y2 y3 y4 => K .normal (e67 y0 y1 y2 y3 y4)) x0 x1 x2 x3 := by kernel_rfl
theorem kp110_0 (x0 x1 x2 x3 x4) : keep [0, 1, 6, 7, 8] (e67 x0 x1 x2 x3 x4) = e67 x0 x1 x2 x3 x4 := by kernel_rfl
def g110_4 (k0 : V0 → V0 → V0 → V0 → Int → Bool → Option R) (x0 x1 x2 x3 : V0) (x4 : Int) := k0 x0 x1 x2 x3 x4 (decide (x4 ≥ (0 : Int)))
theorem t110_4 (x0 x1 x2 x3 x4) : exec cl N c110_4 (e67 x0 x1 x2 x3 x4) K = g110_4 (fun y0 y1 y2 y3 y4 y5 => K .normal (e68 y0 y1 y2 y3 y4 y5)) x0 x1 x2 x3 x4 := by kernel_rfl
theorem kp110_1 (x0 x1 x2 x3 x4 x5) : keep [0, 1, 6, 7, 8] (e68 x0 x1 x2 x3 x4 x5) = e67 x0 x1 x2 x3 x4 := by kernel_rfl
theorem hb110_0 (x0 x1 x2 x3 x4 x5) : boolOf? (ent (e68 x0 x1 x2 x3 x4 x5) (.t 19)) = some x5 := by kernel_rfl
def g110_23 (S113 : s113) (k0 : K2 R) (x0 x1 x2 x3 : V0) (x4 : Int) : Option R :=
if 0 ≤ x4 ∧ x4 < (x0.length : Int) then
if [(x0.getD x4.toNat (0 : Int))].length + x3.length ≤ 17592186044416 then
(S113 ([(x0.getD x4.toNat (0 : Int))] ++ x3)).bind fun r318 =>
k0 x0 x1 x2 r318 x4 (0 : Int) (9999 : Int)
else none
else none
theorem t110_23 (S113) (h113 : (ctr113 S113).holds cl) (x0 x1 x2 x3 x4) : exec cl N c110_23 (e67 x0 x1 x2 x3 x4) K = g110_23 S113 (fun y0 y1 y2 y3 y4 y5 y6 => exec cl N (.seq c110_19 c110_22) (e69 y0 y1 y2 y3 y4 y5 y6) K) x0 x1 x2 x3 x4 := by
 rw [← put_eq h113]
 kernel_rfl
theorem kp110_2 (x0 x1 x2 x3 x4 x5 x6) : keep [0, 1, 6, 7, 8, 9, 10] (e69 x0 x1 x2 x3 x4 x5 x6) = e69 x0 x1 x2 x3 x4 x5 x6 := by kernel_rfl
def g110_8 (k0 : K36 R) (x0 x1 x2 x3 : V0) (x4 x5 x6 : Int) := k0 x0 x1 x2 x3 x4 x5 x6 (decide (x5 < x6))
theorem t110_8 (x0 x1 x2 x3 x4 x5 x6) : exec cl N c110_8 (e69 x0 x1 x2 x3 x4 x5 x6) K = g110_8 (fun y0 y1 y2 y3 y4 y5 y6 y7 => K .normal (e70 y0 y1 y2 y3 y4 y5 y6 y7)) x0 x1 x2 x3 x4 x5 x6 := by kernel_rfl
theorem kp110_3 (x0 x1 x2 x3 x4 x5 x6 x7) : keep [0, 1, 6, 7, 8, 9, 10] (e70 x0 x1 x2 x3 x4 x5 x6 x7) = e69 x0 x1 x2 x3 x4 x5 x6 := by kernel_rfl
theorem hb110_1 (x0 x1 x2 x3 x4 x5 x6 x7) : boolOf? (ent (e70 x0 x1 x2 x3 x4 x5 x6 x7) (.t 32)) = some x7 := by kernel_rfl
def g110_15 (S88 : s88) (S90 : s90) (k0 : K33 R) (x0 x1 x2 x3 : V0) (x4 x5 x6 : Int) : Option R :=
let v325 : Int := (IntKind.i64.wrap (Int.tdiv (IntKind.i64.wrap ((IntKind.i64.wrap (x5 + x6)) + (1 : Int))) (2 : Int)))
(S88 x1 [v325]).bind fun r326 =>
(S90 r326 x3).bind fun r327 =>
k0 x0 x1 x2 x3 x4 x5 x6 v325 (decide (r327 ≤ (0 : Int)))
theorem t110_15 (S88) (S90) (h88 : (ctr88 S88).holds cl) (h90 : (ctr90 S90).holds cl) (x0 x1 x2 x3 x4 x5 x6) : exec cl N c110_15 (e69 x0 x1 x2 x3 x4 x5 x6) K = g110_15 S88 S90 (fun y0 y1 y2 y3 y4 y5 y6 y7 y8 => exec cl N c110_14 (e71 y0 y1 y2 y3 y4 y5 y6 y7 y8) K) x0 x1 x2 x3 x4 x5 x6 := by
 rw [← put_eq h88]
 rw [← put_eq h90]
 kernel_rfl
def g110_12 (k0 : K2 R) (x0 x1 x2 x3 : V0) (x4 x5 x6 x7 : Int) (x8 : Bool) := k0 x0 x1 x2 x3 x4 x7 x6
theorem t110_12 (x0 x1 x2 x3 x4 x5 x6 x7 x8) : exec cl N c110_12 (e71 x0 x1 x2 x3 x4 x5 x6 x7 x8) K = g110_12 (fun y0 y1 y2 y3 y4 y5 y6 => K .normal (e69 y0 y1 y2 y3 y4 y5 y6)) x0 x1 x2 x3 x4 x5 x6 x7 x8 := by kernel_rfl
def g110_13 (k0 : K2 R) (x0 x1 x2 x3 : V0) (x4 x5 x6 x7 : Int) (x8 : Bool) := k0 x0 x1 x2 x3 x4 x5 (IntKind.i64.wrap (x7 - (1 : Int)))
theorem t110_13 (x0 x1 x2 x3 x4 x5 x6 x7 x8) : exec cl N c110_13 (e71 x0 x1 x2 x3 x4 x5 x6 x7 x8) K = g110_13 (fun y0 y1 y2 y3 y4 y5 y6 => K .normal (e69 y0 y1 y2 y3 y4 y5 y6)) x0 x1 x2 x3 x4 x5 x6 x7 x8 := by kernel_rfl
theorem hb110_2 (x0 x1 x2 x3 x4 x5 x6 x7 x8) : boolOf? (ent (e71 x0 x1 x2 x3 x4 x5 x6 x7 x8) (.t 44)) = some x8 := by kernel_rfl
def g110_17 (S88 : s88) (S90 : s90) (k0 : K2 R) (k1 : K2 R) (x0 x1 x2 x3 : V0) (x4 x5 x6 : Int) := (g110_8 (fun y0 y1 y2 y3 y4 y5 y6 y7 => brB y7 ((g110_15 S88 S90 (fun y0 y1 y2 y3 y4 y5 y6 y7 y8 => brB y8 (g110_12 k0 y0 y1 y2 y3 y4 y5 y6 y7 y8) (g110_13 k0 y0 y1 y2 y3 y4 y5 y6 y7 y8))) y0 y1 y2 y3 y4 y5 y6) (k1 y0 y1 y2 y3 y4 y5 y6)) x0 x1 x2 x3 x4 x5 x6)
theorem t110_17 (S88) (S90) (h88 : (ctr88 S88).holds cl) (h90 : (ctr90 S90).holds cl) (x0 x1 x2 x3 x4 x5 x6) : exec cl N c110_17 (e69 x0 x1 x2 x3 x4 x5 x6) K = g110_17 S88 S90 (fun y0 y1 y2 y3 y4 y5 y6 => K .normal (e69 y0 y1 y2 y3 y4 y5 y6)) (fun y0 y1 y2 y3 y4 y5 y6 => K (.exit 2) (e69 y0 y1 y2 y3 y4 y5 y6)) x0 x1 x2 x3 x4 x5 x6 := by
 simp only [c110_17, B0, t110_8, c110_9, exec_out, B1, hb110_1, Option.bind_some, exec_exit, kp110_3, c110_16, B2, t110_15 S88 S90 h88 h90, c110_14, hb110_2, t110_12, t110_13, kp110_2]
 rfl
def l110_18 {R : Type} (S88 : s88) (S90 : s90) (k0 : K2 R) : Nat → V0 → V0 → V0 → V0 → Int → Int → Int → Option R
 | 0, _, _, _, _, _, _, _ => none
 | m + 1, x0, x1, x2, x3, x4, x5, x6 => (g110_17 S88 S90 (l110_18 S88 S90 k0 m) k0 x0 x1 x2 x3 x4 x5 x6)
theorem lt110_18 (S88) (S90) (h88 : (ctr88 S88).holds cl) (h90 : (ctr90 S90).holds cl) : ∀ (m) (x0 x1 x2 x3 x4 x5 x6), iter [0, 1, 6, 7, 8, 9, 10] (fun env K => exec cl N c110_17 env K) K m (e69 x0 x1 x2 x3 x4 x5 x6) = l110_18 S88 S90 (fun y0 y1 y2 y3 y4 y5 y6 => K (.exit 2) (e69 y0 y1 y2 y3 y4 y5 y6)) m x0 x1 x2 x3 x4 x5 x6 := by
 intro m
 induction m with
 | zero => intros; rfl
 | succ m ih =>
   intro x0 x1 x2 x3 x4 x5 x6
   simp only [B3, t110_17 S88 S90 h88 h90, kp110_2, ih]
   rfl
theorem kp110_4 (x0 x1 x2 x3 x4 x5 x6) : keep [0, 1, 6, 7, 8, 9] (e69 x0 x1 x2 x3 x4 x5 x6) = e72 x0 x1 x2 x3 x4 x5 := by kernel_rfl
def g110_18 (N : Nat) (S88 : s88) (S90 : s90) (k0 : K28 R) (x0 x1 x2 x3 : V0) (x4 x5 x6 : Int) : Option R :=
l110_18 S88 S90 (fun y0 y1 y2 y3 y4 y5 y6 => k0 y0 y1 y2 y3 y4 y5) N x0 x1 x2 x3 x4 x5 x6
theorem t110_18 (S88) (S90) (h88 : (ctr88 S88).holds cl) (h90 : (ctr90 S90).holds cl) (x0 x1 x2 x3 x4 x5 x6) : exec cl N c110_18 (e69 x0 x1 x2 x3 x4 x5 x6) K = g110_18 N S88 S90 (fun y0 y1 y2 y3 y4 y5 => K (.exit 2) (e72 y0 y1 y2 y3 y4 y5)) x0 x1 x2 x3 x4 x5 x6 := by
 simp only [c110_18, exec_out, exec_loop, kp110_2, lt110_18 S88 S90 h88 h90, kp110_4]
 rfl
theorem kp110_5 (x0 x1 x2 x3 x4 x5) : keep [0, 1, 6, 7, 8, 9] (e72 x0 x1 x2 x3 x4 x5) = e72 x0 x1 x2 x3 x4 x5 := by kernel_rfl
def g110_22 (S88 : s88) (S91 : s91) (k0 : K5 R) (x0 x1 x2 x3 : V0) (x4 x5 : Int) : Option R :=
if 0 ≤ x4 ∧ x4 < (x2.length : Int) then
if x4.toNat < x2.length then
(S88 x1 [x5]).bind fun r330 =>
(S91 x3 r330).bind fun r331 =>
k0 x0 x1 (x2.set x4.toNat x5) r331 x4
else none
else none
theorem t110_22 (S88) (S91) (h88 : (ctr88 S88).holds cl) (h91 : (ctr91 S91).holds cl) (x0 x1 x2 x3 x4 x5) : exec cl N c110_22 (e72 x0 x1 x2 x3 x4 x5) K = g110_22 S88 S91 (fun y0 y1 y2 y3 y4 => K .normal (e67 y0 y1 y2 y3 y4)) x0 x1 x2 x3 x4 x5 := by
 rw [← put_eq h88]
 rw [← put_eq h91]
 kernel_rfl
def g110_25 (k0 : K5 R) (x0 x1 x2 x3 : V0) (x4 : Int) := k0 x0 x1 x2 x3 (IntKind.i64.wrap (x4 - (1 : Int)))
theorem t110_25 (x0 x1 x2 x3 x4) : exec cl N c110_25 (e67 x0 x1 x2 x3 x4) K = g110_25 (fun y0 y1 y2 y3 y4 => K .normal (e67 y0 y1 y2 y3 y4)) x0 x1 x2 x3 x4 := by kernel_rfl
def g110_26 (N : Nat) (S88 : s88) (S90 : s90) (S91 : s91) (S113 : s113) (k0 : K5 R) (k1 : K5 R) (x0 x1 x2 x3 : V0) (x4 : Int) := (g110_4 (fun y0 y1 y2 y3 y4 y5 => brB y5 ((g110_23 S113 (g110_18 N S88 S90 ((g110_22 S88 S91 ((g110_25 k0)))))) y0 y1 y2 y3 y4) (k1 y0 y1 y2 y3 y4)) x0 x1 x2 x3 x4)
theorem t110_26 (S88) (S90) (S91) (S113) (h88 : (ctr88 S88).holds cl) (h90 : (ctr90 S90).holds cl) (h91 : (ctr91 S91).holds cl) (h113 : (ctr113 S113).holds cl) (x0 x1 x2 x3 x4) : exec cl N c110_26 (e67 x0 x1 x2 x3 x4) K = g110_26 N S88 S90 S91 S113 (fun y0 y1 y2 y3 y4 => K .normal (e67 y0 y1 y2 y3 y4)) (fun y0 y1 y2 y3 y4 => K (.exit 0) (e67 y0 y1 y2 y3 y4)) x0 x1 x2 x3 x4 := by
 simp only [c110_26, B0, t110_4, c110_5, exec_out, B1, hb110_0, Option.bind_some, exec_exit, kp110_1, c110_24, B2, t110_23 S113 h113, c110_19, t110_18 S88 S90 h88 h90, kp110_5, t110_22 S88 S91 h88 h91, kp110_0, t110_25]
 rfl
def l110_27 {R : Type} (N : Nat) (S88 : s88) (S90 : s90) (S91 : s91) (S113 : s113) (k0 : K5 R) : Nat → V0 → V0 → V0 → V0 → Int → Option R
 | 0, _, _, _, _, _ => none
 | m + 1, x0, x1, x2, x3, x4 => (g110_26 N S88 S90 S91 S113 (l110_27 N S88 S90 S91 S113 k0 m) k0 x0 x1 x2 x3 x4)
theorem lt110_27 (S88) (S90) (S91) (S113) (h88 : (ctr88 S88).holds cl) (h90 : (ctr90 S90).holds cl) (h91 : (ctr91 S91).holds cl) (h113 : (ctr113 S113).holds cl) : ∀ (m) (x0 x1 x2 x3 x4), iter [0, 1, 6, 7, 8] (fun env K => exec cl N c110_26 env K) K m (e67 x0 x1 x2 x3 x4) = l110_27 N S88 S90 S91 S113 (fun y0 y1 y2 y3 y4 => K (.exit 0) (e67 y0 y1 y2 y3 y4)) m x0 x1 x2 x3 x4 := by
 intro m
 induction m with
 | zero => intros; rfl
 | succ m ih =>
   intro x0 x1 x2 x3 x4
   simp only [B3, t110_26 S88 S90 S91 S113 h88 h90 h91 h113, kp110_0, ih]
   rfl
theorem kp110_6 (x0 x1 x2 x3 x4) : keep [6, 7] (e67 x0 x1 x2 x3 x4) = e73 x2 x3 := by kernel_rfl
def g110_27 (N : Nat) (S88 : s88) (S90 : s90) (S91 : s91) (S113 : s113) (k0 : K37 R) (x0 x1 x2 x3 : V0) (x4 : Int) : Option R :=
l110_27 N S88 S90 S91 S113 (fun y0 y1 y2 y3 y4 => k0 y2 y3) N x0 x1 x2 x3 x4
theorem t110_27 (S88) (S90) (S91) (S113) (h88 : (ctr88 S88).holds cl) (h90 : (ctr90 S90).holds cl) (h91 : (ctr91 S91).holds cl) (h113 : (ctr113 S113).holds cl) (x0 x1 x2 x3 x4) : exec cl N c110_27 (e67 x0 x1 x2 x3 x4) K = g110_27 N S88 S90 S91 S113 (fun y0 y1 => K (.exit 0) (e73 y0 y1)) x0 x1 x2 x3 x4 := by
 simp only [c110_27, exec_out, exec_loop, kp110_0, lt110_27 S88 S90 S91 S113 h88 h90 h91 h113, kp110_6]
 rfl
theorem kp110_7 (x0 x1) : keep [6, 7] (e73 x0 x1) = e73 x0 x1 := by kernel_rfl
def g110_29 (S113 : s113) (k0 : K37 R) (x0 x1 : V0) : Option R :=
(S113 x0).bind fun r333 =>
k0 r333 x1
theorem t110_29 (S113) (h113 : (ctr113 S113).holds cl) (x0 x1) : exec cl N c110_29 (e73 x0 x1) K = g110_29 S113 (fun y0 y1 => K .normal (e74 y0 y1)) x0 x1 := by
 rw [← put_eq h113]
 kernel_rfl
def g110_30b (N : Nat) (S88 : s88) (S90 : s90) (S91 : s91) (S113 : s113) (k0 : K37 R) (x0 x1 : V0) := (g110_30 (g110_3 (g110_27 N S88 S90 S91 S113 ((g110_29 S113 k0)))) x0 x1)
theorem t110_30b (S88) (S90) (S91) (S113) (h88 : (ctr88 S88).holds cl) (h90 : (ctr90 S90).holds cl) (h91 : (ctr91 S91).holds cl) (h113 : (ctr113 S113).holds cl) (x0 x1) : exec cl N c110_30 (e20 x0 x1) K = g110_30b N S88 S90 S91 S113 (fun y0 y1 => K .ret (e74 y0 y1)) x0 x1 := by
 simp only [B0, t110_30, t110_3, c110_28, exec_out, B2, t110_27 S88 S90 S91 S113 h88 h90 h91 h113, kp110_7, t110_29 S113 h113, exec_ret]
 rfl
theorem rk110_0 (y0 y1) : retK d110 .ret (e74 y0 y1) = some [.v U2 y0, .v U2 y1] := by kernel_rfl
def g110 (N : Nat) (S88 : s88) (S90 : s90) (S91 : s91) (S113 : s113) (x0 x1 : V0) (k : V0 → V0 → Option R) := (g110_30b N S88 S90 S91 S113 k x0 x1)
theorem gen110 (S88) (S90) (S91) (S113) (h88 : (ctr88 S88).holds cl) (h90 : (ctr90 S90).holds cl) (h91 : (ctr91 S91).holds cl) (h113 : (ctr113 S113).holds cl) (x0 x1) (k : List E → Option R) : exec cl N c110 (e20 x0 x1) (fun e env => (retK d110 e env).bind k) = g110 N S88 S90 S91 S113 x0 x1 (fun r0 r1 => k [.v U2 r0, .v U2 r1]) := by
 simp only [c110, t110_30b S88 S90 S91 S113 h88 h90 h91 h113, rk110_0, Option.bind_some]
 rfl
def ctr110 (S : s110) : Ctr := cv2 110 U2 U2 S fun b => [.v U2 b.1, .v U2 b.2]
def S110 (N : Nat) (x0 : V0) (x1 : V0) : Option V8 := g110 N (S88 N) (S90 N) (S91 N) (S113 N) x0 x1 (fun r0 r1 => some (r0, r1))
def g84_0 (k0 : V5 → V5 → V5 → V5 → Option R) (x0 x1 : V5) := k0 x0 x1 ([], ()) ([], ())
theorem t84_0 (x0 x1) : exec cl N c84_0 (e41 x0 x1) K = g84_0 (fun y0 y1 y2 y3 => K .normal (e75 y0 y1 y2 y3)) x0 x1 := by kernel_rfl
def g84_1 (S86 : s86) (k0 : K27 R) (x0 x1 x2 x3 : V5) : Option R :=
(S86 x0).bind fun r336 =>
brB (!r336) (k0 x0 x1 x2 x3 true) ((S86 x1).bind fun r337 =>
k0 x0 x1 x2 x3 (!r337))
theorem t84_1 (S86) (h86 : (ctr86 S86).holds cl) (x0 x1 x2 x3) : exec cl N c84_1 (e75 x0 x1 x2 x3) K = g84_1 S86 (fun y0 y1 y2 y3 y4 => K .normal (e76 y0 y1 y2 y3 y4)) x0 x1 x2 x3 := by
 rw [← put_eq h86]
 kernel_rfl
def g84_2 (k0 : K15 R) (x0 x1 x2 x3 : V5) (x4 : Bool) := k0 ([], ()) ([], ()) (1 : Int)
theorem t84_2 (x0 x1 x2 x3 x4) : exec cl N c84_2 (e76 x0 x1 x2 x3 x4) K = g84_2 (fun y0 y1 y2 => K .normal (e77 y0 y1 y2)) x0 x1 x2 x3 x4 := by kernel_rfl
theorem kp84_0 (x0 x1 x2) : keep [2, 3, 4, 5, 6] (e77 x0 x1 x2) = e78 x0 x1 x2 := by kernel_rfl
theorem kp84_1 (x0 x1 x2 x3 x4) : keep [2, 3, 4, 5, 6] (e76 x0 x1 x2 x3 x4) = e79 x0 x1 x2 x3 := by kernel_rfl
theorem hb84_0 (x0 x1 x2 x3 x4) : boolOf? (ent (e76 x0 x1 x2 x3 x4) (.t 16)) = some x4 := by kernel_rfl
def g84_4 (k0 : K27 R) (x0 x1 x2 x3 : V5) := k0 x0 x1 x2 x3 ((x1.1.length : Int) == (0 : Int))
theorem t84_4 (x0 x1 x2 x3) : exec cl N c84_4 (e79 x0 x1 x2 x3) K = g84_4 (fun y0 y1 y2 y3 y4 => K .normal (e80 y0 y1 y2 y3 y4)) x0 x1 x2 x3 := by kernel_rfl
def g84_5 (k0 : K15 R) (x0 x1 x2 x3 : V5) (x4 : Bool) := k0 ([], ()) ([], ()) (6 : Int)
theorem t84_5 (x0 x1 x2 x3 x4) : exec cl N c84_5 (e80 x0 x1 x2 x3 x4) K = g84_5 (fun y0 y1 y2 => K .normal (e77 y0 y1 y2)) x0 x1 x2 x3 x4 := by kernel_rfl
theorem kp84_2 (x0 x1 x2 x3 x4) : keep [2, 3, 4, 5, 6] (e80 x0 x1 x2 x3 x4) = e79 x0 x1 x2 x3 := by kernel_rfl
theorem hb84_1 (x0 x1 x2 x3 x4) : boolOf? (ent (e80 x0 x1 x2 x3 x4) (.t 22)) = some x4 := by kernel_rfl
def g84_9 (S110 : s110) (k0 : K15 R) (x0 x1 x2 x3 : V5) : Option R :=
(S110 x0.1 x1.1).bind fun r340 =>
k0 (r340.1, ()) (r340.2, ()) (0 : Int)
theorem t84_9 (S110) (h110 : (ctr110 S110).holds cl) (x0 x1 x2 x3) : exec cl N c84_9 (e79 x0 x1 x2 x3) K = g84_9 S110 (fun y0 y1 y2 => exec cl N .ret (e81 y0 y1 y2) K) x0 x1 x2 x3 := by
 rw [← put_eq h110]
 kernel_rfl
def g84_10 (S86 : s86) (S110 : s110) (k0 : K15 R) (k1 : K15 R) (x0 x1 : V5) := (g84_0 (g84_1 S86 (fun y0 y1 y2 y3 y4 => brB y4 (g84_2 k0 y0 y1 y2 y3 y4) ((g84_4 (fun y0 y1 y2 y3 y4 => brB y4 (g84_5 k0 y0 y1 y2 y3 y4) ((g84_9 S110 k1) y0 y1 y2 y3))) y0 y1 y2 y3))) x0 x1)
theorem t84_10 (S86) (S110) (h86 : (ctr86 S86).holds cl) (h110 : (ctr110 S110).holds cl) (x0 x1) : exec cl N c84_10 (e41 x0 x1) K = g84_10 S86 S110 (fun y0 y1 y2 => K .ret (e78 y0 y1 y2)) (fun y0 y1 y2 => K .ret (e81 y0 y1 y2)) x0 x1 := by
 simp only [c84_10, B0, t84_0, t84_1 S86 h86, c84_3, exec_out, B1, hb84_0, Option.bind_some, t84_2, exec_ret, kp84_0, kp84_1, t84_4, c84_6, hb84_1, t84_5, kp84_2, t84_9 S110 h110]
 rfl
theorem rk84_0 (y0 y1 y2) : retK d84 .ret (e78 y0 y1 y2) = some [.v U5 y0, .v U5 y1, .v U1 y2] := by kernel_rfl
theorem rk84_1 (y0 y1 y2) : retK d84 .ret (e81 y0 y1 y2) = some [.v U5 y0, .v U5 y1, .v U1 y2] := by kernel_rfl
def g84 (S86 : s86) (S110 : s110) (x0 x1 : V5) (k : V5 → V5 → Int → Option R) := (g84_10 S86 S110 k k x0 x1)
theorem gen84 (S86) (S110) (h86 : (ctr86 S86).holds cl) (h110 : (ctr110 S110).holds cl) (x0 x1) (k : List E → Option R) : exec cl N c84 (e41 x0 x1) (fun e env => (retK d84 e env).bind k) = g84 S86 S110 x0 x1 (fun r0 r1 r2 => k [.v U5 r0, .v U5 r1, .v U1 r2]) := by
 simp only [c84, t84_10 S86 S110 h86 h110, rk84_0, rk84_1, Option.bind_some]
 rfl
def ctr84 (S : s84) : Ctr := cv2 84 U5 U5 S fun b => [.v U5 b.1, .v U5 b.2.1, .v U1 b.2.2]
def S84 (N : Nat) (x0 : V5) (x1 : V5) : Option V14 := g84 (S86 N) (S110 N) x0 x1 (fun r0 r1 r2 => some (r0, r1, r2))
def g56_2 (k0 : K11 R) (x0 : V5) := k0 ((x0.1.length : Int) == (0 : Int))
theorem t56_2 (x0) : exec cl N c56_2 [(0, .v U5 x0)] K = g56_2 (fun y0 => exec cl N .ret [(2, .v .bool y0)] K) x0 := by kernel_rfl
def g56_2b (k0 : K11 R) (x0 : V5) := (g56_2 k0 x0)
theorem t56_2b (x0) : exec cl N c56_2 [(0, .v U5 x0)] K = g56_2b (fun y0 => K .ret [(2, .v .bool y0)]) x0 := by
 simp only [B0, t56_2, exec_ret]
 rfl
theorem rk56_0 (y0) : retK d56 .ret [(2, .v .bool y0)] = some [.v .bool y0] := by kernel_rfl
def g56 (x0 : V5) (k : Bool → Option R) := (g56_2b k x0)
theorem gen56 (x0) (k : List E → Option R) : exec cl N c56 [(0, .v U5 x0)] (fun e env => (retK d56 e env).bind k) = g56 x0 (fun r0 => k [.v .bool r0]) := by
 simp only [c56, t56_2b, rk56_0, Option.bind_some]
 rfl
def ctr56 (S : s56) : Ctr := cv1 56 U5 S fun b => [.v .bool b]
def S56 (N : Nat) (x0 : V5) : Option (Bool) := g56 x0 (fun r0 => some (r0))
def g52_5 (S56 : s56) (S83 : s83) (S84 : s84) (k0 : K47 R) (x0 : Bool) (x1 x2 : V5) : Option R :=
(S83 x1 x2).bind fun r359 =>
(S84 x1 r359.1).bind fun r360 =>
(S84 x2 r359.1).bind fun r361 =>
brB x0 ((S56 r360.1).bind fun r362 =>
k0 ((!r362), r360.1, r361.1, ())) (k0 (false, r360.1, r361.1, ()))
theorem t52_5 (S56) (S83) (S84) (h56 : (ctr56 S56).holds cl) (h83 : (ctr83 S83).holds cl) (h84 : (ctr84 S84).holds cl) (x0 x1 x2) : exec cl N c52_5 (e82 x0 x1 x2) K = g52_5 S56 S83 S84 (fun y0 => exec cl N .ret [(6, .loc U12 .no y0)] K) x0 x1 x2 := by
 rw [← put_eq h56]
 rw [← put_eq h83]
 rw [← put_eq h84]
 kernel_rfl
def g52_5b (S56 : s56) (S83 : s83) (S84 : s84) (k0 : K47 R) (x0 : Bool) (x1 x2 : V5) := (g52_5 S56 S83 S84 k0 x0 x1 x2)
theorem t52_5b (S56) (S83) (S84) (h56 : (ctr56 S56).holds cl) (h83 : (ctr83 S83).holds cl) (h84 : (ctr84 S84).holds cl) (x0 x1 x2) : exec cl N c52_5 (e82 x0 x1 x2) K = g52_5b S56 S83 S84 (fun y0 => K .ret [(6, .loc U12 .no y0)]) x0 x1 x2 := by
 simp only [B0, t52_5 S56 S83 S84 h56 h83 h84, exec_ret]
 rfl
theorem rk52_0 (y0) : retK d52 .ret [(6, .loc U12 .no y0)] = some [.v U12 y0] := by kernel_rfl
def g52 (S56 : s56) (S83 : s83) (S84 : s84) (x0 : Bool) (x1 x2 : V5) (k : V16 → Option R) := (g52_5b S56 S83 S84 k x0 x1 x2)
theorem gen52 (S56) (S83) (S84) (h56 : (ctr56 S56).holds cl) (h83 : (ctr83 S83).holds cl) (h84 : (ctr84 S84).holds cl) (x0 x1 x2) (k : List E → Option R) : exec cl N c52 (e82 x0 x1 x2) (fun e env => (retK d52 e env).bind k) = g52 S56 S83 S84 x0 x1 x2 (fun r0 => k [.v U12 r0]) := by
 simp only [c52, t52_5b S56 S83 S84 h56 h83 h84, rk52_0, Option.bind_some]
 rfl
def ctr52 (S : s52) : Ctr := cv3 52 .bool U5 U5 S fun b => [.v U12 b]
def S52 (N : Nat) (x0 : Bool) (x1 : V5) (x2 : V5) : Option V17 := g52 (S56 N) (S83 N) (S84 N) x0 x1 x2 (fun r0 => some (r0))
def g23_0 (k0 : Int → Int → V16 → Option R) (x0 x1 : Int) := k0 x0 x1 (false, (([], ()), (([], ()), ())))
theorem t23_0 (x0 x1) : exec cl N c23_0 (e83 x0 x1) K = g23_0 (fun y0 y1 y2 => K .normal (e84 y0 y1 y2)) x0 x1 := by kernel_rfl
def g23_1 (k0 : K12 R) (x0 x1 : Int) (x2 : V16) := k0 x0 x1 x2 (x1 == (0 : Int))
theorem t23_1 (x0 x1 x2) : exec cl N c23_1 (e84 x0 x1 x2) K = g23_1 (fun y0 y1 y2 y3 => K .normal (e85 y0 y1 y2 y3)) x0 x1 x2 := by kernel_rfl
def g23_2 (k0 : K0 R) (x0 x1 : Int) (x2 : V16) (x3 : Bool) := k0 (false, ([], ()), ([], ()), ()) (6 : Int)
theorem t23_2 (x0 x1 x2 x3) : exec cl N c23_2 (e85 x0 x1 x2 x3) K = g23_2 (fun y0 y1 => K .normal (e86 y0 y1)) x0 x1 x2 x3 := by kernel_rfl
theorem kp23_0 (x0 x1) : keep [0, 1, 4, 5] (e86 x0 x1) = e87 x0 x1 := by kernel_rfl
theorem kp23_1 (x0 x1 x2 x3) : keep [0, 1, 4, 5] (e85 x0 x1 x2 x3) = e88 x0 x1 x2 := by kernel_rfl
theorem hb23_0 (x0 x1 x2 x3) : boolOf? (ent (e85 x0 x1 x2 x3) (.t 8)) = some x3 := by kernel_rfl
def g23_4 (k0 : K12 R) (x0 x1 : Int) (x2 : V16) : Option R :=
brB (decide (x0 < (-1000000000000000 : Int))) (k0 x0 x1 x2 true) (brB (decide (x0 > (1000000000000000 : Int))) (k0 x0 x1 x2 true) (brB (decide (x1 < (-1000000000000000 : Int))) (k0 x0 x1 x2 true) (k0 x0 x1 x2 (decide (x1 > (1000000000000000 : Int))))))
theorem t23_4 (x0 x1 x2) : exec cl N c23_4 (e88 x0 x1 x2) K = g23_4 (fun y0 y1 y2 y3 => K .normal (e89 y0 y1 y2 y3)) x0 x1 x2 := by kernel_rfl
def g23_5 (k0 : K0 R) (x0 x1 : Int) (x2 : V16) (x3 : Bool) := k0 (false, ([], ()), ([], ()), ()) (3 : Int)
theorem t23_5 (x0 x1 x2 x3) : exec cl N c23_5 (e89 x0 x1 x2 x3) K = g23_5 (fun y0 y1 => K .normal (e86 y0 y1)) x0 x1 x2 x3 := by kernel_rfl
theorem kp23_2 (x0 x1 x2 x3) : keep [0, 1, 4, 5] (e89 x0 x1 x2 x3) = e88 x0 x1 x2 := by kernel_rfl
theorem hb23_1 (x0 x1 x2 x3) : boolOf? (ent (e89 x0 x1 x2 x3) (.t 23)) = some x3 := by kernel_rfl
def g23_7 (k0 : K12 R) (x0 x1 : Int) (x2 : V16) := k0 x0 x1 x2 (!((decide (x0 < (0 : Int))) == (decide (x1 < (0 : Int)))))
theorem t23_7 (x0 x1 x2) : exec cl N c23_7 (e88 x0 x1 x2) K = g23_7 (fun y0 y1 y2 y3 => K .normal (e90 y0 y1 y2 y3)) x0 x1 x2 := by kernel_rfl
def g23_8 (k0 : Int → Int → V16 → Bool → Bool → Option R) (x0 x1 : Int) (x2 : V16) (x3 : Bool) := k0 x0 x1 x2 x3 (decide (x0 < (0 : Int)))
theorem t23_8 (x0 x1 x2 x3) : exec cl N c23_8 (e90 x0 x1 x2 x3) K = g23_8 (fun y0 y1 y2 y3 y4 => K .normal (e91 y0 y1 y2 y3 y4)) x0 x1 x2 x3 := by kernel_rfl
def g23_9 (k0 : K12 R) (x0 x1 : Int) (x2 : V16) (x3 x4 : Bool) := k0 (IntKind.i64.wrap ((0 : Int) - x0)) x1 x2 x3
theorem t23_9 (x0 x1 x2 x3 x4) : exec cl N c23_9 (e91 x0 x1 x2 x3 x4) K = g23_9 (fun y0 y1 y2 y3 => K .normal (e90 y0 y1 y2 y3)) x0 x1 x2 x3 x4 := by kernel_rfl
theorem kp23_3 (x0 x1 x2 x3) : keep [0, 1, 4, 6] (e90 x0 x1 x2 x3) = e90 x0 x1 x2 x3 := by kernel_rfl
theorem kp23_4 (x0 x1 x2 x3 x4) : keep [0, 1, 4, 6] (e91 x0 x1 x2 x3 x4) = e90 x0 x1 x2 x3 := by kernel_rfl
theorem hb23_2 (x0 x1 x2 x3 x4) : boolOf? (ent (e91 x0 x1 x2 x3 x4) (.t 31)) = some x4 := by kernel_rfl
def g23_11 (k0 : K12 R) (x0 x1 : Int) (x2 : V16) (x3 : Bool) := (g23_8 (fun y0 y1 y2 y3 y4 => brB y4 (g23_9 k0 y0 y1 y2 y3 y4) (k0 y0 y1 y2 y3)) x0 x1 x2 x3)
theorem t23_11 (x0 x1 x2 x3) : exec cl N c23_11 (e90 x0 x1 x2 x3) K = g23_11 (fun y0 y1 y2 y3 => K .normal (e90 y0 y1 y2 y3)) x0 x1 x2 x3 := by
 simp only [c23_11, B0, t23_8, c23_10, exec_out, B1, hb23_2, Option.bind_some, t23_9, kp23_3, kp23_4]
 rfl
def g23_12 (k0 : Int → Int → V16 → Bool → Bool → Option R) (x0 x1 : Int) (x2 : V16) (x3 : Bool) := k0 x0 x1 x2 x3 (decide (x1 < (0 : Int)))
theorem t23_12 (x0 x1 x2 x3) : exec cl N c23_12 (e90 x0 x1 x2 x3) K = g23_12 (fun y0 y1 y2 y3 y4 => K .normal (e92 y0 y1 y2 y3 y4)) x0 x1 x2 x3 := by kernel_rfl
def g23_13 (k0 : K12 R) (x0 x1 : Int) (x2 : V16) (x3 x4 : Bool) := k0 x0 (IntKind.i64.wrap ((0 : Int) - x1)) x2 x3
theorem t23_13 (x0 x1 x2 x3 x4) : exec cl N c23_13 (e92 x0 x1 x2 x3 x4) K = g23_13 (fun y0 y1 y2 y3 => K .normal (e90 y0 y1 y2 y3)) x0 x1 x2 x3 x4 := by kernel_rfl
theorem kp23_5 (x0 x1 x2 x3 x4) : keep [0, 1, 4, 6] (e92 x0 x1 x2 x3 x4) = e90 x0 x1 x2 x3 := by kernel_rfl
theorem hb23_3 (x0 x1 x2 x3 x4) : boolOf? (ent (e92 x0 x1 x2 x3 x4) (.t 35)) = some x4 := by kernel_rfl
def g23_15 (k0 : K12 R) (x0 x1 : Int) (x2 : V16) (x3 : Bool) := (g23_12 (fun y0 y1 y2 y3 y4 => brB y4 (g23_13 k0 y0 y1 y2 y3 y4) (k0 y0 y1 y2 y3)) x0 x1 x2 x3)
theorem t23_15 (x0 x1 x2 x3) : exec cl N c23_15 (e90 x0 x1 x2 x3) K = g23_15 (fun y0 y1 y2 y3 => K .normal (e90 y0 y1 y2 y3)) x0 x1 x2 x3 := by
 simp only [c23_15, B0, t23_12, c23_14, exec_out, B1, hb23_3, Option.bind_some, t23_13, kp23_3, kp23_5]
 rfl
def g23_16 (S52 : s52) (S53 : s53) (k0 : K0 R) (x0 x1 : Int) (x2 : V16) (x3 : Bool) : Option R :=
(S53 x0).bind fun r380 =>
(S53 x1).bind fun r381 =>
(S52 x3 r380 r381).bind fun r382 =>
k0 r382 (0 : Int)
theorem t23_16 (S52) (S53) (h52 : (ctr52 S52).holds cl) (h53 : (ctr53 S53).holds cl) (x0 x1 x2 x3) : exec cl N c23_16 (e90 x0 x1 x2 x3) K = g23_16 S52 S53 (fun y0 y1 => K .normal (e86 y0 y1)) x0 x1 x2 x3 := by
 rw [← put_eq h52]
 rw [← put_eq h53]
 kernel_rfl
def g23_17 (S52 : s52) (S53 : s53) (k0 : K0 R) (k1 : K0 R) (x0 x1 : Int) := (g23_0 (g23_1 (fun y0 y1 y2 y3 => brB y3 (g23_2 k0 y0 y1 y2 y3) ((g23_4 (fun y0 y1 y2 y3 => brB y3 (g23_5 k0 y0 y1 y2 y3) ((g23_7 (g23_11 (g23_15 (g23_16 S52 S53 k1)))) y0 y1 y2))) y0 y1 y2))) x0 x1)
theorem t23_17 (S52) (S53) (h52 : (ctr52 S52).holds cl) (h53 : (ctr53 S53).holds cl) (x0 x1) : exec cl N c23_17 (e83 x0 x1) K = g23_17 S52 S53 (fun y0 y1 => K .ret (e87 y0 y1)) (fun y0 y1 => K .ret (e86 y0 y1)) x0 x1 := by
 simp only [c23_17, B0, t23_0, t23_1, c23_3, exec_out, B1, hb23_0, Option.bind_some, t23_2, exec_ret, kp23_0, kp23_1, t23_4, c23_6, hb23_1, t23_5, kp23_2, t23_7, t23_11, t23_15, t23_16 S52 S53 h52 h53]
 rfl
theorem rk23_0 (y0 y1) : retK d23 .ret (e87 y0 y1) = some [.v U12 y0, .v U1 y1] := by kernel_rfl
theorem rk23_1 (y0 y1) : retK d23 .ret (e86 y0 y1) = some [.v U12 y0, .v U1 y1] := by kernel_rfl
def g23 (S52 : s52) (S53 : s53) (x0 x1 : Int) (k : V16 → Int → Option R) := (g23_17 S52 S53 k k x0 x1)
theorem gen23 (S52) (S53) (h52 : (ctr52 S52).holds cl) (h53 : (ctr53 S53).holds cl) (x0 x1) (k : List E → Option R) : exec cl N c23 (e83 x0 x1) (fun e env => (retK d23 e env).bind k) = g23 S52 S53 x0 x1 (fun r0 r1 => k [.v U12 r0, .v U1 r1]) := by
 simp only [c23, t23_17 S52 S53 h52 h53, rk23_0, rk23_1, Option.bind_some]
 rfl
def ctr23 (S : s23) : Ctr := cv2 23 U1 U1 S fun b => [.v U12 b.1, .v U1 b.2]
def S23 (N : Nat) (x0 : Int) (x1 : Int) : Option V19 := g23 (S52 N) (S53 N) x0 x1 (fun r0 r1 => some (r0, r1))
def g22_4 (S23 : s23) (k0 : K47 R) (x0 x1 : Int) : Option R :=
let v403 : Int := (IntKind.i64.wrap ((1 : Int) + (IntKind.i64.wrap (Int.tmod x1 (20 : Int)))))
let v405 : Int := (IntKind.i64.wrap (v403 + (1 : Int)))
if v405 = 0 then none else
(S23 (Int.tmod (IntKind.i64.wrap x0) v405) v403).bind fun r407 =>
k0 r407.1
theorem t22_4 (S23) (h23 : (ctr23 S23).holds cl) (x0 x1) : exec cl N c22_4 [(0, .v U0 x0), (1, .v U0 x1)] K = g22_4 S23 (fun y0 => exec cl N .ret [(4, .loc U12 .no y0)] K) x0 x1 := by
 rw [← put_eq h23]
 kernel_rfl
def g22_4b (S23 : s23) (k0 : K47 R) (x0 x1 : Int) := (g22_4 S23 k0 x0 x1)
theorem t22_4b (S23) (h23 : (ctr23 S23).holds cl) (x0 x1) : exec cl N c22_4 [(0, .v U0 x0), (1, .v U0 x1)] K = g22_4b S23 (fun y0 => K .ret [(4, .loc U12 .no y0)]) x0 x1 := by
 simp only [B0, t22_4 S23 h23, exec_ret]
 rfl
theorem rk22_0 (y0) : retK d22 .ret [(4, .loc U12 .no y0)] = some [.v U12 y0] := by kernel_rfl
def g22 (S23 : s23) (x0 x1 : Int) (k : V16 → Option R) := (g22_4b S23 k x0 x1)
theorem gen22 (S23) (h23 : (ctr23 S23).holds cl) (x0 x1) (k : List E → Option R) : exec cl N c22 [(0, .v U0 x0), (1, .v U0 x1)] (fun e env => (retK d22 e env).bind k) = g22 S23 x0 x1 (fun r0 => k [.v U12 r0]) := by
 simp only [c22, t22_4b S23 h23, rk22_0, Option.bind_some]
 rfl
def ctr22 (S : s22) : Ctr := cv2 22 U0 U0 S fun b => [.v U12 b]
def S22 (N : Nat) (x0 : Int) (x1 : Int) : Option V17 := g22 (S23 N) x0 x1 (fun r0 => some (r0))
def g100_2 (k0 : K11 R) (x0 : Int) : Option R :=
brB (decide (x0 < (0 : Int))) (k0 true) (k0 (decide (x0 ≥ (10000 : Int))))
theorem t100_2 (x0) : exec cl N c100_2 [(0, .v U1 x0)] K = g100_2 (fun y0 => exec cl N .ret [(2, .v .bool y0)] K) x0 := by kernel_rfl
def g100_2b (k0 : K11 R) (x0 : Int) := (g100_2 k0 x0)
theorem t100_2b (x0) : exec cl N c100_2 [(0, .v U1 x0)] K = g100_2b (fun y0 => K .ret [(2, .v .bool y0)]) x0 := by
 simp only [B0, t100_2, exec_ret]
 rfl
theorem rk100_0 (y0) : retK d100 .ret [(2, .v .bool y0)] = some [.v .bool y0] := by kernel_rfl
def g100 (x0 : Int) (k : Bool → Option R) := (g100_2b k x0)
theorem gen100 (x0) (k : List E → Option R) : exec cl N c100 [(0, .v U1 x0)] (fun e env => (retK d100 e env).bind k) = g100 x0 (fun r0 => k [.v .bool r0]) := by
 simp only [c100, t100_2b, rk100_0, Option.bind_some]
 rfl
def ctr100 (S : s100) : Ctr := cv1 100 U1 S fun b => [.v .bool b]
def S100 (N : Nat) (x0 : Int) : Option (Bool) := g100 x0 (fun r0 => some (r0))
def g116_0 (k0 : V0 → V11 → Option R) (x0 : V0) (x1 : V11) := k0 x0 x1
theorem t116_0 (x0 x1) : exec cl N c116_0 (e93 x0 x1) K = g116_0 (fun y0 y1 => K .normal (e93 y0 y1)) x0 x1 := by kernel_rfl
def g116_1 (k0 : K32 R) (x0 : V0) (x1 : V11) := k0 x0 x1 (x0.length : Int) (0 : Int)
theorem t116_1 (x0 x1) : exec cl N c116_1 (e93 x0 x1) K = g116_1 (fun y0 y1 y2 y3 => K .normal (e94 y0 y1 y2 y3)) x0 x1 := by kernel_rfl
theorem kp116_0 (x0 x1 x2 x3) : keep [0, 1, 7, 8] (e94 x0 x1 x2 x3) = e94 x0 x1 x2 x3 := by kernel_rfl
def g116_2 (k0 : V0 → V11 → Int → Int → Bool → Option R) (x0 : V0) (x1 : V11) (x2 x3 : Int) := k0 x0 x1 x2 x3 (decide (x3 < x2))
theorem t116_2 (x0 x1 x2 x3) : exec cl N c116_2 (e94 x0 x1 x2 x3) K = g116_2 (fun y0 y1 y2 y3 y4 => K .normal (e95 y0 y1 y2 y3 y4)) x0 x1 x2 x3 := by kernel_rfl
theorem kp116_1 (x0 x1 x2 x3 x4) : keep [0, 1, 7, 8] (e95 x0 x1 x2 x3 x4) = e94 x0 x1 x2 x3 := by kernel_rfl
theorem hb116_0 (x0 x1 x2 x3 x4) : boolOf? (ent (e95 x0 x1 x2 x3 x4) (.t 9)) = some x4 := by kernel_rfl
def g116_8 (k0 : V0 → V11 → Int → Int → Int → Bool → Option R) (x0 : V0) (x1 : V11) (x2 x3 : Int) : Option R :=
if 0 ≤ x3 ∧ x3 < (x0.length : Int) then
(x1 ((x0.getD x3.toNat (0 : Int)), ())).bind fun r426 =>
k0 x0 x1 x3 x2 x3 r426
else none
theorem t116_8 (x0 x1 x2 x3) : exec cl N c116_8 (e94 x0 x1 x2 x3) K = g116_8 (fun y0 y1 y2 y3 y4 y5 => exec cl N c116_7 (e96 y0 y1 y2 y3 y4 y5) K) x0 x1 x2 x3 := by kernel_rfl
def g116_6 (k0 : K21 R) (x0 : V0) (x1 : V11) (x2 x3 x4 : Int) (x5 : Bool) := k0 x2
theorem t116_6 (x0 x1 x2 x3 x4 x5) : exec cl N c116_6 (e96 x0 x1 x2 x3 x4 x5) K = g116_6 (fun y0 => K .normal [(4, .v U1 y0)]) x0 x1 x2 x3 x4 x5 := by kernel_rfl
theorem kp116_2 (x0) : keep [0, 1, 4, 7, 8] [(4, .v U1 x0)] = e97 x0 := by kernel_rfl
theorem kp116_3 (x0 x1 x2 x3 x4 x5) : keep [0, 1, 4, 7, 8] (e96 x0 x1 x2 x3 x4 x5) = e98 x0 x1 x3 x4 := by kernel_rfl
theorem hb116_1 (x0 x1 x2 x3 x4 x5) : boolOf? (ent (e96 x0 x1 x2 x3 x4 x5) (.t 16)) = some x5 := by kernel_rfl
theorem kp116_4 (x0) : keep [0, 1, 4, 7, 8] (e97 x0) = e97 x0 := by kernel_rfl
theorem kp116_5 (x0 x1 x2 x3) : keep [0, 1, 4, 7, 8] (e98 x0 x1 x2 x3) = e98 x0 x1 x2 x3 := by kernel_rfl
def g116_10 (k0 : K32 R) (x0 : V0) (x1 : V11) (x2 x3 : Int) := k0 x0 x1 x2 (IntKind.i64.wrap (x3 + (1 : Int)))
theorem t116_10 (x0 x1 x2 x3) : exec cl N c116_10 (e98 x0 x1 x2 x3) K = g116_10 (fun y0 y1 y2 y3 => K .normal (e94 y0 y1 y2 y3)) x0 x1 x2 x3 := by kernel_rfl
def g116_11 (k0 : K21 R) (k1 : K32 R) (k2 : K32 R) (x0 : V0) (x1 : V11) (x2 x3 : Int) := (g116_2 (fun y0 y1 y2 y3 y4 => brB y4 ((g116_8 (fun y0 y1 y2 y3 y4 y5 => brB y5 (g116_6 k0 y0 y1 y2 y3 y4 y5) (((g116_10 k1)) y0 y1 y3 y4))) y0 y1 y2 y3) (k2 y0 y1 y2 y3)) x0 x1 x2 x3)
theorem t116_11 (x0 x1 x2 x3) : exec cl N c116_11 (e94 x0 x1 x2 x3) K = g116_11 (fun y0 => K .ret (e97 y0)) (fun y0 y1 y2 y3 => K .normal (e94 y0 y1 y2 y3)) (fun y0 y1 y2 y3 => K (.exit 0) (e94 y0 y1 y2 y3)) x0 x1 x2 x3 := by
 simp only [c116_11, B0, t116_2, c116_3, exec_out, B1, hb116_0, Option.bind_some, exec_exit, kp116_1, c116_9, B2, t116_8, c116_7, hb116_1, t116_6, exec_ret, kp116_2, kp116_3, kp116_4, kp116_5, t116_10]
 rfl
def l116_12 {R : Type} (k0 : K21 R) (k1 : K32 R) : Nat → V0 → V11 → Int → Int → Option R
 | 0, _, _, _, _ => none
 | m + 1, x0, x1, x2, x3 => (g116_11 k0 (l116_12 k0 k1 m) k1 x0 x1 x2 x3)
theorem lt116_12 : ∀ (m) (x0 x1 x2 x3), iter [0, 1, 7, 8] (fun env K => exec cl N c116_11 env K) K m (e94 x0 x1 x2 x3) = l116_12 (fun y0 => K .ret (e97 y0)) (fun y0 y1 y2 y3 => K (.exit 0) (e94 y0 y1 y2 y3)) m x0 x1 x2 x3 := by
 intro m
 induction m with
 | zero => intros; rfl
 | succ m ih =>
   intro x0 x1 x2 x3
   simp only [B3, t116_11, kp116_0, ih]
   rfl
theorem kp116_6 (x0) : keep [4] (e97 x0) = [(4, .v U1 x0)] := by kernel_rfl
theorem kp116_7 (x0 x1 x2 x3) : keep [4] (e94 x0 x1 x2 x3) = [(4, .dead)] := by kernel_rfl
def g116_12 (N : Nat) (k0 : K21 R) (k1 : Option R) (x0 : V0) (x1 : V11) (x2 x3 : Int) : Option R :=
l116_12 k0 (fun y0 y1 y2 y3 => k1) N x0 x1 x2 x3
theorem t116_12 (x0 x1 x2 x3) : exec cl N c116_12 (e94 x0 x1 x2 x3) K = g116_12 N (fun y0 => K .ret [(4, .v U1 y0)]) (K (.exit 0) [(4, .dead)]) x0 x1 x2 x3 := by
 simp only [c116_12, exec_out, exec_loop, kp116_0, lt116_12, kp116_6, kp116_7]
 rfl
theorem kp116_8 (x0) : keep [4] [(4, .v U1 x0)] = [(4, .v U1 x0)] := by kernel_rfl
theorem kp116_9 : keep [4] [(4, .dead)] = [(4, .dead)] := by kernel_rfl
def g116_14 (k0 : K21 R) := k0 (-1 : Int)
theorem t116_14 : exec cl N c116_14 [(4, .dead)] K = g116_14 (fun y0 => K .normal [(4, .v U1 y0)]) := by kernel_rfl
def g116_15 (N : Nat) (k0 : K21 R) (x0 : V0) (x1 : V11) := (g116_0 (g116_1 (g116_12 N k0 (g116_14 k0))) x0 x1)
theorem t116_15 (x0 x1) : exec cl N c116_15 (e93 x0 x1) K = g116_15 N (fun y0 => K .ret [(4, .v U1 y0)]) x0 x1 := by
 simp only [c116_15, B0, t116_0, t116_1, c116_13, exec_out, B2, t116_12, kp116_8, kp116_9, t116_14, exec_ret]
 rfl
theorem rk116_0 (y0) : retK d116 .ret [(4, .v U1 y0)] = some [.v U1 y0] := by kernel_rfl
def g116 (N : Nat) (x0 : V0) (x1 : V11) (k : Int → Option R) := (g116_15 N k x0 x1)
theorem gen116 (x0 x1) (k : List E → Option R) : exec cl N c116 (e93 x0 x1) (fun e env => (retK d116 e env).bind k) = g116 N x0 x1 (fun r0 => k [.v U1 r0]) := by
 simp only [c116, t116_15, rk116_0, Option.bind_some]
 rfl
def ctr116 (S : s116) : Ctr := cv2 116 U2 U6 S fun b => [.v U1 b]
def S116 (N : Nat) (x0 : V0) (x1 : V11) : Option (Int) := g116 N x0 x1 (fun r0 => some (r0))
def g99_2 (S116 : s116) (k0 : K11 R) (x0 : V0) (x1 : V11) : Option R :=
(S116 x0 x1).bind fun r430 =>
k0 (decide (r430 ≥ (0 : Int)))
theorem t99_2 (S116) (h116 : (ctr116 S116).holds cl) (x0 x1) : exec cl N c99_2 (e93 x0 x1) K = g99_2 S116 (fun y0 => exec cl N .ret [(4, .v .bool y0)] K) x0 x1 := by
 rw [← put_eq h116]
 kernel_rfl
def g99_2b (S116 : s116) (k0 : K11 R) (x0 : V0) (x1 : V11) := (g99_2 S116 k0 x0 x1)
theorem t99_2b (S116) (h116 : (ctr116 S116).holds cl) (x0 x1) : exec cl N c99_2 (e93 x0 x1) K = g99_2b S116 (fun y0 => K .ret [(4, .v .bool y0)]) x0 x1 := by
 simp only [B0, t99_2 S116 h116, exec_ret]
 rfl
theorem rk99_0 (y0) : retK d99 .ret [(4, .v .bool y0)] = some [.v .bool y0] := by kernel_rfl
def g99 (S116 : s116) (x0 : V0) (x1 : V11) (k : Bool → Option R) := (g99_2b S116 k x0 x1)
theorem gen99 (S116) (h116 : (ctr116 S116).holds cl) (x0 x1) (k : List E → Option R) : exec cl N c99 (e93 x0 x1) (fun e env => (retK d99 e env).bind k) = g99 S116 x0 x1 (fun r0 => k [.v .bool r0]) := by
 simp only [c99, t99_2b S116 h116, rk99_0, Option.bind_some]
 rfl
def ctr99 (S : s99) : Ctr := cv2 99 U2 U6 S fun b => [.v .bool b]
def S99 (N : Nat) (x0 : V0) (x1 : V11) : Option (Bool) := g99 (S116 N) x0 x1 (fun r0 => some (r0))
def g75_6 (k0 : K38 R) (x0 : V5) := k0 x0.1
theorem t75_6 (x0) : exec cl N c75_6 [(0, .v U5 x0)] K = g75_6 (fun y0 => exec cl N (.seq (.seq c75_2 c75_4) (.seq c75_5 .ret)) [(3, .v U2 y0)] K) x0 := by kernel_rfl
def g75_2 (k0 : V0 → Bool → Option R) (x0 : V0) : Option R :=
brB (decide ((x0.length : Int) > (200 : Int))) (k0 x0 true) (brB (decide ((x0.length : Int) > (0 : Int))) (let v435 : Int := (IntKind.i64.wrap ((x0.length : Int) - (1 : Int)))
if 0 ≤ v435 ∧ v435 < (x0.length : Int) then
k0 x0 ((x0.getD v435.toNat (0 : Int)) == (0 : Int))
else none) (k0 x0 false))
theorem t75_2 (x0) : exec cl N c75_2 [(3, .v U2 x0)] K = g75_2 (fun y0 y1 => K .normal (e99 y0 y1)) x0 := by kernel_rfl
def g75_3 (k0 : K11 R) (x0 : V0) (x1 : Bool) := k0 false
theorem t75_3 (x0 x1) : exec cl N c75_3 (e99 x0 x1) K = g75_3 (fun y0 => K .normal [(2, .v .bool y0)]) x0 x1 := by kernel_rfl
theorem kp75_0 (x0) : keep [2, 3] [(2, .v .bool x0)] = [(2, .v .bool x0), (3, .dead)] := by kernel_rfl
theorem kp75_1 (x0 x1) : keep [2, 3] (e99 x0 x1) = [(2, .dead), (3, .v U2 x0)] := by kernel_rfl
theorem hb75_0 (x0 x1) : boolOf? (ent (e99 x0 x1) (.t 22)) = some x1 := by kernel_rfl
def g75_5 (S99 : s99) (S100 : s100) (k0 : K11 R) (x0 : V0) : Option R :=
(S99 x0 (fun (x437 : V3) => ((S100 x437.1).bind fun b438 => some [.v .bool b438]).bind (unE .bool))).bind fun r439 =>
k0 (!r439)
theorem t75_5 (S99) (S100) (h99 : (ctr99 S99).holds cl) (h100 : (ctr100 S100).holds cl) (x0) : exec cl N c75_5 [(2, .dead), (3, .v U2 x0)] K = g75_5 S99 S100 (fun y0 => K .normal [(2, .v .bool y0)]) x0 := by
 rw [← put_eq h99]
 rw [← put_eq h100]
 kernel_rfl
def g75_6b (S99 : s99) (S100 : s100) (k0 : K11 R) (k1 : K11 R) (x0 : V5) := (g75_6 (g75_2 (fun y0 y1 => brB y1 (g75_3 k0 y0 y1) ((g75_5 S99 S100 k1) y0))) x0)
theorem t75_6b (S99) (S100) (h99 : (ctr99 S99).holds cl) (h100 : (ctr100 S100).holds cl) (x0) : exec cl N c75_6 [(0, .v U5 x0)] K = g75_6b S99 S100 (fun y0 => K .ret [(2, .v .bool y0), (3, .dead)]) (fun y0 => K .ret [(2, .v .bool y0)]) x0 := by
 simp only [B0, t75_6, t75_2, c75_4, exec_out, B1, hb75_0, Option.bind_some, t75_3, exec_ret, kp75_0, kp75_1, t75_5 S99 S100 h99 h100]
 rfl
theorem rk75_0 (y0) : retK d75 .ret [(2, .v .bool y0), (3, .dead)] = some [.v .bool y0] := by kernel_rfl
theorem rk75_1 (y0) : retK d75 .ret [(2, .v .bool y0)] = some [.v .bool y0] := by kernel_rfl
def g75 (S99 : s99) (S100 : s100) (x0 : V5) (k : Bool → Option R) := (g75_6b S99 S100 k k x0)
theorem gen75 (S99) (S100) (h99 : (ctr99 S99).holds cl) (h100 : (ctr100 S100).holds cl) (x0) (k : List E → Option R) : exec cl N c75 [(0, .v U5 x0)] (fun e env => (retK d75 e env).bind k) = g75 S99 S100 x0 (fun r0 => k [.v .bool r0]) := by
 simp only [c75, t75_6b S99 S100 h99 h100, rk75_0, rk75_1, Option.bind_some]
 rfl
def ctr75 (S : s75) : Ctr := cv1 75 U5 S fun b => [.v .bool b]
def S75 (N : Nat) (x0 : V5) : Option (Bool) := g75 (S99 N) (S100 N) x0 (fun r0 => some (r0))
def g76_2 (k0 : K11 R) (x0 : V5) := k0 ((x0.1.length : Int) == (0 : Int))
theorem t76_2 (x0) : exec cl N c76_2 [(0, .v U5 x0)] K = g76_2 (fun y0 => exec cl N .ret [(2, .v .bool y0)] K) x0 := by kernel_rfl
def g76_2b (k0 : K11 R) (x0 : V5) := (g76_2 k0 x0)
theorem t76_2b (x0) : exec cl N c76_2 [(0, .v U5 x0)] K = g76_2b (fun y0 => K .ret [(2, .v .bool y0)]) x0 := by
 simp only [B0, t76_2, exec_ret]
 rfl
theorem rk76_0 (y0) : retK d76 .ret [(2, .v .bool y0)] = some [.v .bool y0] := by kernel_rfl
def g76 (x0 : V5) (k : Bool → Option R) := (g76_2b k x0)
theorem gen76 (x0) (k : List E → Option R) : exec cl N c76 [(0, .v U5 x0)] (fun e env => (retK d76 e env).bind k) = g76 x0 (fun r0 => k [.v .bool r0]) := by
 simp only [c76, t76_2b, rk76_0, Option.bind_some]
 rfl
def ctr76 (S : s76) : Ctr := cv1 76 U5 S fun b => [.v .bool b]
def S76 (N : Nat) (x0 : V5) : Option (Bool) := g76 x0 (fun r0 => some (r0))
def g118_0 (k0 : K38 R) (x0 : V0) := k0 x0
theorem t118_0 (x0) : exec cl N c118_0 [(0, .v U2 x0)] K = g118_0 (fun y0 => K .normal [(0, .v U2 y0)]) x0 := by kernel_rfl
theorem kp118_0 (x0) : keep [0] [(0, .v U2 x0)] = [(0, .v U2 x0)] := by kernel_rfl
def g118_1 (k0 : V0 → Bool → Option R) (x0 : V0) : Option R :=
brB (decide ((x0.length : Int) > (0 : Int))) (let v459 : Int := (IntKind.i64.wrap ((x0.length : Int) - (1 : Int)))
if 0 ≤ v459 ∧ v459 < (x0.length : Int) then
k0 x0 ((x0.getD v459.toNat (0 : Int)) == (0 : Int))
else none) (k0 x0 false)
theorem t118_1 (x0) : exec cl N c118_1 [(0, .v U2 x0)] K = g118_1 (fun y0 y1 => K .normal (e16 y0 y1)) x0 := by kernel_rfl
theorem kp118_1 (x0 x1) : keep [0] (e16 x0 x1) = [(0, .v U2 x0)] := by kernel_rfl
theorem hb118_0 (x0 x1) : boolOf? (ent (e16 x0 x1) (.t 14)) = some x1 := by kernel_rfl
def g118_3 (k0 : K38 R) (x0 : V0) : Option R :=
let v461 : Int := (IntKind.i64.wrap ((x0.length : Int) - (1 : Int)))
if 0 ≤ (0 : Int) ∧ (0 : Int) ≤ v461 ∧ v461 ≤ (x0.length : Int) ∧ (x0.length : Int) ≤ (x0.length : Int) then
k0 ((x0.drop (0 : Int).toNat).take (v461.toNat - (0 : Int).toNat))
else none
theorem t118_3 (x0) : exec cl N c118_3 [(0, .v U2 x0)] K = g118_3 (fun y0 => K .normal [(0, .v U2 y0)]) x0 := by kernel_rfl
def g118_5 (k0 : K38 R) (k1 : K38 R) (x0 : V0) := (g118_1 (fun y0 y1 => brB y1 ((g118_3 k0) y0) (k1 y0)) x0)
theorem t118_5 (x0) : exec cl N c118_5 [(0, .v U2 x0)] K = g118_5 (fun y0 => K .normal [(0, .v U2 y0)]) (fun y0 => K (.exit 0) [(0, .v U2 y0)]) x0 := by
 simp only [c118_5, B0, t118_1, c118_2, exec_out, B1, hb118_0, Option.bind_some, exec_exit, kp118_1, c118_4, B2, t118_3, kp118_0]
 rfl
def l118_6 {R : Type} (k0 : K38 R) : Nat → V0 → Option R
 | 0, _ => none
 | m + 1, x0 => (g118_5 (l118_6 k0 m) k0 x0)
theorem lt118_6 : ∀ (m) (x0), iter [0] (fun env K => exec cl N c118_5 env K) K m [(0, .v U2 x0)] = l118_6 (fun y0 => K (.exit 0) [(0, .v U2 y0)]) m x0 := by
 intro m
 induction m with
 | zero => intros; rfl
 | succ m ih =>
   intro x0
   simp only [B3, t118_5, kp118_0, ih]
   rfl
def g118_6 (N : Nat) (k0 : K38 R) (x0 : V0) : Option R :=
l118_6 k0 N x0
theorem t118_6 (x0) : exec cl N c118_6 [(0, .v U2 x0)] K = g118_6 N (fun y0 => K (.exit 0) [(0, .v U2 y0)]) x0 := by
 simp only [c118_6, exec_out, exec_loop, kp118_0, lt118_6, kp118_0]
 rfl
def g118_8 (k0 : K38 R) (x0 : V0) := k0 x0
theorem t118_8 (x0) : exec cl N c118_8 [(0, .v U2 x0)] K = g118_8 (fun y0 => K .normal [(2, .v U2 y0)]) x0 := by kernel_rfl
def g118_9 (N : Nat) (k0 : K38 R) (x0 : V0) := (g118_0 (g118_6 N ((g118_8 k0))) x0)
theorem t118_9 (x0) : exec cl N c118_9 [(0, .v U2 x0)] K = g118_9 N (fun y0 => K .ret [(2, .v U2 y0)]) x0 := by
 simp only [c118_9, B0, t118_0, c118_7, exec_out, B2, t118_6, kp118_0, t118_8, exec_ret]
 rfl
theorem rk118_0 (y0) : retK d118 .ret [(2, .v U2 y0)] = some [.v U2 y0] := by kernel_rfl
def g118 (N : Nat) (x0 : V0) (k : V0 → Option R) := (g118_9 N k x0)
theorem gen118 (x0) (k : List E → Option R) : exec cl N c118 [(0, .v U2 x0)] (fun e env => (retK d118 e env).bind k) = g118 N x0 (fun r0 => k [.v U2 r0]) := by
 simp only [c118, t118_9, rk118_0, Option.bind_some]
 rfl
def ctr118 (S : s118) : Ctr := cv1 118 U2 S fun b => [.v U2 b]
def S118 (N : Nat) (x0 : V0) : Option V2 := g118 N x0 (fun r0 => some (r0))
def g114_28 (k0 : V0 → V0 → V0 → Option R) (x0 x1 : V0) : Option R :=
let v501 : Int := (IntKind.i64.wrap ((x0.length : Int) + (x1.length : Int)))
if 0 ≤ v501 ∧ v501 ≤ v501 ∧ v501 ≤ ((17592186044416 : Nat) : Int) then
k0 x0 x1 (List.replicate v501.toNat (0 : Int))
else none
theorem t114_28 (x0 x1) : exec cl N c114_28 (e20 x0 x1) K = g114_28 (fun y0 y1 y2 => exec cl N (.seq (.seq c114_2 c114_26) (.seq c114_27 .ret)) (e63 y0 y1 y2) K) x0 x1 := by kernel_rfl
def g114_2 (k0 : K1 R) (x0 x1 x2 : V0) := k0 x1 x2 x0 (x0.length : Int) (0 : Int)
theorem t114_2 (x0 x1 x2) : exec cl N c114_2 (e63 x0 x1 x2) K = g114_2 (fun y0 y1 y2 y3 y4 => K .normal (e100 y0 y1 y2 y3 y4)) x0 x1 x2 := by kernel_rfl
theorem kp114_0 (x0 x1 x2 x3 x4) : keep [1, 5, 17, 18, 19] (e100 x0 x1 x2 x3 x4) = e100 x0 x1 x2 x3 x4 := by kernel_rfl
def g114_3 (k0 : K34 R) (x0 x1 x2 : V0) (x3 x4 : Int) := k0 x0 x1 x2 x3 x4 (decide (x4 < x3))
theorem t114_3 (x0 x1 x2 x3 x4) : exec cl N c114_3 (e100 x0 x1 x2 x3 x4) K = g114_3 (fun y0 y1 y2 y3 y4 y5 => K .normal (e101 y0 y1 y2 y3 y4 y5)) x0 x1 x2 x3 x4 := by kernel_rfl
theorem kp114_1 (x0 x1 x2 x3 x4 x5) : keep [1, 5, 17, 18, 19] (e101 x0 x1 x2 x3 x4 x5) = e100 x0 x1 x2 x3 x4 := by kernel_rfl
theorem hb114_0 (x0 x1 x2 x3 x4 x5) : boolOf? (ent (e101 x0 x1 x2 x3 x4 x5) (.t 20)) = some x5 := by kernel_rfl
def g114_21 (k0 : V0 → V0 → Int → Int → Int → V0 → Int → Int → Option R) (x0 x1 x2 : V0) (x3 x4 : Int) : Option R :=
if 0 ≤ x4 ∧ x4 < (x2.length : Int) then
k0 x0 x1 x4 (x2.getD x4.toNat (0 : Int)) (0 : Int) x2 x3 x4
else none
theorem t114_21 (x0 x1 x2 x3 x4) : exec cl N c114_21 (e100 x0 x1 x2 x3 x4) K = g114_21 (fun y0 y1 y2 y3 y4 y5 y6 y7 => exec cl N (.seq (.seq c114_7 c114_19) c114_20) (e102 y0 y1 y2 y3 y4 y5 y6 y7) K) x0 x1 x2 x3 x4 := by kernel_rfl
def g114_7 (k0 : K4 R) (x0 x1 : V0) (x2 x3 x4 : Int) (x5 : V0) (x6 x7 : Int) := k0 x0 x1 x2 x3 x4 x5 x6 x7 x0 (x0.length : Int) (0 : Int)
theorem t114_7 (x0 x1 x2 x3 x4 x5 x6 x7) : exec cl N c114_7 (e102 x0 x1 x2 x3 x4 x5 x6 x7) K = g114_7 (fun y0 y1 y2 y3 y4 y5 y6 y7 y8 y9 y10 => K .normal (e103 y0 y1 y2 y3 y4 y5 y6 y7 y8 y9 y10)) x0 x1 x2 x3 x4 x5 x6 x7 := by kernel_rfl
theorem kp114_2 (x0 x1 x2 x3 x4 x5 x6 x7 x8 x9 x10) : keep [1, 5, 6, 7, 8, 17, 18, 19, 24, 25, 26] (e103 x0 x1 x2 x3 x4 x5 x6 x7 x8 x9 x10) = e103 x0 x1 x2 x3 x4 x5 x6 x7 x8 x9 x10 := by kernel_rfl
def g114_8 (k0 : V0 → V0 → Int → Int → Int → V0 → Int → Int → V0 → Int → Int → Bool → Option R) (x0 x1 : V0) (x2 x3 x4 : Int) (x5 : V0) (x6 x7 : Int) (x8 : V0) (x9 x10 : Int) := k0 x0 x1 x2 x3 x4 x5 x6 x7 x8 x9 x10 (decide (x10 < x9))
theorem t114_8 (x0 x1 x2 x3 x4 x5 x6 x7 x8 x9 x10) : exec cl N c114_8 (e103 x0 x1 x2 x3 x4 x5 x6 x7 x8 x9 x10) K = g114_8 (fun y0 y1 y2 y3 y4 y5 y6 y7 y8 y9 y10 y11 => K .normal (e104 y0 y1 y2 y3 y4 y5 y6 y7 y8 y9 y10 y11)) x0 x1 x2 x3 x4 x5 x6 x7 x8 x9 x10 := by kernel_rfl
theorem kp114_3 (x0 x1 x2 x3 x4 x5 x6 x7 x8 x9 x10 x11) : keep [1, 5, 6, 7, 8, 17, 18, 19, 24, 25, 26] (e104 x0 x1 x2 x3 x4 x5 x6 x7 x8 x9 x10 x11) = e103 x0 x1 x2 x3 x4 x5 x6 x7 x8 x9 x10 := by kernel_rfl
theorem hb114_1 (x0 x1 x2 x3 x4 x5 x6 x7 x8 x9 x10 x11) : boolOf? (ent (e104 x0 x1 x2 x3 x4 x5 x6 x7 x8 x9 x10 x11) (.t 27)) = some x11 := by kernel_rfl
def g114_14 (k0 : K4 R) (x0 x1 : V0) (x2 x3 x4 : Int) (x5 : V0) (x6 x7 : Int) (x8 : V0) (x9 x10 : Int) : Option R :=
if 0 ≤ x10 ∧ x10 < (x8.length : Int) then
let v516 : Int := (IntKind.i64.wrap (x2 + x10))
if 0 ≤ v516 ∧ v516 < (x1.length : Int) then
if v516.toNat < x1.length then
let v520 : Int := (IntKind.i64.wrap (x4 + (IntKind.i64.wrap ((x1.getD v516.toNat (0 : Int)) + (IntKind.i64.wrap (x3 * (x8.getD x10.toNat (0 : Int))))))))
let v521 : Int := (IntKind.i64.wrap (x2 + x10))
if 0 ≤ v521 ∧ v521 < (x1.length : Int) then
if v521.toNat < x1.length then
k0 x0 (x1.set v521.toNat (Int.tmod v520 (10000 : Int))) x2 x3 (IntKind.i64.wrap (Int.tdiv v520 (10000 : Int))) x5 x6 x7 x8 x9 x10
else none
else none
else none
else none
else none
theorem t114_14 (x0 x1 x2 x3 x4 x5 x6 x7 x8 x9 x10) : exec cl N c114_14 (e103 x0 x1 x2 x3 x4 x5 x6 x7 x8 x9 x10) K = g114_14 (fun y0 y1 y2 y3 y4 y5 y6 y7 y8 y9 y10 => K .normal (e103 y0 y1 y2 y3 y4 y5 y6 y7 y8 y9 y10)) x0 x1 x2 x3 x4 x5 x6 x7 x8 x9 x10 := by kernel_rfl
def g114_16 (k0 : K4 R) (x0 x1 : V0) (x2 x3 x4 : Int) (x5 : V0) (x6 x7 : Int) (x8 : V0) (x9 x10 : Int) := k0 x0 x1 x2 x3 x4 x5 x6 x7 x8 x9 (IntKind.i64.wrap (x10 + (1 : Int)))
theorem t114_16 (x0 x1 x2 x3 x4 x5 x6 x7 x8 x9 x10) : exec cl N c114_16 (e103 x0 x1 x2 x3 x4 x5 x6 x7 x8 x9 x10) K = g114_16 (fun y0 y1 y2 y3 y4 y5 y6 y7 y8 y9 y10 => K .normal (e103 y0 y1 y2 y3 y4 y5 y6 y7 y8 y9 y10)) x0 x1 x2 x3 x4 x5 x6 x7 x8 x9 x10 := by kernel_rfl
def g114_17 (k0 : K4 R) (k1 : K4 R) (x0 x1 : V0) (x2 x3 x4 : Int) (x5 : V0) (x6 x7 : Int) (x8 : V0) (x9 x10 : Int) := (g114_8 (fun y0 y1 y2 y3 y4 y5 y6 y7 y8 y9 y10 y11 => brB y11 ((g114_14 ((g114_16 k0))) y0 y1 y2 y3 y4 y5 y6 y7 y8 y9 y10) (k1 y0 y1 y2 y3 y4 y5 y6 y7 y8 y9 y10)) x0 x1 x2 x3 x4 x5 x6 x7 x8 x9 x10)
theorem t114_17 (x0 x1 x2 x3 x4 x5 x6 x7 x8 x9 x10) : exec cl N c114_17 (e103 x0 x1 x2 x3 x4 x5 x6 x7 x8 x9 x10) K = g114_17 (fun y0 y1 y2 y3 y4 y5 y6 y7 y8 y9 y10 => K .normal (e103 y0 y1 y2 y3 y4 y5 y6 y7 y8 y9 y10)) (fun y0 y1 y2 y3 y4 y5 y6 y7 y8 y9 y10 => K (.exit 2) (e103 y0 y1 y2 y3 y4 y5 y6 y7 y8 y9 y10)) x0 x1 x2 x3 x4 x5 x6 x7 x8 x9 x10 := by
 simp only [c114_17, B0, t114_8, c114_9, exec_out, B1, hb114_1, Option.bind_some, exec_exit, kp114_3, c114_15, B2, t114_14, kp114_2, t114_16]
 rfl
def l114_18 {R : Type} (k0 : K4 R) : Nat → V0 → V0 → Int → Int → Int → V0 → Int → Int → V0 → Int → Int → Option R
 | 0, _, _, _, _, _, _, _, _, _, _, _ => none
 | m + 1, x0, x1, x2, x3, x4, x5, x6, x7, x8, x9, x10 => (g114_17 (l114_18 k0 m) k0 x0 x1 x2 x3 x4 x5 x6 x7 x8 x9 x10)
theorem lt114_18 : ∀ (m) (x0 x1 x2 x3 x4 x5 x6 x7 x8 x9 x10), iter [1, 5, 6, 7, 8, 17, 18, 19, 24, 25, 26] (fun env K => exec cl N c114_17 env K) K m (e103 x0 x1 x2 x3 x4 x5 x6 x7 x8 x9 x10) = l114_18 (fun y0 y1 y2 y3 y4 y5 y6 y7 y8 y9 y10 => K (.exit 2) (e103 y0 y1 y2 y3 y4 y5 y6 y7 y8 y9 y10)) m x0 x1 x2 x3 x4 x5 x6 x7 x8 x9 x10 := by
 intro m
 induction m with
 | zero => intros; rfl
 | succ m ih =>
   intro x0 x1 x2 x3 x4 x5 x6 x7 x8 x9 x10
   simp only [B3, t114_17, kp114_2, ih]
   rfl
theorem kp114_4 (x0 x1 x2 x3 x4 x5 x6 x7 x8 x9 x10) : keep [1, 5, 6, 8, 17, 18, 19] (e103 x0 x1 x2 x3 x4 x5 x6 x7 x8 x9 x10) = e105 x0 x1 x2 x4 x5 x6 x7 := by kernel_rfl
def g114_18 (N : Nat) (k0 : V0 → V0 → Int → Int → V0 → Int → Int → Option R) (x0 x1 : V0) (x2 x3 x4 : Int) (x5 : V0) (x6 x7 : Int) (x8 : V0) (x9 x10 : Int) : Option R :=
l114_18 (fun y0 y1 y2 y3 y4 y5 y6 y7 y8 y9 y10 => k0 y0 y1 y2 y4 y5 y6 y7) N x0 x1 x2 x3 x4 x5 x6 x7 x8 x9 x10
theorem t114_18 (x0 x1 x2 x3 x4 x5 x6 x7 x8 x9 x10) : exec cl N c114_18 (e103 x0 x1 x2 x3 x4 x5 x6 x7 x8 x9 x10) K = g114_18 N (fun y0 y1 y2 y3 y4 y5 y6 => K (.exit 2) (e105 y0 y1 y2 y3 y4 y5 y6)) x0 x1 x2 x3 x4 x5 x6 x7 x8 x9 x10 := by
 simp only [c114_18, exec_out, exec_loop, kp114_2, lt114_18, kp114_4]
 rfl
theorem kp114_5 (x0 x1 x2 x3 x4 x5 x6) : keep [1, 5, 6, 8, 17, 18, 19] (e105 x0 x1 x2 x3 x4 x5 x6) = e105 x0 x1 x2 x3 x4 x5 x6 := by kernel_rfl
def g114_20 (k0 : K1 R) (x0 x1 : V0) (x2 x3 : Int) (x4 : V0) (x5 x6 : Int) : Option R :=
let v525 : Int := (IntKind.i64.wrap (x2 + (x0.length : Int)))
if 0 ≤ v525 ∧ v525 < (x1.length : Int) then
if v525.toNat < x1.length then
if 0 ≤ v525 ∧ v525 < (x1.length : Int) then
if v525.toNat < x1.length then
k0 x0 (x1.set v525.toNat (IntKind.i64.wrap ((x1.getD v525.toNat (0 : Int)) + x3))) x4 x5 x6
else none
else none
else none
else none
theorem t114_20 (x0 x1 x2 x3 x4 x5 x6) : exec cl N c114_20 (e105 x0 x1 x2 x3 x4 x5 x6) K = g114_20 (fun y0 y1 y2 y3 y4 => K .normal (e100 y0 y1 y2 y3 y4)) x0 x1 x2 x3 x4 x5 x6 := by kernel_rfl
def g114_23 (k0 : K1 R) (x0 x1 x2 : V0) (x3 x4 : Int) := k0 x0 x1 x2 x3 (IntKind.i64.wrap (x4 + (1 : Int)))
theorem t114_23 (x0 x1 x2 x3 x4) : exec cl N c114_23 (e100 x0 x1 x2 x3 x4) K = g114_23 (fun y0 y1 y2 y3 y4 => K .normal (e100 y0 y1 y2 y3 y4)) x0 x1 x2 x3 x4 := by kernel_rfl
def g114_24 (N : Nat) (k0 : K1 R) (k1 : K1 R) (x0 x1 x2 : V0) (x3 x4 : Int) := (g114_3 (fun y0 y1 y2 y3 y4 y5 => brB y5 ((g114_21 (g114_7 (g114_18 N ((g114_20 ((g114_23 k0))))))) y0 y1 y2 y3 y4) (k1 y0 y1 y2 y3 y4)) x0 x1 x2 x3 x4)
theorem t114_24 (x0 x1 x2 x3 x4) : exec cl N c114_24 (e100 x0 x1 x2 x3 x4) K = g114_24 N (fun y0 y1 y2 y3 y4 => K .normal (e100 y0 y1 y2 y3 y4)) (fun y0 y1 y2 y3 y4 => K (.exit 0) (e100 y0 y1 y2 y3 y4)) x0 x1 x2 x3 x4 := by
 simp only [c114_24, B0, t114_3, c114_4, exec_out, B1, hb114_0, Option.bind_some, exec_exit, kp114_1, c114_22, B2, t114_21, t114_7, c114_19, t114_18, kp114_5, t114_20, kp114_0, t114_23]
 rfl
def l114_25 {R : Type} (N : Nat) (k0 : K1 R) : Nat → V0 → V0 → V0 → Int → Int → Option R
 | 0, _, _, _, _, _ => none
 | m + 1, x0, x1, x2, x3, x4 => (g114_24 N (l114_25 N k0 m) k0 x0 x1 x2 x3 x4)
theorem lt114_25 : ∀ (m) (x0 x1 x2 x3 x4), iter [1, 5, 17, 18, 19] (fun env K => exec cl N c114_24 env K) K m (e100 x0 x1 x2 x3 x4) = l114_25 N (fun y0 y1 y2 y3 y4 => K (.exit 0) (e100 y0 y1 y2 y3 y4)) m x0 x1 x2 x3 x4 := by
 intro m
 induction m with
 | zero => intros; rfl
 | succ m ih =>
   intro x0 x1 x2 x3 x4
   simp only [B3, t114_24, kp114_0, ih]
   rfl
theorem kp114_6 (x0 x1 x2 x3 x4) : keep [5] (e100 x0 x1 x2 x3 x4) = e38 x1 := by kernel_rfl
def g114_25 (N : Nat) (k0 : K38 R) (x0 x1 x2 : V0) (x3 x4 : Int) : Option R :=
l114_25 N (fun y0 y1 y2 y3 y4 => k0 y1) N x0 x1 x2 x3 x4
theorem t114_25 (x0 x1 x2 x3 x4) : exec cl N c114_25 (e100 x0 x1 x2 x3 x4) K = g114_25 N (fun y0 => K (.exit 0) (e38 y0)) x0 x1 x2 x3 x4 := by
 simp only [c114_25, exec_out, exec_loop, kp114_0, lt114_25, kp114_6]
 rfl
theorem kp114_7 (x0) : keep [5] (e38 x0) = e38 x0 := by kernel_rfl
def g114_27 (S118 : s118) (k0 : K38 R) (x0 : V0) : Option R :=
(S118 x0).bind fun r529 =>
k0 r529
theorem t114_27 (S118) (h118 : (ctr118 S118).holds cl) (x0) : exec cl N c114_27 (e38 x0) K = g114_27 S118 (fun y0 => K .normal [(4, .v U2 y0)]) x0 := by
 rw [← put_eq h118]
 kernel_rfl
def g114_28b (N : Nat) (S118 : s118) (k0 : K38 R) (x0 x1 : V0) := (g114_28 (g114_2 (g114_25 N ((g114_27 S118 k0)))) x0 x1)
theorem t114_28b (S118) (h118 : (ctr118 S118).holds cl) (x0 x1) : exec cl N c114_28 (e20 x0 x1) K = g114_28b N S118 (fun y0 => K .ret [(4, .v U2 y0)]) x0 x1 := by
 simp only [B0, t114_28, t114_2, c114_26, exec_out, B2, t114_25, kp114_7, t114_27 S118 h118, exec_ret]
 rfl
theorem rk114_0 (y0) : retK d114 .ret [(4, .v U2 y0)] = some [.v U2 y0] := by kernel_rfl
def g114 (N : Nat) (S118 : s118) (x0 x1 : V0) (k : V0 → Option R) := (g114_28b N S118 k x0 x1)
theorem gen114 (S118) (h118 : (ctr118 S118).holds cl) (x0 x1) (k : List E → Option R) : exec cl N c114 (e20 x0 x1) (fun e env => (retK d114 e env).bind k) = g114 N S118 x0 x1 (fun r0 => k [.v U2 r0]) := by
 simp only [c114, t114_28b S118 h118, rk114_0, Option.bind_some]
 rfl
def ctr114 (S : s114) : Ctr := cv2 114 U2 U2 S fun b => [.v U2 b]
def S114 (N : Nat) (x0 : V0) (x1 : V0) : Option V2 := g114 N (S118 N) x0 x1 (fun r0 => some (r0))
def g96_0 (k0 : K37 R) (x0 x1 : V0) := k0 x0 x1
theorem t96_0 (x0 x1) : exec cl N c96_0 (e20 x0 x1) K = g96_0 (fun y0 y1 => K .normal (e20 y0 y1)) x0 x1 := by kernel_rfl
def g96_1 (k0 : K45 R) (x0 x1 : V0) := k0 x0 x1 ((x0.length : Int) != (x1.length : Int))
theorem t96_1 (x0 x1) : exec cl N c96_1 (e20 x0 x1) K = g96_1 (fun y0 y1 y2 => K .normal (e21 y0 y1 y2)) x0 x1 := by kernel_rfl
def g96_2 (k0 : K11 R) (x0 x1 : V0) (x2 : Bool) := k0 (decide ((x0.length : Int) < (x1.length : Int)))
theorem t96_2 (x0 x1 x2) : exec cl N c96_2 (e21 x0 x1 x2) K = g96_2 (fun y0 => K .normal [(15, .v .bool y0)]) x0 x1 x2 := by kernel_rfl
def g96_3 (k0 : K21 R) (x0 : Bool) := k0 (-1 : Int)
theorem t96_3 (x0) : exec cl N c96_3 [(15, .v .bool x0)] K = g96_3 (fun y0 => K .normal [(4, .v U1 y0)]) x0 := by kernel_rfl
theorem kp96_0 (x0) : keep [4] [(4, .v U1 x0)] = [(4, .v U1 x0)] := by kernel_rfl
theorem kp96_1 (x0) : keep [4] [(15, .v .bool x0)] = [(4, .dead)] := by kernel_rfl
theorem hb96_0 (x0) : boolOf? (ent [(15, .v .bool x0)] (.t 15)) = some x0 := by kernel_rfl
def g96_5 (k0 : K21 R) := k0 (1 : Int)
theorem t96_5 : exec cl N c96_5 [(4, .dead)] K = g96_5 (fun y0 => K .normal [(4, .v U1 y0)]) := by kernel_rfl
theorem kp96_2 (x0) : keep [0, 1, 4] [(4, .v U1 x0)] = e22 x0 := by kernel_rfl
theorem kp96_3 (x0 x1 x2) : keep [0, 1, 4] (e21 x0 x1 x2) = e23 x0 x1 := by kernel_rfl
theorem hb96_1 (x0 x1 x2) : boolOf? (ent (e21 x0 x1 x2) (.t 10)) = some x2 := by kernel_rfl
def g96_7 (k0 : K19 R) (x0 x1 : V0) := k0 x0 x1 (IntKind.i64.wrap ((x0.length : Int) - (1 : Int)))
theorem t96_7 (x0 x1) : exec cl N c96_7 (e23 x0 x1) K = g96_7 (fun y0 y1 y2 => K .normal (e25 y0 y1 y2)) x0 x1 := by kernel_rfl
theorem kp96_4 (x0 x1 x2) : keep [0, 1, 5] (e25 x0 x1 x2) = e25 x0 x1 x2 := by kernel_rfl
def g96_8 (k0 : K31 R) (x0 x1 : V0) (x2 : Int) := k0 x0 x1 x2 (decide (x2 ≥ (0 : Int)))
theorem t96_8 (x0 x1 x2) : exec cl N c96_8 (e25 x0 x1 x2) K = g96_8 (fun y0 y1 y2 y3 => K .normal (e26 y0 y1 y2 y3)) x0 x1 x2 := by kernel_rfl
theorem kp96_5 (x0 x1 x2 x3) : keep [0, 1, 5] (e26 x0 x1 x2 x3) = e25 x0 x1 x2 := by kernel_rfl
theorem hb96_2 (x0 x1 x2 x3) : boolOf? (ent (e26 x0 x1 x2 x3) (.t 20)) = some x3 := by kernel_rfl
def g96_10 (k0 : K31 R) (x0 x1 : V0) (x2 : Int) : Option R :=
if 0 ≤ x2 ∧ x2 < (x0.length : Int) then
if 0 ≤ x2 ∧ x2 < (x1.length : Int) then
k0 x0 x1 x2 ((x0.getD x2.toNat (0 : Int)) != (x1.getD x2.toNat (0 : Int)))
else none
else none
theorem t96_10 (x0 x1 x2) : exec cl N c96_10 (e25 x0 x1 x2) K = g96_10 (fun y0 y1 y2 y3 => K .normal (e27 y0 y1 y2 y3)) x0 x1 x2 := by kernel_rfl
def g96_11 (k0 : K11 R) (x0 x1 : V0) (x2 : Int) (x3 : Bool) : Option R :=
if 0 ≤ x2 ∧ x2 < (x0.length : Int) then
if 0 ≤ x2 ∧ x2 < (x1.length : Int) then
k0 (decide ((x0.getD x2.toNat (0 : Int)) < (x1.getD x2.toNat (0 : Int))))
else none
else none
theorem t96_11 (x0 x1 x2 x3) : exec cl N c96_11 (e27 x0 x1 x2 x3) K = g96_11 (fun y0 => K .normal [(40, .v .bool y0)]) x0 x1 x2 x3 := by kernel_rfl
def g96_12 (k0 : K21 R) (x0 : Bool) := k0 (-1 : Int)
theorem t96_12 (x0) : exec cl N c96_12 [(40, .v .bool x0)] K = g96_12 (fun y0 => K .normal [(4, .v U1 y0)]) x0 := by kernel_rfl
theorem kp96_6 (x0) : keep [4] [(40, .v .bool x0)] = [(4, .dead)] := by kernel_rfl
theorem hb96_3 (x0) : boolOf? (ent [(40, .v .bool x0)] (.t 40)) = some x0 := by kernel_rfl
def g96_14 (k0 : K21 R) := k0 (1 : Int)
theorem t96_14 : exec cl N c96_14 [(4, .dead)] K = g96_14 (fun y0 => K .normal [(4, .v U1 y0)]) := by kernel_rfl
theorem kp96_7 (x0) : keep [0, 1, 4, 5] [(4, .v U1 x0)] = e28 x0 := by kernel_rfl
theorem kp96_8 (x0 x1 x2 x3) : keep [0, 1, 4, 5] (e27 x0 x1 x2 x3) = e29 x0 x1 x2 := by kernel_rfl
theorem hb96_4 (x0 x1 x2 x3) : boolOf? (ent (e27 x0 x1 x2 x3) (.t 31)) = some x3 := by kernel_rfl
theorem kp96_9 (x0) : keep [0, 1, 4, 5] (e28 x0) = e28 x0 := by kernel_rfl
theorem kp96_10 (x0 x1 x2) : keep [0, 1, 4, 5] (e29 x0 x1 x2) = e29 x0 x1 x2 := by kernel_rfl
def g96_17 (k0 : K19 R) (x0 x1 : V0) (x2 : Int) := k0 x0 x1 (IntKind.i64.wrap (x2 - (1 : Int)))
theorem t96_17 (x0 x1 x2) : exec cl N c96_17 (e29 x0 x1 x2) K = g96_17 (fun y0 y1 y2 => K .normal (e25 y0 y1 y2)) x0 x1 x2 := by kernel_rfl
def g96_18 (k0 : K21 R) (k1 : K19 R) (k2 : K19 R) (x0 x1 : V0) (x2 : Int) := (g96_8 (fun y0 y1 y2 y3 => brB y3 ((g96_10 (fun y0 y1 y2 y3 => brB y3 (g96_11 (fun y0 => brB y0 (g96_12 k0 y0) (g96_14 k0)) y0 y1 y2 y3) (((g96_17 k1)) y0 y1 y2))) y0 y1 y2) (k2 y0 y1 y2)) x0 x1 x2)
theorem t96_18 (x0 x1 x2) : exec cl N c96_18 (e25 x0 x1 x2) K = g96_18 (fun y0 => K .ret (e28 y0)) (fun y0 y1 y2 => K .normal (e25 y0 y1 y2)) (fun y0 y1 y2 => K (.exit 0) (e25 y0 y1 y2)) x0 x1 x2 := by
 simp only [c96_18, B0, t96_8, c96_9, exec_out, B1, hb96_2, Option.bind_some, exec_exit, kp96_5, c96_16, B2, t96_10, c96_15, hb96_4, t96_11, c96_13, hb96_3, t96_12, exec_ret, kp96_0, kp96_6, t96_14, kp96_7, kp96_8, kp96_10, kp96_9, t96_17]
 rfl
def l96_19 {R : Type} (k0 : K21 R) (k1 : K19 R) : Nat → V0 → V0 → Int → Option R
 | 0, _, _, _ => none
 | m + 1, x0, x1, x2 => (g96_18 k0 (l96_19 k0 k1 m) k1 x0 x1 x2)
theorem lt96_19 : ∀ (m) (x0 x1 x2), iter [0, 1, 5] (fun env K => exec cl N c96_18 env K) K m (e25 x0 x1 x2) = l96_19 (fun y0 => K .ret (e28 y0)) (fun y0 y1 y2 => K (.exit 0) (e25 y0 y1 y2)) m x0 x1 x2 := by
 intro m
 induction m with
 | zero => intros; rfl
 | succ m ih =>
   intro x0 x1 x2
   simp only [B3, t96_18, kp96_4, ih]
   rfl
theorem kp96_11 (x0) : keep [4] (e28 x0) = [(4, .v U1 x0)] := by kernel_rfl
theorem kp96_12 (x0 x1 x2) : keep [4] (e25 x0 x1 x2) = [(4, .dead)] := by kernel_rfl
def g96_19 (N : Nat) (k0 : K21 R) (k1 : Option R) (x0 x1 : V0) (x2 : Int) : Option R :=
l96_19 k0 (fun y0 y1 y2 => k1) N x0 x1 x2
theorem t96_19 (x0 x1 x2) : exec cl N c96_19 (e25 x0 x1 x2) K = g96_19 N (fun y0 => K .ret [(4, .v U1 y0)]) (K (.exit 0) [(4, .dead)]) x0 x1 x2 := by
 simp only [c96_19, exec_out, exec_loop, kp96_4, lt96_19, kp96_11, kp96_12]
 rfl
theorem kp96_13 : keep [4] [(4, .dead)] = [(4, .dead)] := by kernel_rfl
def g96_21 (k0 : K21 R) := k0 (0 : Int)
theorem t96_21 : exec cl N c96_21 [(4, .dead)] K = g96_21 (fun y0 => K .normal [(4, .v U1 y0)]) := by kernel_rfl
def g96_22 (N : Nat) (k0 : K21 R) (k1 : K21 R) (x0 x1 : V0) := (g96_0 (g96_1 (fun y0 y1 y2 => brB y2 (g96_2 (fun y0 => brB y0 (g96_3 k0 y0) (g96_5 k0)) y0 y1 y2) ((g96_7 (g96_19 N k1 (g96_21 k1))) y0 y1))) x0 x1)
theorem t96_22 (x0 x1) : exec cl N c96_22 (e20 x0 x1) K = g96_22 N (fun y0 => K .ret (e22 y0)) (fun y0 => K .ret [(4, .v U1 y0)]) x0 x1 := by
 simp only [c96_22, B0, t96_0, t96_1, c96_6, exec_out, B1, hb96_1, Option.bind_some, t96_2, c96_4, hb96_0, t96_3, exec_ret, kp96_0, kp96_1, t96_5, kp96_2, kp96_3, t96_7, c96_20, B2, t96_19, kp96_13, t96_21]
 rfl
theorem rk96_0 (y0) : retK d96 .ret (e22 y0) = some [.v U1 y0] := by kernel_rfl
theorem rk96_1 (y0) : retK d96 .ret [(4, .v U1 y0)] = some [.v U1 y0] := by kernel_rfl
def g96 (N : Nat) (x0 x1 : V0) (k : Int → Option R) := (g96_22 N k k x0 x1)
theorem gen96 (x0 x1) (k : List E → Option R) : exec cl N c96 (e20 x0 x1) (fun e env => (retK d96 e env).bind k) = g96 N x0 x1 (fun r0 => k [.v U1 r0]) := by
 simp only [c96, t96_22, rk96_0, rk96_1, Option.bind_some]
 rfl
def ctr96 (S : s96) : Ctr := cv2 96 U2 U2 S fun b => [.v U1 b]
def S96 (N : Nat) (x0 : V0) (x1 : V0) : Option (Int) := g96 N x0 x1 (fun r0 => some (r0))
def g119_26 (S117 : s117) (k0 : K19 R) (x0 x1 : V0) : Option R :=
(S117 x0).bind fun r567 =>
k0 x1 r567 (0 : Int)
theorem t119_26 (S117) (h117 : (ctr117 S117).holds cl) (x0 x1) : exec cl N c119_26 (e20 x0 x1) K = g119_26 S117 (fun y0 y1 y2 => exec cl N (.seq (.seq c119_3 c119_24) (.seq c119_25 .ret)) [(1, .v U2 y0), (5, .own true 3 U1 .no y1), (6, .v U1 y2)] K) x0 x1 := by
 rw [← put_eq h117]
 kernel_rfl
def g119_3 (k0 : K7 R) (x0 x1 : V0) (x2 : Int) := k0 x0 x1 x2 (x1.length : Int) (0 : Int)
theorem t119_3 (x0 x1 x2) : exec cl N c119_3 [(1, .v U2 x0), (5, .own true 3 U1 .no x1), (6, .v U1 x2)] K = g119_3 (fun y0 y1 y2 y3 y4 => K .normal (e106 y0 y1 y2 y3 y4)) x0 x1 x2 := by kernel_rfl
theorem kp119_0 (x0 x1 x2 x3 x4) : keep [1, 5, 6, 11, 12] (e106 x0 x1 x2 x3 x4) = e106 x0 x1 x2 x3 x4 := by kernel_rfl
def g119_4 (k0 : V0 → V0 → Int → Int → Int → Bool → Option R) (x0 x1 : V0) (x2 x3 x4 : Int) := k0 x0 x1 x2 x3 x4 (decide (x4 < x3))
theorem t119_4 (x0 x1 x2 x3 x4) : exec cl N c119_4 (e106 x0 x1 x2 x3 x4) K = g119_4 (fun y0 y1 y2 y3 y4 y5 => K .normal (e107 y0 y1 y2 y3 y4 y5)) x0 x1 x2 x3 x4 := by kernel_rfl
theorem kp119_1 (x0 x1 x2 x3 x4 x5) : keep [1, 5, 6, 11, 12] (e107 x0 x1 x2 x3 x4 x5) = e106 x0 x1 x2 x3 x4 := by kernel_rfl
theorem hb119_0 (x0 x1 x2 x3 x4 x5) : boolOf? (ent (e107 x0 x1 x2 x3 x4 x5) (.t 13)) = some x5 := by kernel_rfl
def g119_19 (k0 : K7 R) (x0 x1 : V0) (x2 x3 x4 : Int) : Option R :=
if 0 ≤ x4 ∧ x4 < (x1.length : Int) then
if x4.toNat < x1.length then
if 0 ≤ x4 ∧ x4 < (x1.length : Int) then
if x4.toNat < x1.length then
k0 x0 (x1.set x4.toNat (IntKind.i64.wrap ((x1.getD x4.toNat (0 : Int)) - x2))) x4 x3 x4
else none
else none
else none
else none
theorem t119_19 (x0 x1 x2 x3 x4) : exec cl N c119_19 (e106 x0 x1 x2 x3 x4) K = g119_19 (fun y0 y1 y2 y3 y4 => exec cl N (.seq c119_11 c119_18) (e108 y0 y1 y2 y3 y4) K) x0 x1 x2 x3 x4 := by kernel_rfl
def g119_8 (k0 : V0 → V0 → Int → Int → Int → Bool → Option R) (x0 x1 : V0) (x2 x3 x4 : Int) := k0 x0 x1 x2 x3 x4 (decide (x2 < (x0.length : Int)))
theorem t119_8 (x0 x1 x2 x3 x4) : exec cl N c119_8 (e108 x0 x1 x2 x3 x4) K = g119_8 (fun y0 y1 y2 y3 y4 y5 => K .normal (e109 y0 y1 y2 y3 y4 y5)) x0 x1 x2 x3 x4 := by kernel_rfl
def g119_9 (k0 : K7 R) (x0 x1 : V0) (x2 x3 x4 : Int) (x5 : Bool) : Option R :=
if 0 ≤ x2 ∧ x2 < (x1.length : Int) then
if x2.toNat < x1.length then
if 0 ≤ x2 ∧ x2 < (x0.length : Int) then
if 0 ≤ x2 ∧ x2 < (x1.length : Int) then
if x2.toNat < x1.length then
k0 x0 (x1.set x2.toNat (IntKind.i64.wrap ((x1.getD x2.toNat (0 : Int)) - (x0.getD x2.toNat (0 : Int))))) x2 x3 x4
else none
else none
else none
else none
else none
theorem t119_9 (x0 x1 x2 x3 x4 x5) : exec cl N c119_9 (e109 x0 x1 x2 x3 x4 x5) K = g119_9 (fun y0 y1 y2 y3 y4 => K .normal (e108 y0 y1 y2 y3 y4)) x0 x1 x2 x3 x4 x5 := by kernel_rfl
theorem kp119_2 (x0 x1 x2 x3 x4) : keep [1, 5, 7, 11, 12] (e108 x0 x1 x2 x3 x4) = e108 x0 x1 x2 x3 x4 := by kernel_rfl
theorem kp119_3 (x0 x1 x2 x3 x4 x5) : keep [1, 5, 7, 11, 12] (e109 x0 x1 x2 x3 x4 x5) = e108 x0 x1 x2 x3 x4 := by kernel_rfl
theorem hb119_1 (x0 x1 x2 x3 x4 x5) : boolOf? (ent (e109 x0 x1 x2 x3 x4 x5) (.t 25)) = some x5 := by kernel_rfl
def g119_11 (k0 : K7 R) (x0 x1 : V0) (x2 x3 x4 : Int) := (g119_8 (fun y0 y1 y2 y3 y4 y5 => brB y5 (g119_9 k0 y0 y1 y2 y3 y4 y5) (k0 y0 y1 y2 y3 y4)) x0 x1 x2 x3 x4)
theorem t119_11 (x0 x1 x2 x3 x4) : exec cl N c119_11 (e108 x0 x1 x2 x3 x4) K = g119_11 (fun y0 y1 y2 y3 y4 => K .normal (e108 y0 y1 y2 y3 y4)) x0 x1 x2 x3 x4 := by
 simp only [c119_11, B0, t119_8, c119_10, exec_out, B1, hb119_1, Option.bind_some, t119_9, kp119_2, kp119_3]
 rfl
def g119_18 (k0 : V0 → V0 → Int → Int → Int → Int → Bool → Option R) (x0 x1 : V0) (x2 x3 x4 : Int) : Option R :=
if 0 ≤ x2 ∧ x2 < (x1.length : Int) then
if x2.toNat < x1.length then
k0 x0 x1 (0 : Int) x2 x3 x4 (decide ((x1.getD x2.toNat (0 : Int)) < (0 : Int)))
else none
else none
theorem t119_18 (x0 x1 x2 x3 x4) : exec cl N c119_18 (e108 x0 x1 x2 x3 x4) K = g119_18 (fun y0 y1 y2 y3 y4 y5 y6 => exec cl N c119_17 (e110 y0 y1 y2 y3 y4 y5 y6) K) x0 x1 x2 x3 x4 := by kernel_rfl
def g119_16 (k0 : K7 R) (x0 x1 : V0) (x2 x3 x4 x5 : Int) (x6 : Bool) : Option R :=
if 0 ≤ x3 ∧ x3 < (x1.length : Int) then
if x3.toNat < x1.length then
if 0 ≤ x3 ∧ x3 < (x1.length : Int) then
if x3.toNat < x1.length then
k0 x0 (x1.set x3.toNat (IntKind.i64.wrap ((x1.getD x3.toNat (0 : Int)) + (10000 : Int)))) (1 : Int) x4 x5
else none
else none
else none
else none
theorem t119_16 (x0 x1 x2 x3 x4 x5 x6) : exec cl N c119_16 (e110 x0 x1 x2 x3 x4 x5 x6) K = g119_16 (fun y0 y1 y2 y3 y4 => K .normal (e106 y0 y1 y2 y3 y4)) x0 x1 x2 x3 x4 x5 x6 := by kernel_rfl
theorem kp119_4 (x0 x1 x2 x3 x4 x5 x6) : keep [1, 5, 6, 11, 12] (e110 x0 x1 x2 x3 x4 x5 x6) = e106 x0 x1 x2 x4 x5 := by kernel_rfl
theorem hb119_2 (x0 x1 x2 x3 x4 x5 x6) : boolOf? (ent (e110 x0 x1 x2 x3 x4 x5 x6) (.t 40)) = some x6 := by kernel_rfl
def g119_20 (k0 : K7 R) (x0 x1 : V0) (x2 x3 x4 : Int) := (g119_19 (g119_11 (g119_18 (fun y0 y1 y2 y3 y4 y5 y6 => brB y6 (g119_16 k0 y0 y1 y2 y3 y4 y5 y6) (k0 y0 y1 y2 y4 y5)))) x0 x1 x2 x3 x4)
theorem t119_20 (x0 x1 x2 x3 x4) : exec cl N c119_20 (e106 x0 x1 x2 x3 x4) K = g119_20 (fun y0 y1 y2 y3 y4 => K .normal (e106 y0 y1 y2 y3 y4)) x0 x1 x2 x3 x4 := by
 simp only [c119_20, exec_out, B2, B0, t119_19, t119_11, t119_18, c119_17, B1, hb119_2, Option.bind_some, t119_16, kp119_0, kp119_4]
 rfl
def g119_21 (k0 : K7 R) (x0 x1 : V0) (x2 x3 x4 : Int) := k0 x0 x1 x2 x3 (IntKind.i64.wrap (x4 + (1 : Int)))
theorem t119_21 (x0 x1 x2 x3 x4) : exec cl N c119_21 (e106 x0 x1 x2 x3 x4) K = g119_21 (fun y0 y1 y2 y3 y4 => K .normal (e106 y0 y1 y2 y3 y4)) x0 x1 x2 x3 x4 := by kernel_rfl
def g119_22 (k0 : K7 R) (k1 : K7 R) (x0 x1 : V0) (x2 x3 x4 : Int) := (g119_4 (fun y0 y1 y2 y3 y4 y5 => brB y5 ((g119_20 (g119_21 k0)) y0 y1 y2 y3 y4) (k1 y0 y1 y2 y3 y4)) x0 x1 x2 x3 x4)
theorem t119_22 (x0 x1 x2 x3 x4) : exec cl N c119_22 (e106 x0 x1 x2 x3 x4) K = g119_22 (fun y0 y1 y2 y3 y4 => K .normal (e106 y0 y1 y2 y3 y4)) (fun y0 y1 y2 y3 y4 => K (.exit 0) (e106 y0 y1 y2 y3 y4)) x0 x1 x2 x3 x4 := by
 simp only [c119_22, B0, t119_4, c119_5, exec_out, B1, hb119_0, Option.bind_some, exec_exit, kp119_1, t119_20, t119_21]
 rfl
def l119_23 {R : Type} (k0 : K7 R) : Nat → V0 → V0 → Int → Int → Int → Option R
 | 0, _, _, _, _, _ => none
 | m + 1, x0, x1, x2, x3, x4 => (g119_22 (l119_23 k0 m) k0 x0 x1 x2 x3 x4)
theorem lt119_23 : ∀ (m) (x0 x1 x2 x3 x4), iter [1, 5, 6, 11, 12] (fun env K => exec cl N c119_22 env K) K m (e106 x0 x1 x2 x3 x4) = l119_23 (fun y0 y1 y2 y3 y4 => K (.exit 0) (e106 y0 y1 y2 y3 y4)) m x0 x1 x2 x3 x4 := by
 intro m
 induction m with
 | zero => intros; rfl
 | succ m ih =>
   intro x0 x1 x2 x3 x4
   simp only [B3, t119_22, kp119_0, ih]
   rfl
theorem kp119_5 (x0 x1 x2 x3 x4) : keep [5] (e106 x0 x1 x2 x3 x4) = e38 x1 := by kernel_rfl
def g119_23 (N : Nat) (k0 : K38 R) (x0 x1 : V0) (x2 x3 x4 : Int) : Option R :=
l119_23 (fun y0 y1 y2 y3 y4 => k0 y1) N x0 x1 x2 x3 x4
theorem t119_23 (x0 x1 x2 x3 x4) : exec cl N c119_23 (e106 x0 x1 x2 x3 x4) K = g119_23 N (fun y0 => K (.exit 0) (e38 y0)) x0 x1 x2 x3 x4 := by
 simp only [c119_23, exec_out, exec_loop, kp119_0, lt119_23, kp119_5]
 rfl
theorem kp119_6 (x0) : keep [5] (e38 x0) = e38 x0 := by kernel_rfl
def g119_25 (S118 : s118) (k0 : K38 R) (x0 : V0) : Option R :=
(S118 x0).bind fun r581 =>
k0 r581
theorem t119_25 (S118) (h118 : (ctr118 S118).holds cl) (x0) : exec cl N c119_25 (e38 x0) K = g119_25 S118 (fun y0 => K .normal [(4, .v U2 y0)]) x0 := by
 rw [← put_eq h118]
 kernel_rfl
def g119_26b (N : Nat) (S117 : s117) (S118 : s118) (k0 : K38 R) (x0 x1 : V0) := (g119_26 S117 (g119_3 (g119_23 N ((g119_25 S118 k0)))) x0 x1)
theorem t119_26b (S117) (S118) (h117 : (ctr117 S117).holds cl) (h118 : (ctr118 S118).holds cl) (x0 x1) : exec cl N c119_26 (e20 x0 x1) K = g119_26b N S117 S118 (fun y0 => K .ret [(4, .v U2 y0)]) x0 x1 := by
 simp only [B0, t119_26 S117 h117, t119_3, c119_24, exec_out, B2, t119_23, kp119_6, t119_25 S118 h118, exec_ret]
 rfl
theorem rk119_0 (y0) : retK d119 .ret [(4, .v U2 y0)] = some [.v U2 y0] := by kernel_rfl
def g119 (N : Nat) (S117 : s117) (S118 : s118) (x0 x1 : V0) (k : V0 → Option R) := (g119_26b N S117 S118 k x0 x1)
theorem gen119 (S117) (S118) (h117 : (ctr117 S117).holds cl) (h118 : (ctr118 S118).holds cl) (x0 x1) (k : List E → Option R) : exec cl N c119 (e20 x0 x1) (fun e env => (retK d119 e env).bind k) = g119 N S117 S118 x0 x1 (fun r0 => k [.v U2 r0]) := by
 simp only [c119, t119_26b S117 S118 h117 h118, rk119_0, Option.bind_some]
 rfl
def ctr119 (S : s119) : Ctr := cv2 119 U2 U2 S fun b => [.v U2 b]
def S119 (N : Nat) (x0 : V0) (x1 : V0) : Option V2 := g119 N (S117 N) (S118 N) x0 x1 (fun r0 => some (r0))
end Go.Fw.L51
