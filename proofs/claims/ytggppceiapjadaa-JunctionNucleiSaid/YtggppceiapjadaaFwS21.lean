/- Soundness, part 21: a region's operations, checked against the program's. -/
import Derived.Test.YtggppceiapjadaaFwE
import Derived.Test.YtggppceiapjadaaFwI
import Derived.Test.YtggppceiapjadaaFwMk
set_option linter.unusedVariables false
set_option linter.unusedSimpArgs false
namespace Go.Fw
open Go Go.RowKit

def tyB (P : Program) (t : TypeId) (T : Ty) : Bool := tyOk P 64 t T
theorem tyB_ok {P : Program} {t : TypeId} {T : Ty} (h : tyB P t T = true) : TyR P t T := ⟨⟨64, h⟩⟩

def zeroB (P : Program) (t : TypeId) (T : Ty) : Bool :=
  match P.info? t with
  | some i => match i.zero with
    | some z => match constV T (zero T) with
      | some vs => eqV T vs z
      | none => false
    | none => false
  | none => false
theorem zeroB_ok {P : Program} {t : TypeId} {T : Ty} (h : zeroB P t T = true) : ZeroOk P t T := by
  unfold zeroB at h
  split at h
  · rename_i i hi
    split at h
    · rename_i z hz
      split at h
      · rename_i vs hv
        exact ⟨⟨i, z, vs, hi, hz, hv, eqV_eq h⟩⟩
      · simp at h
    · simp at h
  · simp at h

def slB (P : Program) (t e : TypeId) : Bool := match P.underlying t with | some (.slice e') => e' == e | _ => false
theorem slB_ok {P : Program} {t e : TypeId} (h : slB P t e = true) : P.underlying t = some (.slice e) := by
  unfold slB at h
  split at h
  · rename_i e' he; rw [beq_iff_eq] at h; rw [he, h]
  · simp at h

def elemOf (P : Program) (t : TypeId) : Option TypeId := match P.underlying t with | some (.slice e) => some e | _ => none
theorem elemOf_ok {P : Program} {t e : TypeId} (h : elemOf P t = some e) : P.underlying t = some (.slice e) := by
  unfold elemOf at h
  split at h
  · rename_i e' he; cases h; exact he
  · simp at h

def arrOf (P : Program) (t : TypeId) : Option (Nat × TypeId) := match P.underlying t with | some (.array m e) => some (m, e) | _ => none
theorem arrOf_ok {P : Program} {t : TypeId} {q : Nat × TypeId} (h : arrOf P t = some q) : P.underlying t = some (.array q.1 q.2) := by
  unfold arrOf at h
  split at h
  · rename_i m e he; cases h; exact he
  · simp at h

def flsOf (P : Program) (t : TypeId) : Option (Array Field) := match P.underlying t with | some (.struct fs) => some fs | _ => none
theorem flsOf_ok {P : Program} {t : TypeId} {fs : Array Field} (h : flsOf P t = some fs) : P.underlying t = some (.struct fs) := by
  unfold flsOf at h
  split at h
  · rename_i m he; cases h; exact he
  · simp at h

def okOp (P : Program) (o : Oper) (i : AI) : Bool :=
  match i.op with
  | .mv y => (match o.op with | .move x => okOd x y | _ => false)
  | .asg y => (match o.op with | .assign x => okOd x y | _ => false)
  | .pick c' x' y' => (match o.op with | .pick c x y => okOd c c' && okOd x x' && okOd y y' | _ => false)
  | .alloc T oa => (match o.op with | .alloc t => zeroB P t T && annOk T oa | _ => false)
  | .box _ y => (match o.op with | .box _ x => okOd x y | _ => false)
  | .build T ys => (match o.op with
    | .build t us => zeroB P t T && isAggT T && tyB P t T && (match flsOf P t with
      | some fs => (match fs.toList.mapM (fun f => (P.info? f.type).map fun i => (f.offset, i.size)) with
        | some places => okParts T (places.toArray[·]?) us.toList ys
        | none => false)
      | none => (match arrOf P t with
        | some q => (match T with
          | .arr _ T' => tyB P q.2 T' && okParts T (fun i => some (i * cellsN T', cellsN T')) us.toList ys
          | _ => false)
        | none => false))
    | _ => false)
  | .buildN T oa ys => (match o.op with
    | .build t us => zeroB P t T && isAggT T && tyB P t T && annOk T oa && (match flsOf P t with
      | some fs => (match fs.toList.mapM (fun f => (P.info? f.type).map fun i => (f.offset, i.size)) with
        | some places => okParts T (places.toArray[·]?) us.toList ys
        | none => false)
      | none => false)
    | _ => false)
  | .buildSlice e T ys => (match o.op with
    | .buildSlice t m us => slB P t e && tyB P e T && zeroB P e T && us.size == m && okIdx us.toList 0 && okOds (us.toList.map (·.2)) ys && decide (m * cellsN T ≤ 2 ^ 24) && decide (m ≤ 2 ^ 24)
    | _ => false)
  | .load T y => (match o.op with | .load t x => tyB P t T && okOd x y | _ => false)
  | .store T y yv => (match o.op with | .store t x xv => tyB P t T && okOd x y && okOd xv yv && o.dst.isNone | _ => false)
  | .bin op' x' y' => (match o.op with | .binOp op _ x y _ => decide (op = op') && okOd x x' && okOd y y' | _ => false)
  | .un op' x' => (match o.op with | .unOp op _ x => decide (op = op') && okOd x x' | _ => false)
  | .convI k x' => (match o.op with | .convert s d x => okOd x x' && tyB P d (.int k) && (match P.underlying s with | some (.int ks) => tyB P s (.int ks) | _ => false) | _ => false)
  | .fieldAddr S p y => (match o.op with
    | .fieldAddr t x f => tyB P t S && okOd x y && decide (p = fpath f) && (match flsOf P t with | some fs => (fs[f]?).isSome | none => false) && (match subT S (fpath f) with | some A => !(cellsN A == 0) | none => false)
    | _ => false)
  | .field S p y => (match o.op with
    | .field t x f => tyB P t S && okOd x y && decide (p = fpath f) && (match flsOf P t with | some fs => (fs[f]?).isSome | none => false) && scalarT S
    | _ => false)
  | .indexAddr T y iy => (match o.op with | .indexAddr t x ix => okOd x y && okOd ix iy && (match elemOf P t with | some e => tyB P e T | none => false) | _ => false)
  | .indexArr m T y iy => (match o.op with | .indexAddr t x ix => okOd x y && okOd ix iy && (match arrOf P t with | some q => q.1 == m && tyB P q.2 T | none => false) | _ => false)
  | .indexS y iy => (match o.op with | .index t x ix => okOd x y && okOd ix iy && tyB P t .str | _ => false)
  | .indexA m T y iy => (match o.op with | .index t x ix => okOd x y && okOd ix iy && (match arrOf P t with | some q => q.1 == m && tyB P q.2 T | none => false) | _ => false)
  | .sliceS y lo' hi' => (match o.op with | .slice t x lo hi none => tyB P t .str && okOd x y && okOdO lo lo' && okOdO hi hi' | _ => false)
  | .sliceL T y lo' hi' mx' => (match o.op with | .slice t x lo hi mx => okOd x y && okOdO lo lo' && okOdO hi hi' && okOdO mx mx' && (!mx.isSome || hi.isSome) && (match elemOf P t with | some e => tyB P e T | none => false) | _ => false)
  | .mkSlice e T lim x' y' => (match o.op with
    | .makeSlice t x y => slB P t e && tyB P e T && zeroB P e T && okOd x x' && okOd y y' && (match P.info? e with | some it => decide (lim * it.bytes ≤ 140737488355328) && decide (lim ≤ maxLen) | none => false)
    | _ => false)
  | .lenS y => (match o.op with | .call { callee := .builtin .len, args := us, argTypes := ts } => (match us.toList, ts.toList with | [x], [t] => tyB P t .str && okOd x y | _, _ => false) | _ => false)
  | .lenL y => (match o.op with | .call { callee := .builtin .len, args := us, argTypes := ts } => (match us.toList, ts.toList with | [x], [t] => (elemOf P t).isSome && okOd x y | _, _ => false) | _ => false)
  | .lenA m => (match o.op with | .call { callee := .builtin .len, args := us, argTypes := ts } => (match us.toList, ts.toList with | [_], [t] => (match arrOf P t with | some q => q.1 == m | none => false) && decide (m ≤ maxLen) | _, _ => false) | _ => false)
  | .mm true x' y' => (match o.op with | .call { callee := .builtin .max, args := us, argTypes := _ } => (match us.toList with | [x, y] => okOd x x' && okOd y y' | _ => false) | _ => false)
  | .mm false x' y' => (match o.op with | .call { callee := .builtin .min, args := us, argTypes := _ } => (match us.toList with | [x, y] => okOd x x' && okOd y y' | _ => false) | _ => false)
  | .append e T lim sy y => (match o.op with
    | .call { callee := .builtin .append, args := us, argTypes := ts } => (match us.toList, ts.toList with
      | [s, x], [t, t'] => t == t' && slB P t e && tyB P e T && okOd x y && okOd s sy && (match P.info? e with
        | some it => (match it.zero with | some z => z.cells.size == cellsN T | none => false) && decide (lim * it.bytes ≤ 140737488355328) && decide (lim ≤ maxLen) && decide (e ≠ BUF)
        | none => false)
      | _, _ => false)
    | _ => false)
  | .call f ys => (match o.op with | .call { callee := .value (.func g), args := us, argTypes := _ } => g == f && okOds us.toList ys | _ => false)
  | .callv y ys => (match o.op with | .call { callee := .value x, args := us, argTypes := _ } => okOd x y && okOds us.toList ys | _ => false)
  | .extract k j => (match o.op with | .extract (.tmp k') j' => k == k' && j == j' && (match o.dst with | some d => !(d == k) | none => false) | _ => false)
  | .mkfn f _ _ ys => (match o.op with | .makeFunc (.func g) first us => g == f && first.size == 0 && okOds us.toList ys | _ => false)
  | .rng y => (match o.op with | .range t x => tyB P t .str && okOd x y | _ => false)
  | .bad => true
  | .toSl y => (match o.op with | .convert s d x => okOd x y && tyB P s .str && (match elemOf P d with | some e => tyB P e (.int .u8) | none => false) | _ => false)
  | .toStr y => (match o.op with | .convert s d x => okOd x y && tyB P d .str && (match elemOf P s with | some e => tyB P e (.int .u8) | none => false) | _ => false)
  | .nilck y => (match o.op with | .nilCheck x => okOd x y | _ => false)
  | .nxt k => (match o.op with | .next (.tmp k') true => k == k' | _ => false)
  | .eqT neg .bool x' y' => (match o.op with | .binOp op t x y _ => decide (op = if neg then .neq else .eql) && boolTy P t && okOd x x' && okOd y y' | _ => false)
  | .eqT neg T x' y' => (match o.op with | .binOp op t x y _ => decide (op = if neg then .neq else .eql) && eqStr P t T && okOd x x' && okOd y y' | _ => false)

def okAI (P : Program) (n : Nat) (o : Oper) (i : AI) : Bool := decide (i.dst = o.dst) && (match o.dst with | some d => decide (d < n) | none => true) && okOp P o i

theorem arr1 {α : Type} {us : Array α} {x : α} (h : us.toList = [x]) : us = #[x] := Array.toList_inj.1 (by simpa using h)
theorem arr2 {α : Type} {us : Array α} {x y : α} (h : us.toList = [x, y]) : us = #[x, y] := Array.toList_inj.1 (by simpa using h)

section
variable {P : Program} {B : Nat} {G0 : Nat → Nat → Prop} {W0 : World} {n : Nat} {env : Env} {tm : Array Value} {a : Act} {w : World} {ob : Nat → OB} {cl : Cal}
variable {R : Type} {K : Kont R} {r : R} {next : Act → World → Prop} {Q : Exit → Act → World → Prop} {o : Oper} {i : AI}

theorem st_ok (hgood : Good P cl) (hC : Conc P B G0 W0 n env a.tmps w ob) (hK : KOk P B G0 W0 n a K r next) (hok : okAI P n o i = true) (h : step cl i env K = some r) : o.wp P a w next Q := by
  simp only [okAI, Bool.and_eq_true, decide_eq_true_eq] at hok
  obtain ⟨⟨hdst, hdn⟩, hop⟩ := hok
  have hd : ∀ k, o.dst = some k → k < n := by
    intro k hk; rw [hk] at hdn; simpa using hdn
  unfold okOp at hop
  split at hop
  case h_1 y hi => split at hop; · rename_i x ho; exact st_mv hC hK hd hdst ho hi hop h
                   · simp at hop
  case h_2 y hi => split at hop; · rename_i x ho; exact st_asg hC hK hd hdst ho hi hop h
                   · simp at hop
  case h_3 c' x' y' hi =>
    split at hop
    · rename_i c x y ho; simp only [Bool.and_eq_true] at hop; exact st_pick hC hK hd hdst ho hi hop.1.1 hop.1.2 hop.2 h
    · simp at hop
  case h_4 T oa hi =>
    split at hop
    · rename_i t ho; simp only [Bool.and_eq_true] at hop; exact st_alloc hC hK hd hdst ho hi (zeroB_ok hop.1) hop.2 h
    · simp at hop
  case h_5 T y hi =>
    split at hop
    · rename_i t x ho; exact st_box hC hK hd hdst ho hi hop h
    · simp at hop
  case h_6 T ys hi =>
    split at hop
    · rename_i t us ho
      simp only [Bool.and_eq_true] at hop
      refine st_build hC hK hd hdst ho hi (zeroB_ok hop.1.1.1) hop.1.1.2 (tyB_ok hop.1.2) ?_ h
      have h2 := hop.2
      split at h2
      · rename_i fs hfs
        split at h2
        · rename_i places hp; exact .inl ⟨fs, places, flsOf_ok hfs, hp, h2⟩
        · simp at h2
      · split at h2
        · rename_i q hq
          split at h2
          · rename_i m' T'
            simp only [Bool.and_eq_true] at h2
            exact .inr ⟨q.1, q.2, T', arrOf_ok hq, tyB_ok h2.1, h2.2⟩
          · simp at h2
        · simp at h2
    · simp at hop
  case h_7 T oa ys hi =>
    split at hop
    · rename_i t us ho
      simp only [Bool.and_eq_true] at hop
      refine st_buildN hC hK hd hdst ho hi hop.1.2 (zeroB_ok hop.1.1.1.1) hop.1.1.1.2 (tyB_ok hop.1.1.2) ?_ h
      have h2 := hop.2
      split at h2
      · rename_i fs hfs
        split at h2
        · rename_i places hp; exact .inl ⟨fs, places, flsOf_ok hfs, hp, h2⟩
        · simp at h2
      · simp at h2
    · simp at hop
  case h_8 e T ys hi =>
    split at hop
    · rename_i t m us ho
      simp only [Bool.and_eq_true, decide_eq_true_eq, beq_iff_eq] at hop
      obtain ⟨⟨⟨⟨⟨⟨⟨h1, h2⟩, h3⟩, h4⟩, h5⟩, h6⟩, h7⟩, h8⟩ := hop
      exact st_buildSlice hC hK hd hdst ho hi (slB_ok h1) (tyB_ok h2) (zeroB_ok h3) h4 h5 h6 h7 h8 h
    · simp at hop
  case h_9 T y hi =>
    split at hop
    · rename_i t x ho; simp only [Bool.and_eq_true] at hop; exact st_load hC hK hd hdst ho hi (tyB_ok hop.1) hop.2 h
    · simp at hop
  case h_10 T y yv hi =>
    split at hop
    · rename_i t x xv ho; simp only [Bool.and_eq_true, Option.isNone_iff_eq_none] at hop; exact st_store hC hK hop.2 ho hi (tyB_ok hop.1.1.1) hop.1.1.2 hop.1.2 h
    · simp at hop
  case h_11 op' x' y' hi =>
    split at hop
    · rename_i op xt x y yt ho; simp only [Bool.and_eq_true, decide_eq_true_eq] at hop
      obtain ⟨⟨rfl, h1⟩, h2⟩ := hop
      exact st_bin hC hK hd hdst ho hi h1 h2 h
    · simp at hop
  case h_12 op' x' hi =>
    split at hop
    · rename_i op xt x ho; simp only [Bool.and_eq_true, decide_eq_true_eq] at hop
      obtain ⟨rfl, h1⟩ := hop
      exact st_un hC hK hd hdst ho hi h1 h
    · simp at hop
  case h_13 k x' hi =>
    split at hop
    · rename_i s d x ho; simp only [Bool.and_eq_true] at hop
      obtain ⟨⟨h1, h2⟩, h3⟩ := hop
      split at h3
      · exact st_convI hC hK hd hdst ho hi h1 (tyB_ok h3) (tyB_ok h2) h
      · simp at h3
    · simp at hop
  case h_14 S p y hi =>
    split at hop
    · rename_i t x f ho; simp only [Bool.and_eq_true, decide_eq_true_eq] at hop
      obtain ⟨⟨⟨⟨h1, h2⟩, rfl⟩, h4⟩, h5⟩ := hop
      split at h4
      · rename_i fs hfs
        obtain ⟨fd, hfd⟩ := Option.isSome_iff_exists.1 h4
        split at h5
        · rename_i A hA
          exact st_fieldAddr hC hK hd hdst ho hi (tyB_ok h1) (flsOf_ok hfs) hfd hA (by simpa using h5) h2 h
        · simp at h5
      · simp at h4
    · simp at hop
  case h_15 S p y hi =>
    split at hop
    · rename_i t x f ho; simp only [Bool.and_eq_true, decide_eq_true_eq] at hop
      obtain ⟨⟨⟨⟨h1, h2⟩, rfl⟩, h4⟩, h5⟩ := hop
      split at h4
      · rename_i fs hfs
        obtain ⟨fd, hfd⟩ := Option.isSome_iff_exists.1 h4
        exact st_field (A := .bool) hC hK hd hdst ho hi (tyB_ok h1) (flsOf_ok hfs) hfd h5 h2 h
      · simp at h4
    · simp at hop
  case h_16 T y iy hi =>
    split at hop
    · rename_i t x ix ho; simp only [Bool.and_eq_true] at hop
      obtain ⟨⟨h1, h2⟩, h3⟩ := hop
      split at h3
      · rename_i e he; exact st_indexAddr hC hK hd hdst ho hi (elemOf_ok he) (tyB_ok h3) h1 h2 h
      · simp at h3
    · simp at hop
  case h_17 m T y iy hi =>
    split at hop
    · rename_i t x ix ho; simp only [Bool.and_eq_true] at hop
      obtain ⟨⟨h1, h2⟩, h3⟩ := hop
      split at h3
      · rename_i q hq
        simp only [Bool.and_eq_true, beq_iff_eq] at h3
        obtain ⟨rfl, h4⟩ := h3
        exact st_indexArr hC hK hd hdst ho hi (arrOf_ok hq) (tyB_ok h4) h1 h2 h
      · simp at h3
    · simp at hop
  case h_18 y iy hi =>
    split at hop
    · rename_i t x ix ho; simp only [Bool.and_eq_true] at hop
      exact st_indexS hC hK hd hdst ho hi (tyB_ok hop.2) hop.1.1 hop.1.2 h
    · simp at hop
  case h_19 m T y iy hi =>
    split at hop
    · rename_i t x ix ho; simp only [Bool.and_eq_true] at hop
      obtain ⟨⟨h1, h2⟩, h3⟩ := hop
      split at h3
      · rename_i q hq
        simp only [Bool.and_eq_true, beq_iff_eq] at h3
        obtain ⟨rfl, h4⟩ := h3
        exact st_indexA hC hK hd hdst ho hi (arrOf_ok hq) (tyB_ok h4) h1 h2 h
      · simp at h3
    · simp at hop
  case h_20 y lo' hi' hi =>
    split at hop
    · rename_i t x lo hh ho; simp only [Bool.and_eq_true] at hop
      exact st_sliceS hC hK hd hdst ho hi (tyB_ok hop.1.1.1) hop.1.1.2 hop.1.2 hop.2 h
    · simp at hop
  case h_21 T y lo' hi' mx' hi =>
    split at hop
    · rename_i t x lo hh mx ho; simp only [Bool.and_eq_true, Bool.or_eq_true, Bool.not_eq_true'] at hop
      obtain ⟨⟨⟨⟨⟨h1, h2⟩, h3⟩, h4⟩, h5⟩, h6⟩ := hop
      split at h6
      · rename_i e he
        exact st_sliceL hC hK hd hdst ho hi (elemOf_ok he) (tyB_ok h6) h1 h2 h3 h4 (fun hm => h5.resolve_left (by rw [hm]; simp)) h
      · simp at h6
    · simp at hop
  case h_22 e T lim x' y' hi =>
    split at hop
    · rename_i t x y ho
      simp only [Bool.and_eq_true] at hop
      obtain ⟨⟨⟨⟨⟨h1, h2⟩, h3⟩, h4⟩, h5⟩, h6⟩ := hop
      split at h6
      · rename_i it hit
        simp only [Bool.and_eq_true, decide_eq_true_eq] at h6
        exact st_mkSlice hC hK hd hdst ho hi (slB_ok h1) (tyB_ok h2) (zeroB_ok h3) h4 h5 hit h6.1 h6.2 h
      · simp at h6
    · simp at hop
  case h_23 y hi =>
    split at hop
    · rename_i us ts ho
      split at hop
      · rename_i x t hu ht
        simp only [Bool.and_eq_true] at hop
        rw [arr1 hu, arr1 ht] at ho
        exact st_lenS hC hK hd hdst ho hi (tyB_ok hop.1) hop.2 h
      · simp at hop
    · simp at hop
  case h_24 y hi =>
    split at hop
    · rename_i us ts ho
      split at hop
      · rename_i x t hu ht
        simp only [Bool.and_eq_true] at hop
        rw [arr1 hu, arr1 ht] at ho
        obtain ⟨e, he⟩ := Option.isSome_iff_exists.1 hop.1
        exact st_lenL hC hK hd hdst ho hi (elemOf_ok he) hop.2 h
      · simp at hop
    · simp at hop
  case h_25 m hi =>
    split at hop
    · rename_i us ts ho
      split at hop
      · rename_i x t hu ht
        simp only [Bool.and_eq_true, decide_eq_true_eq] at hop
        rw [arr1 hu, arr1 ht] at ho
        obtain ⟨h1, h2⟩ := hop
        split at h1
        · rename_i q hq
          rw [beq_iff_eq] at h1
          have := arrOf_ok hq
          rw [h1] at this
          exact st_lenA hC hK hd hdst ho hi this h2 h
        · simp at h1
      · simp at hop
    · simp at hop
  case h_26 x' y' hi =>
    split at hop
    · rename_i us ts ho
      split at hop
      · rename_i x y hu
        simp only [Bool.and_eq_true] at hop
        rw [arr2 hu] at ho
        exact st_mm (mx := true) hC hK hd hdst ho hi hop.1 hop.2 h
      · simp at hop
    · simp at hop
  case h_27 x' y' hi =>
    split at hop
    · rename_i us ts ho
      split at hop
      · rename_i x y hu
        simp only [Bool.and_eq_true] at hop
        rw [arr2 hu] at ho
        exact st_mm (mx := false) hC hK hd hdst ho hi hop.1 hop.2 h
      · simp at hop
    · simp at hop
  case h_28 e T lim sy y hi =>
    split at hop
    · rename_i us ts ho
      split at hop
      · rename_i s x t t' hu ht
        simp only [Bool.and_eq_true, beq_iff_eq] at hop
        obtain ⟨⟨⟨⟨⟨rfl, h2⟩, h3⟩, h4⟩, h5⟩, h6⟩ := hop
        rw [arr2 hu, arr2 ht] at ho
        split at h6
        · rename_i it hit
          simp only [Bool.and_eq_true, decide_eq_true_eq] at h6
          obtain ⟨⟨⟨h7, h8⟩, h9⟩, h10⟩ := h6
          split at h7
          · rename_i z hz
            rw [beq_iff_eq] at h7
            exact st_append hC hK hd hdst ho hi (slB_ok h2) (tyB_ok h3) hit hz h7 h8 h9 h10 h4 h5 h
          · simp at h7
        · simp at h6
      · simp at hop
    · simp at hop
  case h_29 f ys hi =>
    split at hop
    · rename_i g us ts ho
      simp only [Bool.and_eq_true, beq_iff_eq] at hop
      obtain ⟨rfl, h1⟩ := hop
      exact st_call hgood hC hK hd hdst ho hi h1 h
    · simp at hop
  case h_30 y ys hi =>
    split at hop
    · rename_i x us ts ho
      simp only [Bool.and_eq_true] at hop
      exact st_callv hgood hC hK hd hdst ho hi hop.1 hop.2 h
    · simp at hop
  case h_31 k j hi =>
    split at hop
    · rename_i k' j' ho
      simp only [Bool.and_eq_true, beq_iff_eq] at hop
      obtain ⟨⟨rfl, rfl⟩, h1⟩ := hop
      split at h1
      · rename_i d hdd
        exact st_extract hC hK hd hdst ho hi ⟨d, hdd, by simpa using h1⟩ h
      · simp at h1
    · simp at hop
  case h_32 f A C ys hi =>
    split at hop
    · rename_i g first us ho
      simp only [Bool.and_eq_true, beq_iff_eq] at hop
      obtain ⟨⟨rfl, h1⟩, h2⟩ := hop
      have : first = #[] := Array.eq_empty_of_size_eq_zero h1
      subst this
      exact st_mkfn hC hK hd hdst ho hi h2 h
    · simp at hop
  case h_33 y hi =>
    split at hop
    · rename_i t x ho
      simp only [Bool.and_eq_true] at hop
      exact st_rng hC hK hd hdst ho hi (tyB_ok hop.1) hop.2 h
    · simp at hop
  case h_34 hi =>
    unfold step at h; rw [hi] at h; simp at h
  case h_35 y hi =>
    split at hop
    · rename_i s d x ho
      simp only [Bool.and_eq_true] at hop
      obtain ⟨⟨h1, h2⟩, h3⟩ := hop
      split at h3
      · rename_i e he; exact st_toSl hC hK hd hdst ho hi (tyB_ok h2).str (elemOf_ok he) (tyB_ok h3).int h1 h
      · simp at h3
    · simp at hop
  case h_36 y hi =>
    split at hop
    · rename_i s d x ho
      simp only [Bool.and_eq_true] at hop
      obtain ⟨⟨h1, h2⟩, h3⟩ := hop
      split at h3
      · rename_i e he; exact st_toStr hC hK hd hdst ho hi (elemOf_ok he) (tyB_ok h3).int (tyB_ok h2).str h1 h
      · simp at h3
    · simp at hop
  case h_37 y hi =>
    split at hop
    · rename_i x ho
      exact st_nilck hC hK hd hdst ho hi hop h
    · simp at hop
  case h_38 k hi =>
    split at hop
    · rename_i k' ho
      rw [beq_iff_eq] at hop
      subst hop
      exact st_nxt hC hK hd hdst ho hi h
    · simp at hop
  case h_39 neg x' y' hi =>
    split at hop
    · rename_i op t x y yt ho
      simp only [Bool.and_eq_true, decide_eq_true_eq] at hop
      obtain ⟨⟨⟨rfl, h2⟩, h3⟩, h4⟩ := hop
      exact st_eqB hC hK hd hdst ho hi h2 h3 h4 h
    · simp at hop
  case h_40 neg T x' y' _ hi =>
    split at hop
    · rename_i op t x y yt ho
      simp only [Bool.and_eq_true, decide_eq_true_eq] at hop
      obtain ⟨⟨⟨rfl, h2⟩, h3⟩, h4⟩ := hop
      exact st_eqS hC hK hd hdst ho hi h2 h3 h4 h
    · simp at hop

end
end Go.Fw
